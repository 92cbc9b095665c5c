/-
  Texts put together: Store, RangeO2, OwnC, BkInfo, BkCopy1, BkTests, BkCopyP, BkTests2, BkCopyK, EagerT.
-/
import Derived.Test.YtnfgilbaglfkeaaBa
import Derived.Deep.MidRow
import Derived.Test.YtnfgilbaglfkeaaBb
import Derived.Deep.Cut
namespace Go.Proofs.Ytnfgilbaglfkeaa
open Go.RowKit
theorem Fr.setCells {M : Nat → Prop} {a : World} {g : Nat} : ∀ (vs : List Value) (o : Nat) {b : World}, Fr M a b → (M g ∨ a.heap.size ≤ g) → Fr M a (b.setCells g o vs)
 | [], _, _, h, _ => h
 | v :: vs, o, _, h, hg => Fr.setCells vs (o + 1) (h.setCell (p := ⟨g, o, none⟩) hg v) hg
theorem ownsRow_setCells {g : Nat} {e : TypeId} {size n cap : Nat} : ∀ (vs : List Value) (o : Nat) {w : World} {xs : List Value}, w.ownsRow 0 e size (.slice (some ⟨g, 0, none⟩) n cap) n xs → (w.setCells g o vs).ownsRow 0 e size (.slice (some ⟨g, 0, none⟩) n cap) n ((vs.zipIdx o).foldl (fun l (v, j) => l.set j v) xs)
 | [], _, _, _, h => h
 | v :: vs, o, _, _, h => by
   rw [List.zipIdx_cons, List.foldl_cons]
   exact ownsRow_setCells vs (o + 1) ((h.stored o v).1)
theorem zip_shift : ∀ (vs : List Value) (o s : Nat) (xs : List Value), (vs.zipIdx (o + s)).foldl (fun l (v, j) => l.set j v) xs = (vs.zipIdx s).foldl (fun l (v, j) => l.set (o + j) v) xs
 | [], _, _, _ => rfl
 | v :: vs, o, s, xs => by
   rw [List.zipIdx_cons, List.zipIdx_cons, List.foldl_cons, List.foldl_cons]
   exact zip_shift vs o (s + 1) _
theorem ownsRow_element {α : Type} {cells : α → List Value} {w : World} {g : Nat} {e : TypeId} {size n cap : Nat} (hsz : ∀ x, (cells x).length = size) (h0 : 0 < size) {l : List α} (h : w.ownsRow 0 e size (.slice (some ⟨g, 0, none⟩) n cap) n (l.flatMap cells)) (k : Nat) (hk : k < l.length) (y : α) :
 (w.setCells g (k * size) (cells y)).ownsRow 0 e size (.slice (some ⟨g, 0, none⟩) n cap) n ((l.set k y).flatMap cells) := by
 have h1 := ownsRow_setCells (w := w) (cells y) (k * size) h
 have h2 := zip_shift (cells y) (k * size) 0 (l.flatMap cells)
 rw [Nat.add_zero] at h2
 rw [h2] at h1
 have h3 := flat_set hsz h0 l k hk y
 unfold setAll at h3
 rw [h3] at h1
 exact h1
theorem step_store_el {P : Program} {ops : Array Oper} {o : Oper} {a : Act} {w : World} {K : Act → World → Prop} {Q : Exit → Act → World → Prop} {E : Prop} (hgd : o.guard = none) (ty : TypeId) (x y : Operand) (ho : o.op = .store ty x y)
 (b off : Nat) (cells : Array Value) (hx : a.eval x = .pointer (some ⟨b, off, none⟩)) (hy : a.eval y = .agg cells)
 (ht : w.there b off cells.size) (hi : (P.info? ty).map (·.size) = some cells.size) (h1 : cells.all (·.oneCell') = true)
 (h : K (a.put o.dst undef) (w.setCells b off cells.toList)) : if Region.wanted o (yielded ops a.tmps) = true then Oper.wp P o a w K Q else E := by
 rw [if_pos (by simp [Region.wanted, hgd])]
 exact wp_store_mid ty x y ho b off cells hx hy ht hi h1 h
theorem Blk.farCells {g' : Nat} {t : TypeId} {cs : Array Value} {g : Nat} : ∀ (vs : List Value) (o : Nat) {w : World}, Blk w g' t cs → g' ≠ g → Blk (w.setCells g o vs) g' t cs
 | [], _, _, h, _ => h
 | v :: vs, o, _, h, hn => Blk.farCells vs (o + 1) (h.far (p := ⟨g, o, none⟩) hn v) hn
theorem Room.there {w : World} {g : Nat} {e : TypeId} {m : Nat} (h : Room w g e m) {o n : Nat} (hn : o + n ≤ m) : w.there g o n := fun j hj => by
 obtain ⟨u, hu⟩ := h.cell (i := o + j) (by omega)
 exact ⟨by rw [hu]; rfl, h.frozen _⟩
theorem Blk.range {w : World} {g : Nat} {t : TypeId} {cs : Array Value} (h : Blk w g t cs) : w.rangeAt g 0 cs.toList := fun j v hv => by
 rw [Nat.zero_add, h.cell]; simpa using hv
theorem Blk.there {w : World} {g : Nat} {t : TypeId} {cs : Array Value} (h : Blk w g t cs) : w.there g 0 cs.size := fun j hj => by
 rw [Nat.zero_add]
 exact ⟨by rw [h.cell, Array.getElem?_eq_getElem hj]; rfl, h.frozen j⟩
theorem Below.setCells' {B : Nat} {a : World} {g : Nat} : ∀ (vs : List Value) (o : Nat) {b : World}, Below B a b → B ≤ g → Below B a (b.setCells g o vs)
 | [], _, _, h, _ => h
 | v :: vs, o, _, h, hg => Below.setCells' vs (o + 1) (h.setCell (show B ≤ (⟨g, o, none⟩ : Addr).block from hg) v) hg
theorem results_cell_tmp {P : Program} {fn : Func} {t s : Tmp} {T : TypeId} (h : fn.results = #[.cell t T, .tmp s]) (tmps : Array Value) (w : World) (g : Nat) (cs : List Value) (d : TypeDesc) (ht : tmps.getD t undef = .pointer (some ⟨g, 0, none⟩)) (hc : w.rangeAt g 0 cs)
 (hu : P.underlying T = some d) (hd : d.isRow = true) (hi : (P.info? T).map (·.size) = some cs.length) : (results fn tmps).run P w = .ok (.tuple #[.agg cs.toArray, tmps.getD s undef]) w := by
 have hl := run_loadVar_mid (P := P) w g 0 T cs d hc hu hd hi
 have ht' : tmps[t]?.getD undef = .pointer (some ⟨g, 0, none⟩) := by simpa using ht
 simp [results, h, ht', asAddr, hl]
theorem results_cell {P : Program} {fn : Func} {t : Tmp} {T : TypeId} (h : fn.results = #[.cell t T]) (tmps : Array Value) (w : World) (g : Nat) (cs : List Value) (d : TypeDesc) (ht : tmps.getD t undef = .pointer (some ⟨g, 0, none⟩)) (hc : w.rangeAt g 0 cs)
 (hu : P.underlying T = some d) (hd : d.isRow = true) (hi : (P.info? T).map (·.size) = some cs.length) : (results fn tmps).run P w = .ok (.agg cs.toArray) w := by
 have hl := run_loadVar_mid (P := P) w g 0 T cs d hc hu hd hi
 have ht' : tmps[t]?.getD undef = .pointer (some ⟨g, 0, none⟩) := by simpa using ht
 simp [results, h, ht', asAddr, hl]
theorem RowRd.range {α : Type} {w : World} {size c : Nat} {cells : α → List Value} {A : Option Addr} {l : List α} (h : RowRd w size cells A c l) {k : Nat} (hk : k < l.length) : ∃ b off, A = some ⟨b, off, none⟩ ∧ b < w.heap.size ∧ w.rangeAt b (off + k * size) (cells l[k]) := by
 obtain ⟨b, off, h1, h2, h3⟩ := h.at_ hk
 exact ⟨b, off, h1, h2, fun j v hv => h3 j v hv⟩
theorem rangeAt_below {w w' : World} {B g o : Nat} {cs : List Value} (h : w.rangeAt g o cs) (hb : Below B w w') (hg : g < B) : w'.rangeAt g o cs := fun j v hv => (hb.cell (p := ⟨g, o + j, none⟩) hg).trans (h j v hv)
end Go.Proofs.Ytnfgilbaglfkeaa
namespace Go.Proofs.Ytnfgilbaglfkeaa
open Go.RowKit
variable {P : Program} {α : Type}
def ItSt (J : (Nat → Prop) → List α → World → Prop) (D E : Nat → Prop) (W : World) (pre : List α) (X : World) : Prop :=
 ∃ D', (∀ k, D k → D' k) ∧ (∀ k, E k → D' k) ∧ J D' pre X ∧ Fr (fun j => ¬ D j) W X ∧ (∀ k, E k → W.heap.size ≤ k)
section
variable {J Jx : (Nat → Prop) → List α → World → Prop} {D E E' : Nat → Prop} {W X Y : World} {pre xs : List α}
theorem ItSt.start (h : J D [] W) : ItSt J D (fun _ => False) W [] W := ⟨D, fun _ h => h, fun _ h => h.elim, h, Fr.refl _ _, fun _ h => h.elim⟩
theorem ItSt.fr (h : ItSt J D E W pre X) : Fr (fun j => ¬ D j) W X := by
 obtain ⟨_, _, _, _, h, _⟩ := h
 exact h
theorem ItSt.weak (h : ItSt J D E W pre X) (hE : ∀ k, E' k → E k) : ItSt J D E' W pre X := by
 obtain ⟨D', h1, h2, h3, h4, h5⟩ := h
 exact ⟨D', h1, fun k hk => h2 k (hE k hk), h3, h4, fun k hk => h5 k (hE k hk)⟩
theorem ItSt.step (h : ItSt J D E W pre X) (hJ : Steady W.heap.size J) (hF : Fr E X Y) : ItSt J D (Plus E X Y) W pre Y := by
 obtain ⟨D', h1, h2, h3, h4, h5⟩ := h
 refine ⟨Plus D' X Y, fun k hk => .inl (h1 k hk), fun k hk => hk.imp (h2 k) id, hJ _ _ _ _ h3 (hF.mono (fun k _ hk => ⟨h2 k hk, h5 k hk⟩)), h4.into hF (fun k hk => .inr (h5 k hk)), fun k hk => ?_⟩
 rcases hk with hk | hk
 · exact h5 k hk
 · exact Nat.le_trans h4.size hk.1
theorem ItSt.new_ (h : ItSt J D E W pre X) (hJ : Steady W.heap.size J) (hb : Below X.heap.size X Y) : ItSt J D (Plus E X Y) W pre Y := h.step hJ (Fr.of_new hb)
theorem ItSt.round {l : Nat} {encs : α → Array Value} {x : α} {post : List α} (h : ItSt J D E W pre X) (hY : RoundsO P l encs xs J Jx) (hx : xs = pre ++ x :: post) :
 YieldAt Fence.wide 0 P l (encs x) X fun e W' => (e = .returned (.bool true) ∧ ItSt J D E W (pre ++ [x]) W' ∧ Fr (fun k => ¬ (D k ∨ E k)) X W') ∨ (e = .returned (.bool false) ∧ ToldO xs J Jx W' ∧ Fr (fun k => ¬ (D k ∨ E k)) X W') := by
 obtain ⟨D', h1, h2, h3, h4, h5⟩ := h
 obtain ⟨fn, tmps, assign, body, hy, hR⟩ := hY D' pre x post X hx h3
 refine ⟨fn, tmps, assign, body, hy, hR.mono ?_⟩
 rintro e W' (⟨g1, g2, g3⟩ | ⟨g1, g2, g3⟩)
 · exact .inl ⟨g1, ⟨D', h1, h2, g2, h4.trans (g3.mono (fun k _ hk hd => hk (h1 k hd))), h5⟩, g3.mono (fun k _ hk hd => hk (hd.elim (h1 k) (h2 k)))⟩
 · exact .inr ⟨g1, ⟨D', .inr ⟨pre ++ [x], post, by rw [hx]; simp, g2⟩⟩, g3.mono (fun k _ hk hd => hk (hd.elim (h1 k) (h2 k)))⟩
theorem ItSt.told (h : ItSt J D E W xs X) : ToldO xs J Jx X := by
 obtain ⟨D', _, _, h3, _, _⟩ := h
 exact ⟨D', .inl h3⟩
end
theorem wpListIn_app {F : Fence} {n1 : Nat} (w : World) {ops : Array Oper} {rest : List Oper} {o : Oper} {a : Go.Act} {Q : Exit → Go.Act → World → Prop} (hgd : o.guard = none) (s x : Operand) (t : TypeId)
 (ho : o.op = .call { callee := .builtin .append, args := #[s, x], argTypes := #[t, t] })
 (e : TypeId) (i : TypeInfo) (z : Value) (size bytes : Nat) (ht : P.underlying t = some (.slice e)) (hi : P.info? e = some i) (hz : i.zero = some z)
 (hsize : i.size = size) (hby : i.bytes = bytes) (hzs : z.cells.size = size) (hsz : 0 < size)
 (v : Value) (n : Nat) (xs : List Value) (hs : a.eval s = v) (hown : w.ownsRow 0 e size v n xs)
 (A : Option Addr) (m c : Nat) (news : List Value) (hx : a.eval x = .slice A m c) (hl : news.length = m * size)
 (hnews : 0 < m → ∃ ad, A = some ad ∧ ∀ j u, news[j]? = some u → w.cell? (ad.add j) = some u) (h1 : ∀ u ∈ news, u.oneCell' = true)
 (h63 : n + m ≤ maxLen) (hbytes : (n + m) * bytes ≤ 140737488355328)
 (h : ∀ v' w', w'.ownsRow 0 e size v' (n + m) (xs ++ news) → w.grownBy w' v.ownBlock → (v' = .slice none 0 0 ↔ v = .slice none 0 0 ∧ m = 0) → (v'.ownBlock = v.ownBlock ∨ v'.ownBlock = some w.heap.size) → wpListIn F n1 P ops Q rest (a.put o.dst v') w') :
 wpListIn F n1 P ops Q (o :: rest) a w := by
 refine wpListIn_plain hgd fun K hK' => ?_
 obtain ⟨v', w', hrun, r1, r2, r3, r4⟩ := run_append_src (P := P) w t o.type e i z size bytes ht hi hz hsize hby hzs hsz v n xs hown A m c news hl hnews h1 h63 hbytes
 unfold Oper.wpIn
 refine ⟨?_, ?_⟩
 · simp [Oper.about, ho, resolve, Target.leads, Sem.run_pure]
 · rw [Oper.semAt_plain F _ _ (by rw [ho]; intro c hc'; cases hc')]
   simp [execOp, ho, resolve, invoke, builtin, hs, hx, hrun, Result.andThen]
   exact hK' _ _ (h v' w' r1 r2 r3 r4)
theorem wpListIn_load_mid {F : Fence} {n1 : Nat} {w : World} {ops : Array Oper} {rest : List Oper} {o : Oper} {a : Go.Act} {Q : Exit → Go.Act → World → Prop} (hgd : o.guard = none) (ty : TypeId) (x : Operand) (ho : o.op = .load ty x)
 (b of : Nat) (hx : a.eval x = .pointer (some ⟨b, of, none⟩)) (cs : List Value) (d : TypeDesc) (hc : w.rangeAt b of cs)
 (hu : P.underlying ty = some d) (hd : d.isRow = true) (hi : (P.info? ty).map (·.size) = some cs.length)
 (h : wpListIn F n1 P ops Q rest (a.put o.dst (.agg cs.toArray)) w) : wpListIn F n1 P ops Q (o :: rest) a w := by
 refine wpListIn_plain hgd fun K hK' => ?_
 unfold Oper.wpIn
 refine ⟨?_, ?_⟩
 · simp [Oper.about, ho]
 · rw [Oper.semAt_plain F _ _ (by rw [ho]; intro c hc'; cases hc')]
   unfold execOp
   simp only [ho, hx, Instr.loadAt, Instr.sureAddr, Sem.run_bind, Sem.run_pure, Result.andThen_ok, run_loadVar_mid w b of ty cs d hc hu hd hi]
   exact hK' _ _ h
theorem wpListIn_store_mid {F : Fence} {n1 : Nat} {w : World} {ops : Array Oper} {rest : List Oper} {o : Oper} {a : Go.Act} {Q : Exit → Go.Act → World → Prop} (hgd : o.guard = none) (ty : TypeId) (x y : Operand) (ho : o.op = .store ty x y)
 (b of : Nat) (cells : Array Value) (hx : a.eval x = .pointer (some ⟨b, of, none⟩)) (hy : a.eval y = .agg cells)
 (ht : w.there b of cells.size) (hi : (P.info? ty).map (·.size) = some cells.size) (h1 : cells.all (·.oneCell') = true)
 (h : wpListIn F n1 P ops Q rest (a.put o.dst undef) (w.setCells b of cells.toList)) : wpListIn F n1 P ops Q (o :: rest) a w := by
 refine wpListIn_plain hgd fun K hK' => ?_
 unfold Oper.wpIn
 refine ⟨?_, ?_⟩
 · simp [Oper.about, ho]
 · rw [Oper.semAt_plain F _ _ (by rw [ho]; intro c hc'; cases hc')]
   unfold execOp
   simp only [ho, hx, hy, Instr.storeAt, Instr.sureAddr, Sem.run_bind, Sem.run_pure, Result.andThen_ok, run_storeVar_mid w b of ty cells ht hi h1]
   exact hK' _ _ h
theorem size_setCells (b : Nat) : ∀ (vs : List Value) (o : Nat) (w : World), (w.setCells b o vs).heap.size = w.heap.size
 | [], _, _ => rfl
 | v :: r, o, w => by rw [World.setCells, size_setCells b r (o + 1)]; simp [World.setCell]
theorem kept_new {w : World} {t : TypeId} (zs vs : List Value) (hl : zs.length = vs.length) :
 ∃ W, W = (w.alloc (.cells zs.toArray t)).setCells w.heap.size 0 vs ∧ (w.alloc (.cells zs.toArray t)).there w.heap.size 0 vs.toArray.size ∧ W.rangeAt w.heap.size 0 vs ∧ Below w.heap.size w W ∧ W.heap.size = w.heap.size + 1 := by
 have ht : (w.alloc (.cells zs.toArray t)).there w.heap.size 0 vs.length := by
  have := (Blk.new w t zs.toArray).there
  rwa [show zs.toArray.size = vs.length by simpa using hl] at this
 refine ⟨_, rfl, by simpa using ht, World.rangeAt_setCells_same _ _ _ _ ht, Below.setCells' _ _ ((Below.refl _ _).alloc (Nat.le_refl _) _) (Nat.le_refl _), ?_⟩
 rw [size_setCells, World.size_alloc]
theorem Blk.setCells_ {g : Nat} {t : TypeId} : ∀ (vs : List Value) (o : Nat) {w : World} {cs : Array Value}, Blk w g t cs → ∃ cs', Blk (w.setCells g o vs) g t cs' ∧ cs'.size = cs.size
 | [], _, _, cs, h => ⟨cs, h, rfl⟩
 | v :: vs, o, w, cs, h => by
   obtain ⟨cs', h1, h2⟩ := Blk.setCells_ vs (o + 1) (h.set_ o v)
   exact ⟨cs', h1, by rw [h2]; simp⟩
theorem kept_blk {w W : World} {t : TypeId} {zs vs : List Value} (hl : zs.length = vs.length) (hW : W = (w.alloc (.cells zs.toArray t)).setCells w.heap.size 0 vs) (hr : W.rangeAt w.heap.size 0 vs) : Blk W w.heap.size t vs.toArray := by
 obtain ⟨cs', h1, h2⟩ := Blk.setCells_ vs 0 (Blk.new w t zs.toArray)
 rw [← hW] at h1
 have e : cs' = vs.toArray := by
  apply Array.ext
  · rw [h2]; simpa using hl
  · intro i hi hj
    have hj' : i < vs.length := by simpa using hj
    have h3 := hr i vs[i] (List.getElem?_eq_getElem hj')
    rw [show (0 + i) = i by omega, h1.cell i, Array.getElem?_eq_getElem hi] at h3
    simpa using h3
 rw [← e]; exact h1
theorem grown_own {E : Nat → Prop} {X Y : World} {e : TypeId} {size n m : Nat} {A : Option Addr} {c : Nat} {v' : Value} {xs news : List Value} (hA : AIn A E) (hown' : Y.ownsRow 0 e size v' (n + m) (xs ++ news)) (hg : X.grownBy Y (Value.slice A n c).ownBlock)
 (hat : v'.ownBlock = (Value.slice A n c).ownBlock ∨ v'.ownBlock = some X.heap.size) : ∃ A' c', v' = .slice A' (n + m) c' ∧ Fr E X Y ∧ AIn A' (Plus E X Y) ∧ Y.ownsRow 0 e size (.slice A' (n + m) c') (n + m) (xs ++ news) := by
 obtain ⟨A', c', rfl, hc, _, hz⟩ := own_form2 hown'
 refine ⟨A', c', rfl, (Fr.refl E X).grown hg (fun k hk => ?_), fun a ha => ?_, hown'⟩
 · rcases A with _ | a
   · simp [Value.ownBlock] at hk
   · have e : a.block = k := by simpa [Value.ownBlock] using hk
     exact .inl (e ▸ hA a rfl)
 · subst ha
   rcases hat with h | h
   · rcases A with _ | b
     · simp [Value.ownBlock] at h
     · have e : a.block = b.block := by simpa [Value.ownBlock] using h
       exact .inl (e ▸ hA b rfl)
   · have e : a.block = X.heap.size := by simpa [Value.ownBlock] using h
     refine .inr ⟨by omega, ?_⟩
     rcases ownsRow_form hown' with ⟨hv, _⟩ | ⟨g, cap, hv, _, _, hr, _⟩
     · cases hv
     · injection hv with hv
       injection hv with hv
       subst hv
       exact hr.lt
end Go.Proofs.Ytnfgilbaglfkeaa
namespace Go.Proofs.Ytnfgilbaglfkeaa
open Go.RowKit
def NewD (B : Nat) (w : World) : Nat → Prop := fun k => B ≤ k ∧ k < w.heap.size
def OwnC {α : Type} (r : RepT α) (e : TypeId) (C : Nat → Prop) (w : World) (v : Value) (l : List α) : Prop :=
 ∃ css, w.ownsRow 0 e r.size v l.length css.flatten ∧ Each2 (fun a cs => r.rep C w a cs) l css ∧ ∀ k, v.ownBlock = some k → ¬ C k
theorem own_lt {w : World} {e : TypeId} {size n : Nat} {v : Value} {xs : List Value} (h : w.ownsRow 0 e size v n xs) : ∀ k, v.ownBlock = some k → k < w.heap.size := by
 intro k hk
 rcases h.2 with ⟨rfl, _⟩ | ⟨g, cap, cur, rfl, _, hg, _⟩
 · cases hk
 · simp only [Value.ownBlock, Option.some.injEq] at hk
   subst hk
   exact Blk.lt (t := e) hg
section
variable {α : Type} {r : RepT α} {e : TypeId} {C C' : Nat → Prop} {w w' : World} {v : Value} {l : List α}
theorem OwnC.nil (r : RepT α) (e : TypeId) (C : Nat → Prop) (w : World) : OwnC r e C w (.slice none 0 0) [] := ⟨[], ⟨by simp, .inl ⟨rfl, rfl⟩⟩, .nil, fun _ h => by cases h⟩
theorem OwnC.form (h : OwnC r e C w v l) : ∃ A c, v = .slice A l.length c ∧ l.length ≤ c ∧ c ≤ maxLen ∧ AIn A (fun j => j < w.heap.size ∧ ¬ C j) := by
 obtain ⟨css, hown, _, hC⟩ := h
 have hlt := own_lt hown
 obtain ⟨A, c, rfl, h1, h2, _⟩ := own_form2 hown
 exact ⟨A, c, rfl, h1, h2, fun a ha => by subst ha; exact ⟨hlt _ rfl, hC _ rfl⟩⟩
theorem OwnC.lt (h : OwnC r e C w v l) : ∀ k, v.ownBlock = some k → k < w.heap.size := by
 obtain ⟨css, hown, _⟩ := h
 exact own_lt hown
theorem OwnC.off (h : OwnC r e C w v l) : ∀ k, v.ownBlock = some k → ¬ C k := by
 obtain ⟨_, _, _, h⟩ := h
 exact h
theorem OwnC.keep (h : OwnC r e C w v l) (hs : w.heap.size ≤ w'.heap.size) (hk : ∀ k, C k → k < w.heap.size → C' k ∧ w'.heap[k]? = w.heap[k]?) (hv : ∀ k, v.ownBlock = some k → w'.heap[k]? = w.heap[k]? ∧ ¬ C' k) : OwnC r e C' w' v l := by
 obtain ⟨css, hown, he, hC⟩ := h
 refine ⟨css, ⟨hown.1, hown.2.imp id fun ⟨g, cap, cur, hv', h0, hg, hr⟩ => ⟨g, cap, cur, hv', h0, (hv g (by rw [hv']; rfl)).1.trans hg, hr⟩⟩, he.imp fun a cs hr => r.keep hs hk hr, fun k hk => (hv k hk).2⟩
theorem OwnC.new_ (h : OwnC r e C w v l) (hb : Below w.heap.size w w') : OwnC r e C w' v l :=
 h.keep hb.size (fun k hk hl => ⟨hk, hb.block k hl⟩) (fun k hk => ⟨hb.block k (h.lt k hk), h.off k hk⟩)
theorem OwnC.plus (h : OwnC r e C w v l) (hb : Below w.heap.size w w') : OwnC r e (Plus C w w') w' v l :=
 h.keep hb.size (fun k hk hl => ⟨.inl hk, hb.block k hl⟩) (fun k hk => ⟨hb.block k (h.lt k hk), fun hp => hp.elim (h.off k hk) (fun hp => by have := h.lt k hk; omega)⟩)
theorem OwnC.fr {M : Nat → Prop} (h : OwnC r e C w v l) (hF : Fr M w w') (hC : ∀ k, C k → ¬ M k) (hv : ∀ k, v.ownBlock = some k → ¬ M k) : OwnC r e C w' v l :=
 h.keep hF.size (fun k hk hl => ⟨hk, hF.block k hl (hC k hk)⟩) (fun k hk => ⟨hF.block k (h.lt k hk) (hv k hk), h.off k hk⟩)
theorem OwnC.row {A : Option Addr} {n c : Nat} (h : OwnC r e C w (.slice A n c) l) (hC : ∀ k, C k → C' k) (hA : AIn A C') : RowR r C' w A c l := by
 obtain ⟨A', c', hv, h1, h2, _⟩ := h.form
 injection hv with hA' hn hc
 subst hA'; subst hc
 obtain ⟨css, hown, he, _⟩ := h
 refine ⟨h1, h2, fun h0 => ?_⟩
 have hsz : ∀ cs ∈ css, cs.length = r.size := fun cs hcs => by
  obtain ⟨k, hk, rfl⟩ := List.getElem_of_mem hcs
  obtain ⟨_, h3⟩ := he.get k (by rw [he.length]; exact hk)
  exact r.len h3
 rcases hown.2 with ⟨hv, hn0⟩ | ⟨g, cap, cur, hv, _, hg, hn2, hc2, hs2, ht⟩
 · omega
 · injection hv with hA' _ hc
   subst hA'
   have hgl : g < w.heap.size := Blk.lt (t := e) hg
   refine ⟨g, 0, rfl, hA _ rfl, hgl, fun k hk => ?_⟩
   obtain ⟨hk2, hrep⟩ := he.get k hk
   refine ⟨css[k], r.keep (Nat.le_refl _) (fun j hj _ => ⟨hC j hj, rfl⟩) hrep, fun j u hu => ?_⟩
   have hj : j < r.size := by rw [← r.len hrep]; exact (List.getElem?_eq_some_iff.1 hu).1
   have hf := flatten_get css hsz k hk2 j hj
   rw [hu, ← ht] at hf
   rw [Nat.zero_add, Blk.cell (t := e) hg]
   have hlt : k * r.size + j < l.length * r.size := by
    have : (k + 1) * r.size ≤ l.length * r.size := Nat.mul_le_mul_right _ hk
    rw [Nat.add_mul] at this; omega
   rw [List.getElem?_take_of_lt hlt] at hf
   rw [← hf]; simp
theorem OwnC.grown {v' : Value} {l2 : List α} {css css2 : List (List Value)} (he : Each2 (fun a cs => r.rep C w a cs) l css) (hC : ∀ k, v.ownBlock = some k → ¬ C k) (hCl : ∀ k, C k → k < w.heap.size)
 (hown : w'.ownsRow 0 e r.size v' (l ++ l2).length (css.flatten ++ css2.flatten)) (hg : w.grownBy w' v.ownBlock)
 (hv : v'.ownBlock = v.ownBlock ∨ v'.ownBlock = some w.heap.size) (he2 : Each2 (fun a cs => r.rep C w a cs) l2 css2) : OwnC r e C w' v' (l ++ l2) := by
 have up : ∀ a cs, r.rep C w a cs → r.rep C w' a cs := fun a cs hr => r.keep hg.size (fun k hd hl => ⟨hd, hg.block k hl (fun hk => hC k hk.symm hd)⟩) hr
 refine ⟨css ++ css2, by rw [List.flatten_append]; exact hown, (he.imp up).append (he2.imp up), fun k hk => ?_⟩
 rcases hv with hv | hv
 · exact hC k (hv ▸ hk)
 · rw [hv] at hk; injection hk with hk; intro h; have := hCl k h; omega
theorem css_len {l2 : List α} {css2 : List (List Value)} {D : Nat → Prop} {m : Nat} (hm : m = l2.length) (he2 : Each2 (fun a cs => r.rep D w a cs) l2 css2) : css2.flatten.length = m * r.size := by
 have hall : ∀ cs ∈ css2, cs.length = r.size := fun cs hcs => by
  obtain ⟨k, hk, rfl⟩ := List.getElem_of_mem hcs
  obtain ⟨_, h3⟩ := he2.get k (by rw [he2.length]; exact hk)
  exact r.len h3
 rw [hm, he2.length, List.length_flatten, List.map_congr_left hall]
 exact sum_const _ _
theorem flat1 (cs : List Value) : [cs].flatten = cs := by simp
end
def Appended {α : Type} (r : RepT α) (e : TypeId) (C : Nat → Prop) (w : World) (v : Value) (l : List α) (v' : Value) (w' : World) : Prop :=
 OwnC r e C w' v' l ∧ w.grownBy w' v.ownBlock ∧ (v'.ownBlock = v.ownBlock ∨ v'.ownBlock = some w.heap.size)
section
variable {P : Program} {α : Type} {r : RepT α} (w : World)
theorem wpList_append_C {ops : Array Oper} {rest : List Oper} {o : Oper} {a : Act} {Q : Exit → Act → World → Prop} (hgd : o.guard = none) (s x : Operand) (t : TypeId)
 (ho : o.op = .call { callee := .builtin .append, args := #[s, x], argTypes := #[t, t] })
 (e : TypeId) (i : TypeInfo) (z : Value) (size bytes : Nat) (ht : P.underlying t = some (.slice e)) (hi : P.info? e = some i) (hz : i.zero = some z)
 (hsize : i.size = size) (hby : i.bytes = bytes) (hzs : z.cells.size = size) (hrs : r.size = size) (hsz : 0 < size)
 (C : Nat → Prop) (hCl : ∀ k, C k → k < w.heap.size) (v : Value) (l : List α) (hs : a.eval s = v) (hown : OwnC r e C w v l)
 (ad : Addr) (c : Nat) (y : α) (cs : List Value) (hx : a.eval x = .slice (some ad) 1 c)
 (hnews : ∀ j u, cs[j]? = some u → w.cell? (ad.add j) = some u) (h1 : ∀ u ∈ cs, u.oneCell' = true)
 (he2 : r.rep C w y cs)
 (h63 : l.length + 1 ≤ maxLen) (hbytes : (l.length + 1) * bytes ≤ 140737488355328)
 (h : ∀ v' w', Appended r e C w v (l ++ [y]) v' w' → wpList P ops Q rest (a.put o.dst v') w') :
 wpList P ops Q (o :: rest) a w := by
 obtain ⟨css, h2, h3, h4⟩ := hown
 subst hrs
 have he3 : Each2 (fun a cs => r.rep C w a cs) [y] [cs] := .cons he2 .nil
 refine wpList_append_srcB w hgd s x t ho e i z r.size bytes ht hi hz hsize hby hzs hsz 0 (Nat.zero_le _) v l.length _ hs h2 (some ad) 1 c [cs].flatten hx (css_len (l2 := [y]) rfl he3) (fun _ => ⟨ad, rfl, by rw [flat1]; exact hnews⟩) (by rw [flat1]; exact h1) h63 hbytes (fun v' w' g1 g2 g3 g4 => h v' w' ⟨?_, g2, g4⟩)
 exact OwnC.grown h3 h4 hCl (by rw [List.length_append]; exact g1) g2 g4 he3
theorem step_append_C {ops : Array Oper} {o : Oper} {a : Act} {K : Act → World → Prop} {Q : Exit → Act → World → Prop} {E : Prop} (hgd : o.guard = none) (s x : Operand) (t : TypeId)
 (ho : o.op = .call { callee := .builtin .append, args := #[s, x], argTypes := #[t, t] })
 (e : TypeId) (i : TypeInfo) (z : Value) (size bytes : Nat) (ht : P.underlying t = some (.slice e)) (hi : P.info? e = some i) (hz : i.zero = some z)
 (hsize : i.size = size) (hby : i.bytes = bytes) (hzs : z.cells.size = size) (hrs : r.size = size) (hsz : 0 < size)
 (C : Nat → Prop) (hCl : ∀ k, C k → k < w.heap.size) (v : Value) (l : List α) (hs : a.eval s = v) (hown : OwnC r e C w v l)
 (ad : Addr) (c : Nat) (y : α) (cs : List Value) (hx : a.eval x = .slice (some ad) 1 c)
 (hnews : ∀ j u, cs[j]? = some u → w.cell? (ad.add j) = some u) (h1 : ∀ u ∈ cs, u.oneCell' = true)
 (he2 : r.rep C w y cs)
 (h63 : l.length + 1 ≤ maxLen) (hbytes : (l.length + 1) * bytes ≤ 140737488355328)
 (h : ∀ v' w', Appended r e C w v (l ++ [y]) v' w' → K (a.put o.dst v') w') :
 if Region.wanted o (yielded ops a.tmps) = true then Oper.wp P o a w K Q else E := by
 obtain ⟨css, h2, h3, h4⟩ := hown
 subst hrs
 have he3 : Each2 (fun a cs => r.rep C w a cs) [y] [cs] := .cons he2 .nil
 refine step_append_srcB w hgd s x t ho e i z r.size bytes ht hi hz hsize hby hzs hsz 0 (Nat.zero_le _) v l.length _ hs h2 (some ad) 1 c [cs].flatten hx (css_len (l2 := [y]) rfl he3) (fun _ => ⟨ad, rfl, by rw [flat1]; exact hnews⟩) (by rw [flat1]; exact h1) h63 hbytes (fun v' w' g1 g2 g3 g4 => h v' w' ⟨?_, g2, g4⟩)
 exact OwnC.grown h3 h4 hCl (by rw [List.length_append]; exact g1) g2 g4 he3
end
end Go.Proofs.Ytnfgilbaglfkeaa
namespace Go.Proofs.Ytnfgilbaglfkeaa
open Go.RowKit
def Int.cells1 (n : Int) : List Value := [.int .i64 n]
theorem Int.cells1_length (n : Int) : (Int.cells1 n).length = 1 := rfl
theorem inf_Sym : (Try.prog.info? 51).map (fun i => (i.zero, i.size, i.bytes)) = some (some (.agg #[.int .i64 0, .string ⟨#[]⟩, .int .i64 0]), 3, 32) := by kernel_rfl
theorem one_Sym (l : List Sym) : ∀ u ∈ l.flatMap Sym.cells, u.oneCell' = true := by
 intro u hu
 obtain ⟨b, _, hb⟩ := List.mem_flatMap.1 hu
 simp only [Sym.cells, List.mem_cons, List.not_mem_nil, or_false] at hb
 rcases hb with rfl | rfl | rfl <;> rfl
theorem inf_Bind : (Try.prog.info? 157).map (fun i => (i.zero, i.size, i.bytes)) = some (some (.agg #[.string ⟨#[]⟩, .int .i64 0, .string ⟨#[]⟩, .int .i64 0]), 4, 48) := by kernel_rfl
theorem one_Bind (l : List BindT) : ∀ u ∈ l.flatMap BindT.cells, u.oneCell' = true := by
 intro u hu
 obtain ⟨b, _, hb⟩ := List.mem_flatMap.1 hu
 simp only [BindT.cells, List.mem_cons, List.not_mem_nil, or_false] at hb
 rcases hb with rfl | rfl | rfl | rfl <;> rfl
theorem inf_Trace : (Try.prog.info? 55).map (fun i => (i.zero, i.size, i.bytes)) = some (some (.agg #[.int .i64 0, .string ⟨#[]⟩, .int .i64 0, .int .i64 0, .string ⟨#[]⟩, .int .i64 0, .int .i64 0, .string ⟨#[]⟩, .int .i64 0, .bool false, .bool false, .int .i64 0, .int .i64 0, .int .i64 0]), 14, 128) := by kernel_rfl
theorem one_Trace (l : List TraceT) : ∀ u ∈ l.flatMap TraceT.cells, u.oneCell' = true := by
 intro u hu
 obtain ⟨b, _, hb⟩ := List.mem_flatMap.1 hu
 simp only [TraceT.cells, List.mem_cons, List.not_mem_nil, or_false] at hb
 rcases hb with rfl | rfl | rfl | rfl | rfl | rfl | rfl | rfl | rfl | rfl | rfl | rfl | rfl | rfl <;> rfl
theorem inf_Apart : (Try.prog.info? 111).map (fun i => (i.zero, i.size, i.bytes)) = some (some (.agg #[.int .i64 0, .string ⟨#[]⟩, .int .i64 0, .int .i64 0, .string ⟨#[]⟩, .int .i64 0, .int .i64 0]), 7, 72) := by kernel_rfl
theorem one_Apart (l : List ApartT) : ∀ u ∈ l.flatMap ApartT.cells, u.oneCell' = true := by
 intro u hu
 obtain ⟨b, _, hb⟩ := List.mem_flatMap.1 hu
 simp only [ApartT.cells, List.mem_cons, List.not_mem_nil, or_false] at hb
 rcases hb with rfl | rfl | rfl | rfl | rfl | rfl | rfl <;> rfl
theorem inf_Int : (Try.prog.info? 3).map (fun i => (i.zero, i.size, i.bytes)) = some (some (.int .i64 0), 1, 8) := by kernel_rfl
theorem one_Int (l : List Int) : ∀ u ∈ l.flatMap Int.cells1, u.oneCell' = true := by
 intro u hu
 obtain ⟨b, _, hb⟩ := List.mem_flatMap.1 hu
 simp only [Int.cells1, List.mem_cons, List.not_mem_nil, or_false] at hb
 subst hb; rfl
theorem inf_Test : (Try.prog.info? 114).map (fun i => (i.zero, i.size, i.bytes)) = some (some (.agg #[.int .i64 0, .string ⟨#[]⟩, .int .i64 0, .string ⟨#[]⟩, .int .i64 0, .slice none 0 0]), 6, 80) := by kernel_rfl
theorem inf_Cond : (Try.prog.info? 60).map (fun i => (i.zero, i.size, i.bytes)) = some (some (.agg #[.int .i64 0, .bool false, .string ⟨#[]⟩, .slice none 0 0, .slice none 0 0, .bool false, .slice none 0 0]), 7, 112) := by kernel_rfl
theorem inf_Hole : (Try.prog.info? 76).map (fun i => (i.zero, i.size, i.bytes)) = some (some (.agg #[.int .i64 0, .bool false, .string ⟨#[]⟩, .slice none 0 0, .slice none 0 0, .bool false, .slice none 0 0, .slice none 0 0]), 8, 136) := by kernel_rfl
theorem inf_Record : (Try.prog.info? 47).map (fun i => (i.zero, i.size, i.bytes)) = some (some (.agg #[.int .i64 0, .int .i64 0, .slice none 0 0, .slice none 0 0, .slice none 0 0, .slice none 0 0]), 6, 112) := by kernel_rfl
theorem infp {P : Program} {t : TypeId} {z : Value} {s b : Nat} (h : (P.info? t).map (fun i => (i.zero, i.size, i.bytes)) = some (some z, s, b)) : ∃ i, P.info? t = some i ∧ i.zero = some z ∧ i.size = s ∧ i.bytes = b := by
 cases hq : P.info? t with
 | none => rw [hq] at h; cases h
 | some i =>
   rw [hq] at h
   simp only [Option.map_some, Option.some.injEq, Prod.mk.injEq] at h
   exact ⟨i, rfl, h.1, h.2.1, h.2.2⟩
end Go.Proofs.Ytnfgilbaglfkeaa
namespace Go.Proofs.Ytnfgilbaglfkeaa
open Go.RowKit
def Fresh1 {α : Type} (e size : Nat) (cells : α → List Value) (l : List α) (w : World) (en : Ending) (w' : World) : Prop :=
 ∃ A c, en = .returned (.slice A l.length c) ∧ w'.ownsRow 0 e size (.slice A l.length c) l.length (l.flatMap cells) ∧ AIn A (NewD w.heap.size w') ∧ Below w.heap.size w w'
theorem fresh1_of {α : Type} {e size : Nat} {cells : α → List Value} {l : List α} {w w' : World} {v v0 : Value} (hown : w'.ownsRow 0 e size v l.length (l.flatMap cells)) (hat : v.ownBlock = v0.ownBlock ∨ v.ownBlock = some w.heap.size) (h0 : v0.ownBlock = none) (hg : w.grownBy w' v0.ownBlock) :
 ∃ A c, v = .slice A l.length c ∧ w'.ownsRow 0 e size (.slice A l.length c) l.length (l.flatMap cells) ∧ AIn A (NewD w.heap.size w') ∧ Below w.heap.size w w' := by
 have hlt := own_lt hown
 obtain ⟨A, c, rfl, _, _, _⟩ := own_form2 hown
 refine ⟨A, c, rfl, hown, fun a ha => ?_, (Below.refl w.heap.size w).grown hg (Nat.le_refl _) (fun k hk => by rw [h0] at hk; cases hk)⟩
 subst ha
 rcases hat with h | h
 · rw [h0] at h; cases h
 · have := hlt a.block rfl
   simp only [Value.ownBlock, Option.some.injEq] at h
   exact ⟨by omega, this⟩
theorem owns_nilC (W : World) (e size : Nat) : W.ownsRow 0 e size (.slice none 0 0) 0 [] := ⟨by simp, .inl ⟨rfl, rfl⟩⟩
theorem Fresh1.row {α : Type} {e size : Nat} {cells : α → List Value} (hs : ∀ a, (cells a).length = size) {l : List α} {A : Option Addr} {c B : Nat} {w' : World} (h : w'.ownsRow 0 e size (.slice A l.length c) l.length (l.flatMap cells)) (hA : AIn A (NewD B w')) : RowR (RepT.flat size cells hs) (NewD B w') w' A c l := RowR.of_rd (ownsRow_rd hs h) hA
set_option maxRecDepth 100000 in
set_option maxHeartbeats 4000000 in
theorem cp_Sym (A : Option Addr) (c : Nat) (l : List Sym) (w : World) (hrd : RowRd w 3 Sym.cells A c l) (hl : (l.length : Int) ≤ 100000) :
 Calls Try.prog 80 #[.slice A l.length c] w (Fresh1 51 3 Sym.cells l w) := by
 obtain ⟨i0, hi0, hz0, hz1, hz2⟩ := infp inf_Sym
 have HRD := Lib.hid hrd
 have hlc := hrd.cap
 have hlcc := hrd.1
 clear hrd
 go_enter Try.func80, Try.ntmps80
 go_wp2_with (at_builtin; refine wpList_append_src w rfl (.const (.slice none 0 0)) (.tmp 3) 30 rfl 51 i0 _ 3 32 Try.underlying30 hi0 hz0 hz1 hz2 rfl (by omega) (.slice none 0 0) 0 [] rfl (owns_nilC w _ _) A l.length c (l.flatMap Sym.cells) rfl (flat_length Sym.cells_length _) (HRD.out.news Sym.cells_length (by omega)) (one_Sym _) (by unfold maxLen; omega) (by omega) ?_; intro v1 w2 hown1 hg1 hnil1 hat1)
 go_ret
 rw [Nat.zero_add, List.nil_append] at hown1
 obtain ⟨A', c', rfl, h1, h2, h3⟩ := fresh1_of hown1 hat1 rfl hg1
 exact ⟨A', c', rfl, h1, h2, h3⟩
set_option maxRecDepth 100000 in
set_option maxHeartbeats 4000000 in
theorem cp_Bind (A : Option Addr) (c : Nat) (l : List BindT) (w : World) (hrd : RowRd w 4 BindT.cells A c l) (hl : (l.length : Int) ≤ 100000) :
 Calls Try.prog 82 #[.slice A l.length c] w (Fresh1 157 4 BindT.cells l w) := by
 obtain ⟨i0, hi0, hz0, hz1, hz2⟩ := infp inf_Bind
 have HRD := Lib.hid hrd
 have hlc := hrd.cap
 have hlcc := hrd.1
 clear hrd
 go_enter Try.func82, Try.ntmps82
 go_wp2_with (at_builtin; refine wpList_append_src w rfl (.const (.slice none 0 0)) (.tmp 3) 74 rfl 157 i0 _ 4 48 Try.underlying74 hi0 hz0 hz1 hz2 rfl (by omega) (.slice none 0 0) 0 [] rfl (owns_nilC w _ _) A l.length c (l.flatMap BindT.cells) rfl (flat_length BindT.cells_length _) (HRD.out.news BindT.cells_length (by omega)) (one_Bind _) (by unfold maxLen; omega) (by omega) ?_; intro v1 w2 hown1 hg1 hnil1 hat1)
 go_ret
 rw [Nat.zero_add, List.nil_append] at hown1
 obtain ⟨A', c', rfl, h1, h2, h3⟩ := fresh1_of hown1 hat1 rfl hg1
 exact ⟨A', c', rfl, h1, h2, h3⟩
set_option maxRecDepth 100000 in
set_option maxHeartbeats 4000000 in
theorem cp_Trace (A : Option Addr) (c : Nat) (l : List TraceT) (w : World) (hrd : RowRd w 14 TraceT.cells A c l) (hl : (l.length : Int) ≤ 100000) :
 Calls Try.prog 78 #[.slice A l.length c] w (Fresh1 55 14 TraceT.cells l w) := by
 obtain ⟨i0, hi0, hz0, hz1, hz2⟩ := infp inf_Trace
 have HRD := Lib.hid hrd
 have hlc := hrd.cap
 have hlcc := hrd.1
 clear hrd
 go_enter Try.func78, Try.ntmps78
 go_wp2_with (at_builtin; refine wpList_append_src w rfl (.const (.slice none 0 0)) (.tmp 3) 27 rfl 55 i0 _ 14 128 Try.underlying27 hi0 hz0 hz1 hz2 rfl (by omega) (.slice none 0 0) 0 [] rfl (owns_nilC w _ _) A l.length c (l.flatMap TraceT.cells) rfl (flat_length TraceT.cells_length _) (HRD.out.news TraceT.cells_length (by omega)) (one_Trace _) (by unfold maxLen; omega) (by omega) ?_; intro v1 w2 hown1 hg1 hnil1 hat1)
 go_ret
 rw [Nat.zero_add, List.nil_append] at hown1
 obtain ⟨A', c', rfl, h1, h2, h3⟩ := fresh1_of hown1 hat1 rfl hg1
 exact ⟨A', c', rfl, h1, h2, h3⟩
set_option maxRecDepth 100000 in
set_option maxHeartbeats 4000000 in
theorem cp_Apart (A : Option Addr) (c : Nat) (l : List ApartT) (w : World) (hrd : RowRd w 7 ApartT.cells A c l) (hl : (l.length : Int) ≤ 100000) :
 Calls Try.prog 79 #[.slice A l.length c] w (Fresh1 111 7 ApartT.cells l w) := by
 obtain ⟨i0, hi0, hz0, hz1, hz2⟩ := infp inf_Apart
 have HRD := Lib.hid hrd
 have hlc := hrd.cap
 have hlcc := hrd.1
 clear hrd
 go_enter Try.func79, Try.ntmps79
 go_wp2_with (at_builtin; refine wpList_append_src w rfl (.const (.slice none 0 0)) (.tmp 3) 29 rfl 111 i0 _ 7 72 Try.underlying29 hi0 hz0 hz1 hz2 rfl (by omega) (.slice none 0 0) 0 [] rfl (owns_nilC w _ _) A l.length c (l.flatMap ApartT.cells) rfl (flat_length ApartT.cells_length _) (HRD.out.news ApartT.cells_length (by omega)) (one_Apart _) (by unfold maxLen; omega) (by omega) ?_; intro v1 w2 hown1 hg1 hnil1 hat1)
 go_ret
 rw [Nat.zero_add, List.nil_append] at hown1
 obtain ⟨A', c', rfl, h1, h2, h3⟩ := fresh1_of hown1 hat1 rfl hg1
 exact ⟨A', c', rfl, h1, h2, h3⟩
set_option maxRecDepth 100000 in
set_option maxHeartbeats 4000000 in
theorem cp_Int (A : Option Addr) (c : Nat) (l : List Int) (w : World) (hrd : RowRd w 1 Int.cells1 A c l) (hl : (l.length : Int) ≤ 100000) :
 Calls Try.prog 12 #[.slice A l.length c] w (Fresh1 3 1 Int.cells1 l w) := by
 obtain ⟨i0, hi0, hz0, hz1, hz2⟩ := infp inf_Int
 have HRD := Lib.hid hrd
 have hlc := hrd.cap
 have hlcc := hrd.1
 clear hrd
 go_enter Try.func12, Try.ntmps12
 go_wp2_with (at_builtin; refine wpList_append_src w rfl (.const (.slice none 0 0)) (.tmp 3) 22 rfl 3 i0 _ 1 8 Try.underlying22 hi0 hz0 hz1 hz2 rfl (by omega) (.slice none 0 0) 0 [] rfl (owns_nilC w _ _) A l.length c (l.flatMap Int.cells1) rfl (flat_length Int.cells1_length _) (HRD.out.news Int.cells1_length (by omega)) (one_Int _) (by unfold maxLen; omega) (by omega) ?_; intro v1 w2 hown1 hg1 hnil1 hat1)
 go_ret
 rw [Nat.zero_add, List.nil_append] at hown1
 obtain ⟨A', c', rfl, h1, h2, h3⟩ := fresh1_of hown1 hat1 rfl hg1
 exact ⟨A', c', rfl, h1, h2, h3⟩
end Go.Proofs.Ytnfgilbaglfkeaa
namespace Go.Proofs.Ytnfgilbaglfkeaa
open Go.RowKit
def SmT (l : List TestT) : Prop := l.length ≤ 1000 ∧ ∀ t ∈ l, t.list.length ≤ 1000
def FreshR {α : Type} (r : RepT α) (l : List α) (w : World) (en : Ending) (w' : World) : Prop :=
 ∃ A c, en = .returned (.slice A l.length c) ∧ RowR r (NewD w.heap.size w') w' A c l ∧ AIn A (NewD w.heap.size w') ∧ Below w.heap.size w w'
theorem NewD.up {B B' : Nat} {w w' : World} (hB : B' ≤ B) (hw : w.heap.size ≤ w'.heap.size) : ∀ k, NewD B w k → NewD B' w' k := fun k hk => ⟨by have := hk.1; omega, by have := hk.2; omega⟩
theorem rep_test {D : Nat → Prop} {w : World} {y : TestT} {A : Option Addr} {c : Nat} (h : RowR repSym D w A c y.list) : repTestT.rep D w y [.int .i64 y.rel, .string y.var, .int .i64 y.sym.kind, .string y.sym.text, .int .i64 y.sym.n, .slice A y.list.length c] := ⟨A, c, rfl, h⟩
def Copies {α : Type} (r : RepT α) (e : TypeId) (w : World) (l : List α) (v : Value) (wr : World) : Prop :=
 ∃ C A c, v = .slice A l.length c ∧ OwnC r e C wr v l ∧ (∀ j, C j → NewD w.heap.size wr j) ∧ AIn A (NewD w.heap.size wr) ∧ Below w.heap.size w wr
theorem Copies.nil {α : Type} (r : RepT α) (e : TypeId) (w : World) {wr : World} (hb : Below w.heap.size w wr) : Copies r e w [] (.slice none 0 0) wr :=
 ⟨fun _ => False, none, 0, rfl, OwnC.nil _ _ _ _, fun _ h => h.elim, AIn.none_ _, hb⟩
theorem Copies.done {α : Type} {r : RepT α} {e : TypeId} {w wr : World} {l : List α} {v : Value} (h : Copies r e w l v wr) : FreshR r l w (.returned v) wr := by
 obtain ⟨C, A, c, rfl, h1, h2, h3, h4⟩ := h
 exact ⟨A, c, rfl, h1.row h2 h3, h3, h4⟩
theorem Copies.snoc {α : Type} {r : RepT α} {e : TypeId} {w wr W W' : World} {C : Nat → Prop} {l : List α} {y : α} {A : Option Addr} {c : Nat} {v' : Value} (h2 : ∀ j, C j → NewD w.heap.size wr j) (h3 : AIn A (NewD w.heap.size wr)) (h4 : Below w.heap.size w wr)
 (hb : Below wr.heap.size wr W) (ha : Appended r e (Plus C wr W) W (.slice A l.length c) (l ++ [y]) v' W') : Copies r e w (l ++ [y]) v' W' := by
 obtain ⟨g1, g2, g3⟩ := ha
 have hz := hb.size
 have hz2 := g2.size
 have hz4 := h4.size
 obtain ⟨A', c', rfl, _, _, hA'⟩ := g1.form
 refine ⟨Plus C wr W, A', c', rfl, g1, fun j hj => ?_, fun a ha => ⟨?_, (hA' a ha).1⟩, (h4.trans (hb.mono hz4)).grown g2 (by omega) (fun k hk => ?_)⟩
 · rcases hj with hj | hj
   · have := h2 j hj; exact ⟨this.1, by have := this.2; omega⟩
   · exact ⟨by omega, by omega⟩
 · subst ha
   rcases g3 with g3 | g3
   · rcases A with _ | b
     · simp [Value.ownBlock] at g3
     · simp only [Value.ownBlock, Option.some.injEq] at g3
       have := (h3 b rfl).1
       omega
   · simp only [Value.ownBlock, Option.some.injEq] at g3
     omega
 · rcases A with _ | b
   · simp [Value.ownBlock] at hk
   · simp only [Value.ownBlock, Option.some.injEq] at hk
     have := (h3 b rfl).1
     omega
theorem Copies.below {α : Type} {r : RepT α} {e : TypeId} {w wr W : World} {l : List α} {v : Value} (h : Copies r e w l v wr) (hb : Below wr.heap.size wr W) : Copies r e w l v W := by
 obtain ⟨C, A, c, rfl, h1, h2, h3, h4⟩ := h
 exact ⟨C, A, c, rfl, h1.new_ hb, fun j hj => NewD.up (Nat.le_refl _) hb.size j (h2 j hj), h3.mono (fun j hj => NewD.up (Nat.le_refl _) hb.size j hj), h4.trans (hb.mono h4.size)⟩
theorem take_snoc {α : Type} {l : List α} {k : Nat} (hk : k < l.length) : l.take k ++ [l[k]] = l.take (k + 1) := by rw [List.take_add_one, List.getElem?_eq_getElem hk]; rfl
theorem take_len {α : Type} {l : List α} {k : Nat} (hk : k ≤ l.length) : (l.take k).length = k := by simp; omega
set_option maxRecDepth 100000 in
set_option maxHeartbeats 8000000 in
theorem btests_is (A : Option Addr) (c : Nat) (l : List TestT) {D : Nat → Prop} (w : World) (hrd : RowR repTestT D w A c l) (hs : SmT l) :
 Calls Try.prog 73 #[.slice A l.length c] w (FreshR repTestT l w) := by
 obtain ⟨i0, hi0, hz0, hz1, hz2⟩ := infp inf_Sym
 obtain ⟨j0, hj0, hy0, hy1, hy2⟩ := infp inf_Test
 have hlc := hrd.cap
 have hl1 := hs.1
 have HRD := Lib.hid hrd
 have HS := Lib.hid hs
 clear hrd hs
 go_enter Try.func73, Try.ntmps73
 go_wp2_with fail
 go_loopw [3, 8] (fun v i wr => ∃ k : Nat, i = .int .i64 k ∧ k ≤ l.length ∧ Copies repTestT 114 w (l.take k) v wr) (fun v i wr => l.length - (intOf i).toNat)
 case atStart => exact ⟨0, rfl, Nat.zero_le _, Copies.nil _ _ _ (Below.refl _ _)⟩
 case round =>
  obtain ⟨k, rfl, hk, hC⟩ := hrel
  obtain ⟨C, A1, c1, rfl, h1, h2, h3, h4⟩ := hC
  rw [take_len hk]
  by_cases hlt : k < l.length
  · have hrw := HRD.out.keep (D' := D) h4.size (fun j hj hl => ⟨hj, h4.block j hl⟩)
    obtain ⟨g, off, A3, c3, rfl, hDg, hg, q0, q1, q2, q3, q4, q5, hr3⟩ := at_TestT hrw hlt
    obtain ⟨y, hy⟩ : ∃ y, y = l[k] := ⟨_, rfl⟩
    have hy3 : y.list.length ≤ 1000 := by rw [hy]; exact HS.out.2 _ (List.getElem_mem hlt)
    rw [← hy] at q0 q1 q2 q3 q4 q5 hr3
    have hr4 := RowR.rd (hs := Sym.cells_length) hr3
    have hl3 := hr3.cap
    have b1 : (0 : Int) ≤ (k : Int) := by omega
    have b2 : (k : Int) < (l.length : Int) := by omega
    have HY := Lib.hid hy
    have H1 := Lib.hid h1
    have H2 := Lib.hid h2
    have H3 := Lib.hid h3
    have H4 := Lib.hid h4
    have HR4 := Lib.hid hr4
    clear hy hrw h1 h2 h3 h4 hr3 hr4
    go_upto_region 5 with fail
    obtain ⟨W4, hW4⟩ : ∃ W4, W4 = wr.alloc (.cells #[.int .i64 y.rel, .string y.var, .int .i64 y.sym.kind, .string y.sym.text, .int .i64 y.sym.n, .slice A3 y.list.length c3] 114) := ⟨_, rfl⟩
    have hB4 : Below wr.heap.size wr W4 := by rw [hW4]; exact (Below.refl _ _).alloc (Nat.le_refl _) _
    have hX4 : Blk W4 wr.heap.size 114 #[.int .i64 y.rel, .string y.var, .int .i64 y.sym.kind, .string y.sym.text, .int .i64 y.sym.n, .slice A3 y.list.length c3] := by rw [hW4]; exact Blk.new _ _ _
    rw [← hW4]
    clear hW4 q0 q1 q2 q3 q4 q5
    have HB4 := Lib.hid hB4
    have HX4 := Lib.hid hX4
    have hxl4 := hX4.lt
    clear hX4 hB4
    have x5 := (HX4.out.cell 5).trans rfl
    go_upto_region 6 with (at_builtin; refine wpList_append_src W4 rfl (.const (.slice none 0 0)) (.tmp 13) 30 rfl 51 i0 _ 3 32 Try.underlying30 hi0 hz0 hz1 hz2 rfl (by omega) (.slice none 0 0) 0 [] rfl (owns_nilC _ _ _) A3 y.list.length c3 (y.list.flatMap Sym.cells) rfl (flat_length Sym.cells_length _) ((HR4.out.new_ HB4.out).news Sym.cells_length (by omega)) (one_Sym _) (by unfold maxLen; omega) (by omega) ?_; intro v1 w5 hown1 hg1 hnil1 hat1; rw [Nat.zero_add, List.nil_append] at hown1; obtain ⟨A5, c5, rfl, ho5, hA5, hB5⟩ := fresh1_of hown1 hat1 rfl hg1; have hX5 := HX4.out.new_ hB5; have u5 := (hX5.cell 5).trans rfl; have g5 := hX5.frozen 5; have hxl5 := hX5.lt; have HB5 := Lib.hid hB5; have HO5 := Lib.hid ho5; have HA5 := Lib.hid hA5; have HX5 := Lib.hid hX5; clear hX5 hB5 ho5 hA5 hown1 hat1 hg1 hnil1 x5)
    obtain ⟨W6, hW6⟩ : ∃ W6, W6 = w5.setCell ⟨wr.heap.size, 5, none⟩ (.slice A5 y.list.length c5) := ⟨_, rfl⟩
    have hX5 := HX5.out
    have hB6 : Below wr.heap.size wr W6 := by rw [hW6]; exact (HB4.out.trans (HB5.out.mono (by omega))).setCell (Nat.le_refl _) _
    have hX6 : Blk W6 wr.heap.size 114 #[.int .i64 y.rel, .string y.var, .int .i64 y.sym.kind, .string y.sym.text, .int .i64 y.sym.n, .slice A5 y.list.length c5] := by rw [hW6]; exact hX5.set_ 5 _
    have hO6 : W6.ownsRow 0 51 3 (.slice A5 y.list.length c5) y.list.length (y.list.flatMap Sym.cells) := by rw [hW6]; exact ownsRow_setCell_other (a := ⟨wr.heap.size, 5, none⟩) HO5.out (own_blk_ne HO5.out hX5 (by decide)) _
    have hA6 : AIn A5 (NewD wr.heap.size W6) := HA5.out.mono (fun j hj => ⟨by have := hj.1; omega, by rw [hW6]; simpa using hj.2⟩)
    rw [← hW6]
    clear hW6 hX5
    have hB7 : Below wr.heap.size wr (W6.alloc (.cells #[.int .i64 y.rel, .string y.var, .int .i64 y.sym.kind, .string y.sym.text, .int .i64 y.sym.n, .slice A5 y.list.length c5] 114)) := hB6.alloc hB6.size _
    have hrow : RowR repSym (Plus C wr (W6.alloc (.cells #[.int .i64 y.rel, .string y.var, .int .i64 y.sym.kind, .string y.sym.text, .int .i64 y.sym.n, .slice A5 y.list.length c5] 114))) (W6.alloc (.cells #[.int .i64 y.rel, .string y.var, .int .i64 y.sym.kind, .string y.sym.text, .int .i64 y.sym.n, .slice A5 y.list.length c5] 114)) A5 c5 y.list := (Fresh1.row Sym.cells_length hO6 hA6).keep (by simp) (fun j hj hl => ⟨.inr ⟨hj.1, by simp; have := hj.2; omega⟩, ((Below.refl W6.heap.size W6).alloc (Nat.le_refl _) _).block j hl⟩)
    have hown7 := H1.out.plus hB7
    have hrep7 := rep_test hrow
    have hcl : ∀ j, Plus C wr (W6.alloc (.cells #[.int .i64 y.rel, .string y.var, .int .i64 y.sym.kind, .string y.sym.text, .int .i64 y.sym.n, .slice A5 y.list.length c5] 114)) j → j < (W6.alloc (.cells #[.int .i64 y.rel, .string y.var, .int .i64 y.sym.kind, .string y.sym.text, .int .i64 y.sym.n, .slice A5 y.list.length c5] 114)).heap.size := fun j hj => by
     rcases hj with hj | hj
     · have := (H2.out j hj).2; have := hB7.size; omega
     · exact hj.2
    obtain ⟨u0, u1, u2, u3, u4, u5⟩ := hX6.c6
    have hxl6 := hX6.lt
    have HB7 := Lib.hid hB7
    have HOW := Lib.hid hown7
    have HRE := Lib.hid hrep7
    have HCL := Lib.hid hcl
    have h63 : (l.take k).length + 1 ≤ maxLen := by rw [take_len hk]; unfold maxLen; omega
    have hby : ((l.take k).length + 1) * 80 ≤ 140737488355328 := by rw [take_len hk]; omega
    have H63 := Lib.hid h63
    have HBY := Lib.hid hby
    have HTL := Lib.hid (take_len hk)
    clear hB6 hB7 hX6 hO6 hA6 hrow hown7 hrep7 hcl h63 hby
    have HV := Lib.hid (show Value.slice A1 k c1 = .slice A1 (l.take k).length c1 by rw [take_len hk])
    go_wp2_with (at_builtin; refine wpList_append_C _ rfl _ _ 57 rfl 114 j0 _ 6 80 Try.underlying57 hj0 hy0 hy1 hy2 rfl rfl (by omega) (Plus C wr (W6.alloc (.cells #[.int .i64 y.rel, .string y.var, .int .i64 y.sym.kind, .string y.sym.text, .int .i64 y.sym.n, .slice A5 y.list.length c5] 114))) HCL.out (.slice A1 (l.take k).length c1) (l.take k) HV.out HOW.out ⟨W6.heap.size, 0, none⟩ 1 y [.int .i64 y.rel, .string y.var, .int .i64 y.sym.kind, .string y.sym.text, .int .i64 y.sym.n, .slice A5 y.list.length c5] rfl (World.news_of_block (heap_alloc_new _ _)) (by intro u hu; simp only [List.mem_cons, List.not_mem_nil, or_false] at hu; rcases hu with rfl | rfl | rfl | rfl | rfl | rfl <;> rfl) HRE.out H63.out HBY.out ?_; intro v' w7 hap)
    have hfin : Copies repTestT 114 w (l.take k ++ [y]) v' w7 := Copies.snoc H2.out H3.out H4.out HB7.out (by have e : Value.slice A1 (l.take k).length c1 = .slice A1 (l.take k).length c1 := rfl; exact hap)
    rw [HY.out, take_snoc hlt] at hfin
    go_roundw
    case rel => exact ⟨k + 1, by go_num, by omega, hfin⟩
    case measure => simp [intOf]; omega
  · obtain rfl : k = l.length := by omega
    have hfin := Copies.done ⟨C, A1, c1, rfl, h1, h2, h3, h4⟩
    rw [List.take_length] at hfin
    have HF := Lib.hid hfin
    clear h1 h2 h3 h4 hfin
    go_wp2_with fail
    go_ret
    exact HF.out
end Go.Proofs.Ytnfgilbaglfkeaa
namespace Go.Proofs.Ytnfgilbaglfkeaa
open Go.RowKit
def SmC : Nat → CondT → Prop
 | 0, _ => True
 | n + 1, c => SmT c.attr ∧ SmT c.value ∧ c.conds.length ≤ 1000 ∧ ∀ x ∈ c.conds, SmC n x
def FreshC (n : Nat) (c : CondT) (w : World) (en : Ending) (w' : World) : Prop :=
 ∃ A1 c1 A2 c2 A3 c3, en = .returned (.agg #[.int .i64 c.kind, .bool c.goal, .string c.id, .slice A1 c.attr.length c1, .slice A2 c.value.length c2, .bool c.acc, .slice A3 c.conds.length c3]) ∧ RowR repTestT (NewD w.heap.size w') w' A1 c1 c.attr ∧ RowR repTestT (NewD w.heap.size w') w' A2 c2 c.value ∧ RowR (repCondT n) (NewD w.heap.size w') w' A3 c3 c.conds ∧ Below w.heap.size w w'
def CopyOk (f n : Nat) : Prop := ∀ (c : CondT) (A1 : Option Addr) (c1 : Nat) (A2 : Option Addr) (c2 : Nat) (A3 : Option Addr) (c3 : Nat) (D : Nat → Prop) (w : World),
 RowR repTestT D w A1 c1 c.attr → RowR repTestT D w A2 c2 c.value → RowR (repCondT n) D w A3 c3 c.conds → SmC (n + 1) c → Calls Try.prog f #[.agg #[.int .i64 c.kind, .bool c.goal, .string c.id, .slice A1 c.attr.length c1, .slice A2 c.value.length c2, .bool c.acc, .slice A3 c.conds.length c3]] w (FreshC n c w)
theorem rep_cond {n : Nat} {D : Nat → Prop} {w : World} {y : CondT} {Ay1 Ay2 Ay3 : Option Addr} {cy1 cy2 cy3 : Nat} (h1 : RowR repTestT D w Ay1 cy1 y.attr) (h2 : RowR repTestT D w Ay2 cy2 y.value) (h3 : RowR (repCondT n) D w Ay3 cy3 y.conds) :
 (repCondT (n + 1)).rep D w y [.int .i64 y.kind, .bool y.goal, .string y.id, .slice Ay1 y.attr.length cy1, .slice Ay2 y.value.length cy2, .bool y.acc, .slice Ay3 y.conds.length cy3] := ⟨Ay1, cy1, Ay2, cy2, Ay3, cy3, rfl, h1, h2, h3⟩
theorem row0 {D : Nat → Prop} {w : World} {A : Option Addr} {c : Nat} {l : List CondT} (h : RowR (repCondT 0) D w A c l) : l = [] := by
 cases l with
 | nil => rfl
 | cons x l =>
   obtain ⟨_, _, _, _, _, _, hr, _⟩ := h.at_ (k := 0) (by simp)
   exact hr.elim
theorem RowR.newD {α : Type} {r : RepT α} {B B' : Nat} {w w' : World} {A : Option Addr} {c : Nat} {l : List α} (h : RowR r (NewD B w) w A c l) (hb : Below w.heap.size w w') (hB : B' ≤ B) : RowR r (NewD B' w') w' A c l :=
 h.keep hb.size (fun j hj hl => ⟨NewD.up hB hb.size j hj, hb.block j hl⟩)
theorem blk_setCells (b : Nat) : ∀ (vs : List Value) (o : Nat) (w : World) (j : Nat), j ≠ b → (w.setCells b o vs).heap[j]? = w.heap[j]?
 | [], _, _, _, _ => rfl
 | v :: r, o, w, j, h => by
   rw [World.setCells, blk_setCells b r (o + 1) _ j h]
   exact Below.heap_setCell _ _ _ _ h
end Go.Proofs.Ytnfgilbaglfkeaa
namespace Go.Proofs.Ytnfgilbaglfkeaa
open Go.RowKit
set_option maxRecDepth 100000 in
set_option maxHeartbeats 8000000 in
theorem ktests_is (A : Option Addr) (c : Nat) (l : List TestT) {D : Nat → Prop} (w : World) (hrd : RowR repTestT D w A c l) (hs : SmT l) :
 Calls Try.prog 93 #[.slice A l.length c] w (FreshR repTestT l w) := by
 obtain ⟨i0, hi0, hz0, hz1, hz2⟩ := infp inf_Sym
 obtain ⟨j0, hj0, hy0, hy1, hy2⟩ := infp inf_Test
 have hlc := hrd.cap
 have hl1 := hs.1
 have HRD := Lib.hid hrd
 have HS := Lib.hid hs
 clear hrd hs
 go_enter Try.func93, Try.ntmps93
 go_wp2_with fail
 go_loopw [3, 4] (fun v i wr => ∃ k : Nat, i = .int .i64 k ∧ k ≤ l.length ∧ Copies repTestT 114 w (l.take k) v wr) (fun v i wr => l.length - (intOf i).toNat)
 case atStart => exact ⟨0, rfl, Nat.zero_le _, Copies.nil _ _ _ (Below.refl _ _)⟩
 case round =>
  obtain ⟨k, rfl, hk, hC⟩ := hrel
  obtain ⟨C, A1, c1, rfl, h1, h2, h3, h4⟩ := hC
  rw [take_len hk]
  by_cases hlt : k < l.length
  · have hrw := HRD.out.keep (D' := D) h4.size (fun j hj hl => ⟨hj, h4.block j hl⟩)
    obtain ⟨g, off, A3, c3, rfl, hDg, hg, q0, q1, q2, q3, q4, q5, hr3⟩ := at_TestT hrw hlt
    obtain ⟨y, hy⟩ : ∃ y, y = l[k] := ⟨_, rfl⟩
    have hy3 : y.list.length ≤ 1000 := by rw [hy]; exact HS.out.2 _ (List.getElem_mem hlt)
    rw [← hy] at q0 q1 q2 q3 q4 q5 hr3
    have hr4 := RowR.rd (hs := Sym.cells_length) hr3
    have hl3 := hr3.cap
    have b1 : (0 : Int) ≤ (k : Int) := by omega
    have b2 : (k : Int) < (l.length : Int) := by omega
    have HY := Lib.hid hy
    have H1 := Lib.hid h1
    have H2 := Lib.hid h2
    have H3 := Lib.hid h3
    have H4 := Lib.hid h4
    have HR4 := Lib.hid hr4
    clear hy hrw h1 h2 h3 h4 hr3 hr4
    go_upto_region 6 with fail
    obtain ⟨W4, hW4⟩ : ∃ W4, W4 = wr.alloc (.cells #[.int .i64 y.rel, .string y.var, .int .i64 y.sym.kind, .string y.sym.text, .int .i64 y.sym.n, .slice A3 y.list.length c3] 114) := ⟨_, rfl⟩
    have hB4 : Below wr.heap.size wr W4 := by rw [hW4]; exact (Below.refl _ _).alloc (Nat.le_refl _) _
    have hX4 : Blk W4 wr.heap.size 114 #[.int .i64 y.rel, .string y.var, .int .i64 y.sym.kind, .string y.sym.text, .int .i64 y.sym.n, .slice A3 y.list.length c3] := by rw [hW4]; exact Blk.new _ _ _
    rw [← hW4]
    clear hW4 q0 q1 q2 q3 q4
    have HB4 := Lib.hid hB4
    have HX4 := Lib.hid hX4
    have hxl4 := hX4.lt
    have x5 := (hB4.cell (p := ⟨g, off + k * 6 + 5, none⟩) hg).trans q5
    clear hX4 hB4 q5
    have hg4 : g < W4.heap.size := by have := HB4.out.size; omega
    go_wp2_with fail
    refine (cp_Sym A3 c3 y.list W4 (HR4.out.new_ HB4.out) (by omega)).mono ?_
    rintro e w5 ⟨A5, c5, rfl, ho5, hA5, hB5⟩
    have hX5 := HX4.out.new_ hB5
    have u5 := (hX5.cell 5).trans rfl
    have g5 := hX5.frozen 5
    have hxl5 := hX5.lt
    have HB5 := Lib.hid hB5
    have HO5 := Lib.hid ho5
    have HA5 := Lib.hid hA5
    have HX5 := Lib.hid hX5
    clear hX5 hB5 ho5 hA5 x5
    go_upto_region 7 with fail
    obtain ⟨W6, hW6⟩ : ∃ W6, W6 = w5.setCell ⟨wr.heap.size, 5, none⟩ (.slice A5 y.list.length c5) := ⟨_, rfl⟩
    have hX5 := HX5.out
    have hB6 : Below wr.heap.size wr W6 := by rw [hW6]; exact (HB4.out.trans (HB5.out.mono (by omega))).setCell (Nat.le_refl _) _
    have hX6 : Blk W6 wr.heap.size 114 #[.int .i64 y.rel, .string y.var, .int .i64 y.sym.kind, .string y.sym.text, .int .i64 y.sym.n, .slice A5 y.list.length c5] := by rw [hW6]; exact hX5.set_ 5 _
    have hO6 : W6.ownsRow 0 51 3 (.slice A5 y.list.length c5) y.list.length (y.list.flatMap Sym.cells) := by rw [hW6]; exact ownsRow_setCell_other (a := ⟨wr.heap.size, 5, none⟩) HO5.out (own_blk_ne HO5.out hX5 (by decide)) _
    have hA6 : AIn A5 (NewD wr.heap.size W6) := HA5.out.mono (fun j hj => ⟨by have := hj.1; omega, by rw [hW6]; simpa using hj.2⟩)
    rw [← hW6]
    clear hW6 hX5
    have hB7 : Below wr.heap.size wr (W6.alloc (.cells #[.int .i64 y.rel, .string y.var, .int .i64 y.sym.kind, .string y.sym.text, .int .i64 y.sym.n, .slice A5 y.list.length c5] 114)) := hB6.alloc hB6.size _
    have hrow : RowR repSym (Plus C wr (W6.alloc (.cells #[.int .i64 y.rel, .string y.var, .int .i64 y.sym.kind, .string y.sym.text, .int .i64 y.sym.n, .slice A5 y.list.length c5] 114))) (W6.alloc (.cells #[.int .i64 y.rel, .string y.var, .int .i64 y.sym.kind, .string y.sym.text, .int .i64 y.sym.n, .slice A5 y.list.length c5] 114)) A5 c5 y.list := (Fresh1.row Sym.cells_length hO6 hA6).keep (by simp) (fun j hj hl => ⟨.inr ⟨hj.1, by simp; have := hj.2; omega⟩, ((Below.refl W6.heap.size W6).alloc (Nat.le_refl _) _).block j hl⟩)
    have hown7 := H1.out.plus hB7
    have hrep7 := rep_test hrow
    have hcl : ∀ j, Plus C wr (W6.alloc (.cells #[.int .i64 y.rel, .string y.var, .int .i64 y.sym.kind, .string y.sym.text, .int .i64 y.sym.n, .slice A5 y.list.length c5] 114)) j → j < (W6.alloc (.cells #[.int .i64 y.rel, .string y.var, .int .i64 y.sym.kind, .string y.sym.text, .int .i64 y.sym.n, .slice A5 y.list.length c5] 114)).heap.size := fun j hj => by
     rcases hj with hj | hj
     · have := (H2.out j hj).2; have := hB7.size; omega
     · exact hj.2
    obtain ⟨u0, u1, u2, u3, u4, u5⟩ := hX6.c6
    have hxl6 := hX6.lt
    have HB7 := Lib.hid hB7
    have HOW := Lib.hid hown7
    have HRE := Lib.hid hrep7
    have HCL := Lib.hid hcl
    have h63 : (l.take k).length + 1 ≤ maxLen := by rw [take_len hk]; unfold maxLen; omega
    have hby : ((l.take k).length + 1) * 80 ≤ 140737488355328 := by rw [take_len hk]; omega
    have H63 := Lib.hid h63
    have HBY := Lib.hid hby
    have HTL := Lib.hid (take_len hk)
    clear hB6 hB7 hX6 hO6 hA6 hrow hown7 hrep7 hcl h63 hby
    have HV := Lib.hid (show Value.slice A1 k c1 = .slice A1 (l.take k).length c1 by rw [take_len hk])
    go_wp2_with (at_builtin; refine wpList_append_C _ rfl _ _ 57 rfl 114 j0 _ 6 80 Try.underlying57 hj0 hy0 hy1 hy2 rfl rfl (by omega) (Plus C wr (W6.alloc (.cells #[.int .i64 y.rel, .string y.var, .int .i64 y.sym.kind, .string y.sym.text, .int .i64 y.sym.n, .slice A5 y.list.length c5] 114))) HCL.out (.slice A1 (l.take k).length c1) (l.take k) HV.out HOW.out ⟨W6.heap.size, 0, none⟩ 1 y [.int .i64 y.rel, .string y.var, .int .i64 y.sym.kind, .string y.sym.text, .int .i64 y.sym.n, .slice A5 y.list.length c5] rfl (World.news_of_block (heap_alloc_new _ _)) (by intro u hu; simp only [List.mem_cons, List.not_mem_nil, or_false] at hu; rcases hu with rfl | rfl | rfl | rfl | rfl | rfl <;> rfl) HRE.out H63.out HBY.out ?_; intro v' w7 hap)
    have hfin : Copies repTestT 114 w (l.take k ++ [y]) v' w7 := Copies.snoc H2.out H3.out H4.out HB7.out (by have e : Value.slice A1 (l.take k).length c1 = .slice A1 (l.take k).length c1 := rfl; exact hap)
    rw [HY.out, take_snoc hlt] at hfin
    go_roundw
    case rel => exact ⟨k + 1, by go_num, by omega, hfin⟩
    case measure => simp [intOf]; omega
  · obtain rfl : k = l.length := by omega
    have hfin := Copies.done ⟨C, A1, c1, rfl, h1, h2, h3, h4⟩
    rw [List.take_length] at hfin
    have HF := Lib.hid hfin
    clear h1 h2 h3 h4 hfin
    go_wp2_with fail
    go_ret
    exact HF.out
end Go.Proofs.Ytnfgilbaglfkeaa
namespace Go.Proofs.Ytnfgilbaglfkeaa
open Go.RowKit
set_option maxRecDepth 100000 in
set_option maxHeartbeats 8000000 in
theorem kconds_is (n : Nat) (hrec : ∀ m, n = m + 1 → CopyOk 81 m) (A : Option Addr) (c : Nat) (L : List CondT) {D : Nat → Prop} (W0 : World) (hrd : RowR (repCondT n) D W0 A c L) (hs : L.length ≤ 1000 ∧ ∀ x ∈ L, SmC n x) :
 Calls Try.prog 94 #[.slice A L.length c] W0 (FreshR (repCondT n) L W0) := by
 obtain ⟨j0, hj0, hy0, hyy1, hyy2⟩ := infp inf_Cond
 have hlc := hrd.cap
 have hl1 := hs.1
 have HR3 := Lib.hid hrd
 have HS := Lib.hid hs
 have HREC := Lib.hid hrec
 clear hrd hs hrec
 go_enter Try.func94, Try.ntmps94
 go_wp2_with fail
 go_loopw [3, 4] (fun v i wr => ∃ k : Nat, i = .int .i64 k ∧ k ≤ L.length ∧ Copies (repCondT n) 60 W0 (L.take k) v wr) (fun v i wr => L.length - (intOf i).toNat)
 case atStart => exact ⟨0, rfl, Nat.zero_le _, Copies.nil _ _ _ (Below.refl _ _)⟩
 case round =>
  obtain ⟨k, rfl, hk, hC⟩ := hrel
  obtain ⟨C, A1, c1, rfl, h1, h2, h3, h4⟩ := hC
  rw [take_len hk]
  by_cases hlt : k < L.length
  · have hrw := HR3.out.new_ (h4.mono (by omega) : Below W0.heap.size W0 wr)
    obtain ⟨m, rfl⟩ : ∃ m, n = m + 1 := by
     cases n with
     | zero => rw [row0 hrw] at hlt; simp at hlt
     | succ m => exact ⟨m, rfl⟩
    obtain ⟨g, off, Ay1, cy1, Ay2, cy2, Ay3, cy3, hA0, hDg, hg, q0, q1, q2, q3, q4, q5, q6, hy1, hy2, hy3⟩ := at_CondT hrw hlt
    subst hA0
    obtain ⟨y, hy⟩ : ∃ y, y = L[k] := ⟨_, rfl⟩
    have hys : SmC (m + 1) y := by rw [hy]; exact HS.out.2 _ (List.getElem_mem hlt)
    rw [← hy] at q0 q1 q2 q3 q4 q5 q6 hy1 hy2 hy3
    have b1 : (0 : Int) ≤ (k : Int) := by omega
    have b2 : (k : Int) < (L.length : Int) := by omega
    have HY := Lib.hid hy
    have H1 := Lib.hid h1
    have H2 := Lib.hid h2
    have H3 := Lib.hid h3
    have H4 := Lib.hid h4
    have HY1 := Lib.hid hy1
    have HY2 := Lib.hid hy2
    have HY3 := Lib.hid hy3
    have HYS := Lib.hid hys
    clear hy hrw h1 h2 h3 h4 hy1 hy2 hy3 hys
    go_wp2_with fail
    refine (HREC.out m rfl y Ay1 cy1 Ay2 cy2 Ay3 cy3 D wr HY1.out HY2.out HY3.out HYS.out).mono ?_
    rintro e w5 ⟨Az1, cz1, Az2, cz2, Az3, cz3, rfl, g1, g2, g3, hB5⟩
    have hB5' : Below wr.heap.size wr w5 := hB5
    have h9 : Below w5.heap.size w5 (w5.alloc (.cells #[.int .i64 y.kind, .bool y.goal, .string y.id, .slice Az1 y.attr.length cz1, .slice Az2 y.value.length cz2, .bool y.acc, .slice Az3 y.conds.length cz3] 60)) := (Below.refl _ _).alloc (Nat.le_refl _) _
    have hB7 : Below wr.heap.size wr (w5.alloc (.cells #[.int .i64 y.kind, .bool y.goal, .string y.id, .slice Az1 y.attr.length cz1, .slice Az2 y.value.length cz2, .bool y.acc, .slice Az3 y.conds.length cz3] 60)) := hB5'.alloc hB5'.size _
    have up : ∀ j, NewD wr.heap.size w5 j → j < w5.heap.size → (Plus C wr (w5.alloc (.cells #[.int .i64 y.kind, .bool y.goal, .string y.id, .slice Az1 y.attr.length cz1, .slice Az2 y.value.length cz2, .bool y.acc, .slice Az3 y.conds.length cz3] 60))) j ∧ (w5.alloc (.cells #[.int .i64 y.kind, .bool y.goal, .string y.id, .slice Az1 y.attr.length cz1, .slice Az2 y.value.length cz2, .bool y.acc, .slice Az3 y.conds.length cz3] 60)).heap[j]? = w5.heap[j]? := fun j hj hl => ⟨.inr ⟨hj.1, by simp; omega⟩, h9.block j hl⟩
    have hrep7 := rep_cond (n := m) (y := y) (g1.keep h9.size up) (g2.keep h9.size up) (g3.keep h9.size up)
    have hown7 := H1.out.plus hB7
    have hcl : ∀ j, Plus C wr (w5.alloc (.cells #[.int .i64 y.kind, .bool y.goal, .string y.id, .slice Az1 y.attr.length cz1, .slice Az2 y.value.length cz2, .bool y.acc, .slice Az3 y.conds.length cz3] 60)) j → j < (w5.alloc (.cells #[.int .i64 y.kind, .bool y.goal, .string y.id, .slice Az1 y.attr.length cz1, .slice Az2 y.value.length cz2, .bool y.acc, .slice Az3 y.conds.length cz3] 60)).heap.size := fun j hj => by
     rcases hj with hj | hj
     · have := (H2.out j hj).2; have := hB7.size; omega
     · exact hj.2
    have HB7 := Lib.hid hB7
    have HOW := Lib.hid hown7
    have HRE := Lib.hid hrep7
    have HCL := Lib.hid hcl
    have HB5 := Lib.hid hB5'
    have H63 := Lib.hid (show (L.take k).length + 1 ≤ maxLen by rw [take_len hk]; unfold maxLen; omega)
    have HBY := Lib.hid (show ((L.take k).length + 1) * 112 ≤ 140737488355328 by rw [take_len hk]; omega)
    have HV := Lib.hid (show Value.slice A1 k c1 = .slice A1 (L.take k).length c1 by rw [take_len hk])
    clear g1 g2 g3 hB5 h9 hB7 up hrep7 hown7 hcl hB5' q0 q1 q2 q3 q4 q5 q6
    go_wp2_with (at_builtin; refine wpList_append_C _ rfl _ _ 58 rfl 60 j0 _ 7 112 Try.underlying58 hj0 hy0 hyy1 hyy2 rfl rfl (by omega) (Plus C wr (w5.alloc (.cells #[.int .i64 y.kind, .bool y.goal, .string y.id, .slice Az1 y.attr.length cz1, .slice Az2 y.value.length cz2, .bool y.acc, .slice Az3 y.conds.length cz3] 60))) HCL.out (.slice A1 (L.take k).length c1) (L.take k) HV.out HOW.out ⟨w5.heap.size, 0, none⟩ 1 y [.int .i64 y.kind, .bool y.goal, .string y.id, .slice Az1 y.attr.length cz1, .slice Az2 y.value.length cz2, .bool y.acc, .slice Az3 y.conds.length cz3] rfl (World.news_of_block (heap_alloc_new _ _)) (by intro u hu; simp only [List.mem_cons, List.not_mem_nil, or_false] at hu; rcases hu with rfl | rfl | rfl | rfl | rfl | rfl | rfl <;> rfl) HRE.out H63.out HBY.out ?_; intro v' w7 hap)
    have hfin : Copies (repCondT (m + 1)) 60 W0 (L.take k ++ [y]) v' w7 := Copies.snoc H2.out H3.out H4.out HB7.out hap
    rw [HY.out, take_snoc hlt] at hfin
    go_roundw
    case rel => exact ⟨k + 1, by go_num, by omega, hfin⟩
    case measure => simp [intOf]; omega
  · obtain rfl : k = L.length := by omega
    have hfin : Copies (repCondT n) 60 W0 (L.take L.length) (.slice A1 (L.take L.length).length c1) wr := ⟨C, A1, c1, rfl, h1, h2, h3, h4⟩
    rw [List.take_length] at hfin
    have HF := Lib.hid hfin
    clear h1 h2 h3 h4 hfin
    go_wp2_with fail
    go_ret
    exact HF.out.done
set_option maxRecDepth 100000 in
set_option maxHeartbeats 16000000 in
theorem kcond_body (n : Nat) (hrec : ∀ m, n = m + 1 → CopyOk 81 m) : CopyOk 81 n := by
 intro x A1 c1 A2 c2 A3 c3 D w h1 h2 h3 hs
 obtain ⟨j0, hj0, hy0, hyy1, hyy2⟩ := infp inf_Cond
 have hcap1 := h1.cap
 have hcap2 := h2.cap
 have hcap3 := h3.cap
 obtain ⟨s1, s2, s3, s4⟩ := hs
 have S1 := Lib.hid s1
 have S2 := Lib.hid s2
 have HREC := Lib.hid hrec
 obtain ⟨L, hL⟩ : ∃ L, L = x.conds := ⟨_, rfl⟩
 rw [← hL] at h3 hcap3 s3 s4
 have HS := Lib.hid (show L.length ≤ 1000 ∧ ∀ x ∈ L, SmC n x from ⟨s3, s4⟩)
 have HXC := Lib.hid hL
 clear s1 s2 s4 hrec
 rw [← hL]
 clear hL
 have Q1 := Lib.hid h1
 have Q2 := Lib.hid h2
 have Q3 := Lib.hid h3
 clear h1 h2 h3
 go_enter Try.func81, Try.ntmps81
 go_upto_region 1 with fail
 obtain ⟨W1, hW1⟩ : ∃ W1, W1 = (w.alloc (.cells #[.int .i64 x.kind, .bool x.goal, .string x.id, .slice A1 x.attr.length c1, .slice A2 x.value.length c2, .bool x.acc, .slice A3 L.length c3] 60)).alloc (.cells #[.int .i64 0, .bool false, .string ⟨#[]⟩, .slice none 0 0, .slice none 0 0, .bool false, .slice none 0 0] 60) := ⟨_, rfl⟩
 have hB1 : Below w.heap.size w W1 := by rw [hW1]; exact ((Below.refl _ _).alloc (Nat.le_refl _) _).alloc (by simp) _
 have hX1 : Blk W1 w.heap.size 60 #[.int .i64 x.kind, .bool x.goal, .string x.id, .slice A1 x.attr.length c1, .slice A2 x.value.length c2, .bool x.acc, .slice A3 L.length c3] := by rw [hW1]; exact (Blk.new _ _ _).alloc _
 have hR1 : Blk W1 (w.heap.size + 1) 60 #[.int .i64 0, .bool false, .string ⟨#[]⟩, .slice none 0 0, .slice none 0 0, .bool false, .slice none 0 0] := by rw [hW1]; have := Blk.new (w.alloc (.cells #[.int .i64 x.kind, .bool x.goal, .string x.id, .slice A1 x.attr.length c1, .slice A2 x.value.length c2, .bool x.acc, .slice A3 L.length c3] 60)) 60 #[.int .i64 0, .bool false, .string ⟨#[]⟩, .slice none 0 0, .slice none 0 0, .bool false, .slice none 0 0]; simpa using this
 have hz1 : W1.heap.size = w.heap.size + 2 := by rw [hW1]; simp
 rw [← hW1]
 clear hW1
 obtain ⟨-, -, -, x3, -, -, -⟩ := hX1.c7
 have HB1 := Lib.hid hB1
 have HX1 := Lib.hid hX1
 have HR1 := Lib.hid hR1
 have HZ1 := Lib.hid hz1
 have hxl1 := hX1.lt
 clear hB1 hX1 hR1 hz1
 go_wp2_with fail
 refine (ktests_is A1 c1 x.attr W1 (Q1.out.new_ HB1.out) S1.out).mono ?_
 rintro e w2 ⟨B1, d1, rfl, k1, -, hB2⟩
 obtain ⟨W2, hW2⟩ : ∃ W2, W2 = w2.setCell ⟨w.heap.size, 3, none⟩ (.slice B1 x.attr.length d1) := ⟨_, rfl⟩
 have hX2 := HX1.out.new_ hB2
 have u3 := (hX2.cell 3).trans rfl
 have g3 := hX2.frozen 3
 have hX2b : Blk W2 w.heap.size 60 #[.int .i64 x.kind, .bool x.goal, .string x.id, .slice B1 x.attr.length d1, .slice A2 x.value.length c2, .bool x.acc, .slice A3 L.length c3] := by rw [hW2]; exact hX2.set_ 3 _
 have hR2 : Blk W2 (w.heap.size + 1) 60 #[.int .i64 0, .bool false, .string ⟨#[]⟩, .slice none 0 0, .slice none 0 0, .bool false, .slice none 0 0] := by rw [hW2]; exact (HR1.out.new_ hB2).far (by simp) _
 have hz2 := hB2.size
 have hzW2 : W2.heap.size = w2.heap.size := by rw [hW2]; simp
 have hB2b : Below w.heap.size w W2 := by rw [hW2]; exact (HB1.out.trans (hB2.mono (by omega))).setCell (Nat.le_refl _) _
 have hk1 : RowR repTestT (NewD W1.heap.size W2) W2 B1 d1 x.attr := k1.keep (by omega) (fun j hj hl => ⟨⟨hj.1, by have := hj.2; omega⟩, by rw [hW2]; exact Below.heap_setCell _ _ _ _ (by dsimp only; have := hj.1; have := HZ1.out; omega)⟩)
 have HB2 := Lib.hid hB2b
 have HX2 := Lib.hid hX2b
 have HR2 := Lib.hid hR2
 have HK1 := Lib.hid hk1
 have HZ2 := Lib.hid (show W1.heap.size ≤ W2.heap.size by omega)
 have hxl2 := hX2.lt
 clear k1 hB2 hX2 hX2b hR2 hB2b hk1 hzW2 x3
 go_upto_region 2 with fail
 rw [← hW2]
 clear hW2 u3 g3 hz2
 obtain ⟨-, -, -, -, x4, -, -⟩ := HX2.out.c7
 have hxl2 := HX2.out.lt
 go_wp2_with fail
 refine (ktests_is A2 c2 x.value W2 (Q2.out.new_ HB2.out) S2.out).mono ?_
 rintro e w3 ⟨B2, d2, rfl, k2, -, hB3⟩
 obtain ⟨W3, hW3⟩ : ∃ W3, W3 = w3.setCell ⟨w.heap.size, 4, none⟩ (.slice B2 x.value.length d2) := ⟨_, rfl⟩
 have hX3 := HX2.out.new_ hB3
 have u4 := (hX3.cell 4).trans rfl
 have g4 := hX3.frozen 4
 have hX3b : Blk W3 w.heap.size 60 #[.int .i64 x.kind, .bool x.goal, .string x.id, .slice B1 x.attr.length d1, .slice B2 x.value.length d2, .bool x.acc, .slice A3 L.length c3] := by rw [hW3]; exact hX3.set_ 4 _
 have hR3 : Blk W3 (w.heap.size + 1) 60 #[.int .i64 0, .bool false, .string ⟨#[]⟩, .slice none 0 0, .slice none 0 0, .bool false, .slice none 0 0] := by rw [hW3]; exact (HR2.out.new_ hB3).far (by simp) _
 have hz3 := hB3.size
 have hzW3 : W3.heap.size = w3.heap.size := by rw [hW3]; simp
 have hB3b : Below w.heap.size w W3 := by rw [hW3]; exact (HB2.out.trans (hB3.mono (by have := HB2.out.size; omega))).setCell (Nat.le_refl _) _
 have hk2 : RowR repTestT (NewD W1.heap.size W3) W3 B2 d2 x.value := k2.keep (by omega) (fun j hj hl => ⟨⟨by have := hj.1; have := HZ2.out; omega, by have := hj.2; omega⟩, by rw [hW3]; exact Below.heap_setCell _ _ _ _ (by dsimp only; have := hj.1; have := HZ1.out; have := HZ2.out; omega)⟩)
 have hk1 : RowR repTestT (NewD W1.heap.size W3) W3 B1 d1 x.attr := HK1.out.keep (by omega) (fun j hj hl => ⟨⟨hj.1, by have := hj.2; omega⟩, by rw [hW3]; exact (Below.heap_setCell _ _ _ _ (by dsimp only; have := hj.1; have := HZ1.out; omega)).trans (hB3.block j hl)⟩)
 have HB3 := Lib.hid hB3b
 have HX3 := Lib.hid hX3b
 have HR3b := Lib.hid hR3
 have HK2 := Lib.hid hk2
 have HK1b := Lib.hid hk1
 have HZ3 := Lib.hid (show W1.heap.size ≤ W3.heap.size by have := HZ2.out; omega)
 have HQ3 := Lib.hid (Q3.out.new_ HB3.out)
 have hxl3 := hX3.lt
 clear k2 hB3 hX3 hX3b hR3 hB3b hk1 hk2 hzW3 x4
 go_upto_region 3 with fail
 rw [← hW3]
 clear hW3 u4 g4 hz3
 obtain ⟨-, -, -, -, -, -, x6⟩ := HX3.out.c7
 have hxl3 := HX3.out.lt
 go_wp2_with fail
 refine (kconds_is n HREC.out A3 c3 L W3 HQ3.out HS.out).mono ?_
 intro e wf hf
 obtain ⟨E3, d3, he, r3, hE3, hBf⟩ := hf
 cases he
 obtain ⟨W9, hW9⟩ : ∃ W9, W9 = wf.setCell ⟨w.heap.size, 6, none⟩ (.slice E3 L.length d3) := ⟨_, rfl⟩
 have hX9 := HX3.out.new_ hBf
 have u6 := (hX9.cell 6).trans rfl
 have g6 := hX9.frozen 6
 have hxl9 := hX9.lt
 have hX9b : Blk W9 w.heap.size 60 #[.int .i64 x.kind, .bool x.goal, .string x.id, .slice B1 x.attr.length d1, .slice B2 x.value.length d2, .bool x.acc, .slice E3 L.length d3] := by rw [hW9]; exact hX9.set_ 6 _
 have hR9 : Blk W9 (w.heap.size + 1) 60 #[.int .i64 0, .bool false, .string ⟨#[]⟩, .slice none 0 0, .slice none 0 0, .bool false, .slice none 0 0] := by rw [hW9]; exact (HR3b.out.new_ hBf).far (by simp) _
 have hB9 : Below w.heap.size w W9 := by rw [hW9]; exact (HB3.out.trans (hBf.mono HB3.out.size)).setCell (Nat.le_refl _) _
 have hzf := hBf.size
 have hz9 : W9.heap.size = wf.heap.size := by rw [hW9]; simp
 have hk9 : ∀ j, w.heap.size + 2 ≤ j → W9.heap[j]? = wf.heap[j]? := fun j hj => by rw [hW9]; exact Below.heap_setCell _ _ _ _ (by dsimp only; omega)
 have HB9 := Lib.hid hB9
 have HX9 := Lib.hid hX9b
 have HT9 := Lib.hid (show W9.there (w.heap.size + 1) 0 (#[Value.int IntKind.i64 x.kind, Value.bool x.goal, Value.string x.id, Value.slice B1 x.attr.length d1, Value.slice B2 x.value.length d2, Value.bool x.acc, Value.slice E3 L.length d3] : Array Value).size from hR9.there)
 have HRG := Lib.hid (show W9.rangeAt w.heap.size 0 [Value.int IntKind.i64 x.kind, Value.bool x.goal, Value.string x.id, Value.slice B1 x.attr.length d1, Value.slice B2 x.value.length d2, Value.bool x.acc, Value.slice E3 L.length d3] from hX9b.range)
 have hrl9 := hR9.lt
 have l3 := r3.keep (w' := W9.setCells (w.heap.size + 1) 0 [Value.int IntKind.i64 x.kind, Value.bool x.goal, Value.string x.id, Value.slice B1 x.attr.length d1, Value.slice B2 x.value.length d2, Value.bool x.acc, Value.slice E3 L.length d3]) (D' := NewD w.heap.size (W9.setCells (w.heap.size + 1) 0 [Value.int IntKind.i64 x.kind, Value.bool x.goal, Value.string x.id, Value.slice B1 x.attr.length d1, Value.slice B2 x.value.length d2, Value.bool x.acc, Value.slice E3 L.length d3])) (by rw [size_setCells]; omega) (fun j hj hl => ⟨⟨by have := hj.1; have := HB3.out.size; omega, by rw [size_setCells]; omega⟩, (blk_setCells _ _ _ _ _ (by have := hj.1; have := HZ1.out; have := HZ3.out; omega)).trans (hk9 j (by have := hj.1; have := HZ1.out; have := HZ3.out; omega))⟩)
 have l1 := HK1b.out.keep (w' := W9.setCells (w.heap.size + 1) 0 [Value.int IntKind.i64 x.kind, Value.bool x.goal, Value.string x.id, Value.slice B1 x.attr.length d1, Value.slice B2 x.value.length d2, Value.bool x.acc, Value.slice E3 L.length d3]) (D' := NewD w.heap.size (W9.setCells (w.heap.size + 1) 0 [Value.int IntKind.i64 x.kind, Value.bool x.goal, Value.string x.id, Value.slice B1 x.attr.length d1, Value.slice B2 x.value.length d2, Value.bool x.acc, Value.slice E3 L.length d3])) (by rw [size_setCells]; omega) (fun j hj hl => ⟨⟨by have := hj.1; have := HZ1.out; omega, by rw [size_setCells]; omega⟩, (blk_setCells _ _ _ _ _ (by have := hj.1; have := HZ1.out; omega)).trans ((hk9 j (by have := hj.1; have := HZ1.out; omega)).trans (hBf.block j hl))⟩)
 have l2 := HK2.out.keep (w' := W9.setCells (w.heap.size + 1) 0 [Value.int IntKind.i64 x.kind, Value.bool x.goal, Value.string x.id, Value.slice B1 x.attr.length d1, Value.slice B2 x.value.length d2, Value.bool x.acc, Value.slice E3 L.length d3]) (D' := NewD w.heap.size (W9.setCells (w.heap.size + 1) 0 [Value.int IntKind.i64 x.kind, Value.bool x.goal, Value.string x.id, Value.slice B1 x.attr.length d1, Value.slice B2 x.value.length d2, Value.bool x.acc, Value.slice E3 L.length d3])) (by rw [size_setCells]; omega) (fun j hj hl => ⟨⟨by have := hj.1; have := HZ1.out; omega, by rw [size_setCells]; omega⟩, (blk_setCells _ _ _ _ _ (by have := hj.1; have := HZ1.out; omega)).trans ((hk9 j (by have := hj.1; have := HZ1.out; omega)).trans (hBf.block j hl))⟩)
 have R1 := Lib.hid l1
 have R2 := Lib.hid l2
 have R3 := Lib.hid l3
 clear hX9 hX9b hR9 hB9 hBf r3 hE3 l1 l2 l3 hz9 hk9 hzf x6
 go_upto_region 4 with fail
 rw [← hW9]
 clear hW9 u6 g6
 go_wp2_with (first | (with_reducible refine wpList_load_mid rfl 60 _ rfl w.heap.size 0 rfl [Value.int IntKind.i64 x.kind, Value.bool x.goal, Value.string x.id, Value.slice B1 x.attr.length d1, Value.slice B2 x.value.length d2, Value.bool x.acc, Value.slice E3 L.length d3] _ HRG.out Try.underlying60 rfl (by kernel_rfl) ?_) | (with_reducible refine wpList_store_mid rfl 60 _ _ rfl (w.heap.size + 1) 0 #[Value.int IntKind.i64 x.kind, Value.bool x.goal, Value.string x.id, Value.slice B1 x.attr.length d1, Value.slice B2 x.value.length d2, Value.bool x.acc, Value.slice E3 L.length d3] rfl rfl HT9.out (by kernel_rfl) (by kernel_rfl) ?_))
 try simp only [Exit.inBlock, Exit.then]
 have hBe : Below w.heap.size w (W9.setCells (w.heap.size + 1) 0 [Value.int IntKind.i64 x.kind, Value.bool x.goal, Value.string x.id, Value.slice B1 x.attr.length d1, Value.slice B2 x.value.length d2, Value.bool x.acc, Value.slice E3 L.length d3]) := Below.setCells' _ _ HB9.out (by omega)
 refine bodyPost_ret (v := .agg #[.int .i64 x.kind, .bool x.goal, .string x.id, .slice B1 x.attr.length d1, .slice B2 x.value.length d2, .bool x.acc, .slice E3 L.length d3]) ?_ rfl ?_
 · exact results_cell (t := 2) (T := 60) rfl _ _ (w.heap.size + 1) [Value.int IntKind.i64 x.kind, Value.bool x.goal, Value.string x.id, Value.slice B1 x.attr.length d1, Value.slice B2 x.value.length d2, Value.bool x.acc, Value.slice E3 L.length d3] _ rfl (World.rangeAt_setCells_same W9 (w.heap.size + 1) 0 [Value.int IntKind.i64 x.kind, Value.bool x.goal, Value.string x.id, Value.slice B1 x.attr.length d1, Value.slice B2 x.value.length d2, Value.bool x.acc, Value.slice E3 L.length d3] HT9.out) Try.underlying60 rfl (by kernel_rfl)
 · have hxc := HXC.out
   subst hxc
   exact ⟨B1, d1, B2, d2, E3, d3, rfl, R1.out, R2.out, R3.out, hBe⟩
theorem kcond_is : ∀ n, CopyOk 81 n
 | 0 => kcond_body 0 (fun m h => by omega)
 | n + 1 => kcond_body (n + 1) (fun m h => by obtain rfl : m = n := by omega
                                              exact kcond_is m)
end Go.Proofs.Ytnfgilbaglfkeaa
namespace Go.Proofs.Ytnfgilbaglfkeaa
section
variable {P : Program} {ops : Array Oper} {Q : Exit → Act → World → Prop} {S : World → Prop}
inductive Pl where
 | fin (l : List (Nat × Cls))
 | fork (l : List (Nat × Cls)) (i : Nat) (r : Pl) (j : Nat) (s : Pl)
def setL (listed : Array Bool) (l : List (Nat × Cls)) : Array Bool := l.foldl (fun g x => g.setIfInBounds x.1 true) listed
def okL (ops : Array Oper) : List (Nat × Cls) → Array Bool → Bool
 | [], _ => true
 | (k, c) :: rest, listed => (if c == 2 then Region.ready .any ops listed == [k] else (Region.ready .any ops listed).contains k && Region.free .any ops listed k) && okL ops rest (listed.setIfInBounds k true)
def chkL (qs ls : List Nat) (l : List (Nat × Cls)) : Bool := l.all fun (k, c) => (c != 2) == qs.contains k && (c != 1 || ls.contains k)
def okPl (ops : Array Oper) (qs ls : List Nat) : Pl → Nat → Array Bool → Bool
 | .fin l, n, listed => n == l.length && chkL qs ls l && okL ops l listed && (Region.ready .any ops (setL listed l)).isEmpty && l.all fun x => x.1 < ops.size
 | .fork l i r j s, n, listed => decide (l.length + 1 ≤ n) && chkL qs ls l && okL ops l listed && (l.all fun x => x.1 < ops.size) && Region.ready .any ops (setL listed l) == [i, j] && !qs.contains i && !qs.contains j &&
  okPl ops qs ls r (n - l.length - 1) ((setL listed l).setIfInBounds i true) && okPl ops qs ls s (n - l.length - 1) ((setL listed l).setIfInBounds j true)
def wpY (P : Program) (ops : Array Oper) (Q : Exit → Act → World → Prop) (S : World → Prop) (ns : Nat → Bool) (R : Act → World → Prop) : List (Nat × Cls × Oper) → Act → World → Prop
 | [], a, w => R a w
 | (i, c, o) :: rest, a, w =>
   if c = 2 then (if Region.wanted o (yielded ops a.tmps) = true then o.wp P a w (fun a' w' => (ns i = true → S w') ∧ wpY P ops Q S ns R rest a' w') Q else (ns i = true → S w) ∧ wpY P ops Q S ns R rest (a.put o.dst undef) w)
   else ∃ v, (if c = 1 then YieldsIf P ops S o v a ∧ S w else Yields P ops o v a) ∧ wpY P ops Q S ns R rest (a.put o.dst v) w
def wpPl (P : Program) (ops : Array Oper) (Q : Exit → Act → World → Prop) (S : World → Prop) (ns : Nat → Bool) : Pl → Act → World → Prop
 | .fin l, a, w => wpY P ops Q S ns (fun a w => Q .normal a w) (beside ops l) a w
 | .fork l i r j s, a, w => wpY P ops Q S ns (fun a w => wpOp P ops Q i (fun a' w' => (ns i = true → S w') ∧ wpPl P ops Q S ns r a' w') a w ∧ wpOp P ops Q j (fun a' w' => (ns j = true → S w') ∧ wpPl P ops Q S ns s a' w') a w) (beside ops l) a w
theorem closed_setL : ∀ (l : List (Nat × Cls)) (listed : Array Bool), Closed ops listed → okL ops l listed = true → Closed ops (setL listed l)
 | [], _, h, _ => h
 | (k, c) :: rest, listed, h, hB => by
   simp only [okL, Bool.and_eq_true] at hB
   refine closed_setL rest _ (closed_ready h ?_) hB.2
   by_cases hc : c = 2
   · subst hc
     have hB1 := hB.1
     simp only [beq_self_eq_true, if_true] at hB1
     have hr : Region.ready .any ops listed = [k] := by simpa using hB1
     rw [hr]; simp
   · have hB1 := hB.1
     rw [if_neg (by simpa using hc)] at hB1
     simp only [Bool.and_eq_true] at hB1
     simpa using hB1.1
theorem wpAnyE_list {qt ns : Nat → Bool} {R : Act → World → Prop} {n : Nat} (hsel : Region.noSelect ops = true) (hQ : ∀ c a a' w, Q (.panic c) a w → Q (.panic c) a' w) :
 ∀ (rest : List (Nat × Cls)) (listed : Array Bool) (a : Act) (w : World), Closed ops listed → okL ops rest listed = true → (∀ x ∈ rest, x.1 < ops.size) →
   (∀ k c, (k, c) ∈ rest → (qt k = true ↔ c ≠ 2)) → (∀ k, (k, 1) ∈ rest → ∀ j, waitsT ops ops.size j k = false → j ≠ k → j < ops.size → ns j = true) →
   (∀ a w, R a w → wpAnyE P ops Q S qt ns n (setL listed rest) a w) → wpY P ops Q S ns R (beside ops rest) a w → wpAnyE P ops Q S qt ns (rest.length + n) listed a w
 | [], listed, a, w, _, _, _, _, _, hR, h => by
   have := hR a w h
   simpa [setL] using this
 | (k, c) :: rest, listed, a, w, hcl, hB, hl, hqt, hns, hR, h => by
   simp only [okL, Bool.and_eq_true] at hB
   obtain ⟨hB1, hB2⟩ := hB
   have hi : k < ops.size := hl (k, c) (by simp)
   have ho : ops[k]? = some ops[k] := Array.getElem?_eq_getElem hi
   have hb : beside ops ((k, c) :: rest) = (k, c, ops[k]) :: beside ops rest := by simp [beside, ho]
   have ih := fun listed' a w hcl' hB' hR' h' => wpAnyE_list (R := R) (n := n) hsel hQ rest listed' a w hcl' hB' (fun x hx => hl x (by simp [hx])) (fun k c hk => hqt k c (by simp [hk])) (fun k hk => hns k (by simp [hk])) hR' h'
   rw [hb] at h
   simp only [wpY] at h
   have hlen : ((k, c) :: rest).length + n = (rest.length + n) + 1 := by simp; omega
   rw [hlen]
   by_cases hc : c = 2
   · subst hc
     simp only [beq_self_eq_true, if_true] at hB1
     have hr : Region.ready .any ops listed = [k] := by simpa using hB1
     simp only [if_true] at h
     have hcl2 := closed_ready hcl (i := k) (by rw [hr]; simp)
     refine ⟨fun h0 => (by rw [hr] at h0; cases h0), fun i hi' => ?_⟩
     rw [hr] at hi'
     obtain rfl : i = k := by simpa using hi'
     have hbh : ∀ w', (ns i = true → S w') → behind S qt ns i w w' := fun w' hs => by
      unfold behind
      rw [if_neg (fun hq => (hqt i 2 (by simp)).1 hq rfl)]
      exact hs
     unfold wpOp
     simp only [ho]
     split
     · rename_i hw
       rw [if_pos hw] at h
       exact .inl (Oper.wp_mono (fun a' w' h' => ⟨hbh w' h'.1, ih _ a' w' hcl2 hB2 hR h'.2⟩) h)
     · rename_i hw
       rw [if_neg hw] at h
       exact ⟨hbh w h.1, ih _ _ w hcl2 hB2 hR h.2⟩
   · rw [if_neg (by simpa using hc)] at hB1
     simp only [Bool.and_eq_true] at hB1
     rw [if_neg hc] at h
     obtain ⟨v, hy, hk⟩ := h
     have hrdy : k ∈ Region.ready .any ops listed := by simpa using hB1.1
     have hrest := ih _ _ w (closed_ready hcl hrdy) hB2 hR hk
     by_cases h1 : c = 1
     · subst h1
       rw [if_pos rfl] at hy
       exact wpAnyE_first ho (Region.noSelect_spec hsel) (fun c a w => hQ c _ _ w) true ((hqt k 1 (by simp)).2 hc) (fun _ => hns k (by simp)) (rest.length + n) listed a w hcl (Region.free_spec ho hB1.2) hrdy
        (hy.1.imp (fun ⟨p, q⟩ => ⟨p, fun w' hw' => q w' (hw' rfl)⟩) id) (fun _ => hy.2) hrest
     · rw [if_neg h1] at hy
       exact wpAnyE_first ho (Region.noSelect_spec hsel) (fun c a w => hQ c _ _ w) false ((hqt k c (by simp)).2 hc) (fun h => by cases h) (rest.length + n) listed a w hcl (Region.free_spec ho hB1.2) hrdy
        (hy.imp (fun ⟨p, q⟩ => ⟨p, fun w' _ => q w'⟩) id) (fun h => by cases h) hrest
theorem wpAnyE_pl {qs ls : List Nat} (hsel : Region.noSelect ops = true) (hQ : ∀ c a a' w, Q (.panic c) a w → Q (.panic c) a' w) (p : Pl) :
 ∀ (n : Nat) (listed : Array Bool) (a : Act) (w : World), Closed ops listed → okPl ops qs ls p n listed = true →
   wpPl P ops Q S (fun j => ls.any fun k => k != j && !waitsT ops ops.size j k) p a w → wpAnyE P ops Q S (fun k => qs.contains k) (fun j => ls.any fun k => k != j && !waitsT ops ops.size j k) n listed a w := by
 have hq : ∀ l, chkL qs ls l = true → ∀ k c, (k, c) ∈ l → (qs.contains k = true ↔ c ≠ 2) := fun l hl k c hk => by
  have := List.all_eq_true.1 hl (k, c) hk
  simp only [Bool.and_eq_true, beq_iff_eq] at this
  rw [← this.1]; simp
 have hn : ∀ l, chkL qs ls l = true → ∀ k, (k, 1) ∈ l → ∀ j, waitsT ops ops.size j k = false → j ≠ k → j < ops.size → (ls.any fun k => k != j && !waitsT ops ops.size j k) = true := fun l hl k hk j hw hjk _ => by
  have := List.all_eq_true.1 hl (k, 1) hk
  simp only [Bool.and_eq_true] at this
  have h2 : ls.contains k = true := by simpa using this.2
  rw [List.any_eq_true]
  exact ⟨k, by simpa using h2, by rw [hw]; simp [Ne.symm hjk]⟩
 induction p with
 | fin l =>
   intro n listed a w hcl hB h
   simp only [okPl, Bool.and_eq_true, beq_iff_eq] at hB
   obtain ⟨⟨⟨⟨rfl, hc⟩, hL⟩, he⟩, hlt⟩ := hB
   have := wpAnyE_list (P := P) (Q := Q) (S := S) (qt := fun k => qs.contains k) (ns := fun j => ls.any fun k => k != j && !waitsT ops ops.size j k) (R := fun a w => Q .normal a w) (n := 0) hsel hQ l listed a w hcl hL (by simpa [List.all_eq_true] using hlt) (hq l hc) (hn l hc)
    (fun a w h => ⟨by simpa using he, h⟩) h
   simpa using this
 | fork l i r j s ihr ihs =>
   intro n listed a w hcl hB h
   simp only [okPl, Bool.and_eq_true, beq_iff_eq, decide_eq_true_eq, Bool.not_eq_true'] at hB
   obtain ⟨⟨⟨⟨⟨⟨⟨⟨hlen, hc⟩, hL⟩, hlt⟩, hrd⟩, hqi⟩, hqj⟩, hr⟩, hs⟩ := hB
   obtain ⟨m, rfl⟩ : ∃ m, n = l.length + (m + 1) := ⟨n - l.length - 1, by omega⟩
   have em : l.length + (m + 1) - l.length - 1 = m := by omega
   rw [em] at hr hs
   have hcl2 := closed_setL l listed hcl hL
   refine wpAnyE_list (P := P) (Q := Q) (S := S) (qt := fun k => qs.contains k) (ns := fun j => ls.any fun k => k != j && !waitsT ops ops.size j k) (n := m + 1) hsel hQ l listed a w hcl hL (by simpa [List.all_eq_true] using hlt) (hq l hc) (hn l hc) (fun a w hR => ?_) h
   refine ⟨fun h0 => (by rw [hrd] at h0; cases h0), fun k hk => ?_⟩
   have hcl3 := closed_ready hcl2 hk
   rw [hrd] at hk
   simp only [List.mem_cons, List.not_mem_nil, or_false] at hk
   rcases hk with rfl | rfl
   · refine wpOp_mono (fun a' w' h' => ⟨?_, ihr m _ a' w' hcl3 hr h'.2⟩) hR.1
     unfold behind
     rw [if_neg (by simp only [hqi]; simp)]
     exact h'.1
   · refine wpOp_mono (fun a' w' h' => ⟨?_, ihs m _ a' w' hcl3 hs h'.2⟩) hR.2
     unfold behind
     rw [if_neg (by simp only [hqj]; simp)]
     exact h'.1
theorem wp_region_Pl {id : Nat} {l : List Oper} {a : Act} {w : World} (S : World → Prop) (qs ls : List Nat) (p : Pl) (hm : P.follows .mixedOrders = true) (hsel : Region.noSelect l.toArray = true)
 (hB : okPl l.toArray qs ls p l.toArray.size (Array.replicate l.toArray.size false) = true)
 (h : ∀ K : Act → World → Prop, (∀ a w, Q .normal a w → K a w) → wpPl P l.toArray (OnlyN K) S (fun j => ls.any fun k => k != j && !waitsT l.toArray l.toArray.size j k) p a w.drew) : (Code.region id l.toArray true).wp P Q a w := by
 refine Code.wp_mono (Q := OnlyN fun a w => Q .normal a w) (fun e a w hq => by cases e <;> first | exact hq | exact hq.elim) (wp_region_any hm ?_)
 have hcl : Closed l.toArray (Array.replicate l.toArray.size false) := fun m o hm => by rw [getD_replicate_false] at hm; cases hm
 exact wpAny_of_E _ _ _ _ (wpAnyE_pl (P := P) (Q := OnlyN fun a w => Q .normal a w) (S := S) hsel (fun c a a' w h => h) p _ _ a w.drew hcl hB (h _ (fun _ _ h => h)))
variable {ns : Nat → Bool} {R : Act → World → Prop} {rest : List (Nat × Cls × Oper)} {a : Act} {w : World} {i : Nat} {o : Oper}
theorem wpY_nil (h : R a w) : wpY P ops Q S ns R [] a w := h
theorem wpY_w (v : Value) (hy : Yields P ops o v a) (h : wpY P ops Q S ns R rest (a.put o.dst v) w) : wpY P ops Q S ns R ((i, 0, o) :: rest) a w := by
 simp only [wpY]
 exact ⟨v, by simpa using hy, h⟩
theorem wpY_l (v : Value) (hS : S w) (hy : YieldsIf P ops S o v a) (h : wpY P ops Q S ns R rest (a.put o.dst v) w) : wpY P ops Q S ns R ((i, 1, o) :: rest) a w := by
 simp only [wpY]
 exact ⟨v, by simpa using ⟨hy, hS⟩, h⟩
theorem wpY_e (hn : ns i = false)
 (h : ∀ K : Act → World → Prop, (∀ a w, wpY P ops Q S ns R rest a w → K a w) → if Region.wanted o (yielded ops a.tmps) = true then Oper.wp P o a w K Q else K (a.put o.dst undef) w) : wpY P ops Q S ns R ((i, 2, o) :: rest) a w := by
 have := h (fun a' w' => (ns i = true → S w') ∧ wpY P ops Q S ns R rest a' w') (fun a w h2 => ⟨fun h => absurd h (by rw [hn]; simp), h2⟩)
 simpa only [wpY, if_true] using this
theorem wpY_es
 (h : ∀ K : Act → World → Prop, (∀ a w, S w → wpY P ops Q S ns R rest a w → K a w) → if Region.wanted o (yielded ops a.tmps) = true then Oper.wp P o a w K Q else K (a.put o.dst undef) w) : wpY P ops Q S ns R ((i, 2, o) :: rest) a w := by
 have := h (fun a' w' => (ns i = true → S w') ∧ wpY P ops Q S ns R rest a' w') (fun a w h1 h2 => ⟨fun _ => h1, h2⟩)
 simpa only [wpY, if_true] using this
theorem wpOp_e {H : Act → World → Prop} (ho : ops[i]? = some o) (hn : ns i = false)
 (h : ∀ K : Act → World → Prop, (∀ a w, H a w → K a w) → if Region.wanted o (yielded ops a.tmps) = true then Oper.wp P o a w K Q else K (a.put o.dst undef) w) :
 wpOp P ops Q i (fun a' w' => (ns i = true → S w') ∧ H a' w') a w := by
 have h2 := h (fun a' w' => (ns i = true → S w') ∧ H a' w') (fun a w h2 => ⟨fun h => absurd h (by rw [hn]; simp), h2⟩)
 unfold wpOp
 simp only [ho]
 split
 · rename_i hw
   rw [if_pos hw] at h2
   exact .inl h2
 · rename_i hw
   rw [if_neg hw] at h2
   exact h2
theorem wpOp_c {C : World → Prop} {H : Act → World → Prop} (hC : ∀ w, C w) (ho : ops[i]? = some o)
 (h : ∀ K : Act → World → Prop, (∀ a w, H a w → K a w) → if Region.wanted o (yielded ops a.tmps) = true then Oper.wp P o a w K Q else K (a.put o.dst undef) w) :
 wpOp P ops Q i (fun a' w' => C w' ∧ H a' w') a w := by
 have h2 := h (fun a' w' => C w' ∧ H a' w') (fun a w h2 => ⟨hC w, h2⟩)
 unfold wpOp
 simp only [ho]
 split
 · rename_i hw
   rw [if_pos hw] at h2
   exact .inl h2
 · rename_i hw
   rw [if_neg hw] at h2
   exact h2
theorem wpOp_cs {C : World → Prop} {H : Act → World → Prop} (ho : ops[i]? = some o)
 (h : ∀ K : Act → World → Prop, (∀ a w, C w → H a w → K a w) → if Region.wanted o (yielded ops a.tmps) = true then Oper.wp P o a w K Q else K (a.put o.dst undef) w) :
 wpOp P ops Q i (fun a' w' => C w' ∧ H a' w') a w := by
 have h2 := h (fun a' w' => C w' ∧ H a' w') (fun a w h1 h2 => ⟨h1, h2⟩)
 unfold wpOp
 simp only [ho]
 split
 · rename_i hw
   rw [if_pos hw] at h2
   exact .inl h2
 · rename_i hw
   rw [if_neg hw] at h2
   exact h2
theorem wpOp_es {H : Act → World → Prop} (ho : ops[i]? = some o)
 (h : ∀ K : Act → World → Prop, (∀ a w, S w → H a w → K a w) → if Region.wanted o (yielded ops a.tmps) = true then Oper.wp P o a w K Q else K (a.put o.dst undef) w) :
 wpOp P ops Q i (fun a' w' => (ns i = true → S w') ∧ H a' w') a w := by
 have h2 := h (fun a' w' => (ns i = true → S w') ∧ H a' w') (fun a w h1 h2 => ⟨fun _ => h1, h2⟩)
 unfold wpOp
 simp only [ho]
 split
 · rename_i hw
   rw [if_pos hw] at h2
   exact .inl h2
 · rename_i hw
   rw [if_neg hw] at h2
   exact h2
end
end Go.Proofs.Ytnfgilbaglfkeaa
