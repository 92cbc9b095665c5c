/-
  Texts put together: TabHas, IterBase, Seq, RangeP, SeqP, IterSym, ListSym, TabAll, KitSyms, RTabFresh, SymLists, TabPlain, TabPutL, TabClone, GTab.
-/
import Derived.Test.YthogokcbbkjcdaaMd
import Derived.Test.YthogokcbbkjcdaaRows
import Derived.Test.YthogokcbbkjcdaaMa
import Derived.Test.YthogokcbbkjcdaaMc

namespace Go.Proofs.Ythogokcbbkjcdaa
open Go.RowKit
set_option maxRecDepth 100000 in
set_option maxHeartbeats 4000000 in
theorem tabhas_is {D : Nat → Prop} {w : World} {S : Nat → Option (List Sym)} {σ : Nat → St} {S2 : Nat → Option (List Page)} {σ2 : Nat → St} (T : TB) (l : List Sym) (s : Sym) (hT : Tabs D w S σ S2 σ2) (hB : TabBlk w T) (hb : S T.bs = some l) (hl : (l.length : Int) ≤ 1000000) :
    Calls Try.prog 30 #[.pointer (some ⟨T.b, 0, none⟩), .agg #[.int .i64 s.kind, .string s.text, .int .i64 s.n]] w fun e w' => e = .returned (.bool (has cmpSym l s)) ∧ Below w.heap.size w w' := by
  have HT := Lib.hid hT
  have HB := Lib.hid hB
  have HS := Lib.hid hb
  clear hT hB hb
  go_enter Try.func30, Try.ntmps30
  go_wp2_with fail
  obtain ⟨W, hW⟩ : ∃ W, W = w.alloc (Obj.cells #[Value.int IntKind.i64 s.kind, Value.string s.text, Value.int IntKind.i64 s.n] 36) := ⟨_, rfl⟩
  have hX : Blk W w.heap.size 36 #[.int .i64 s.kind, .string s.text, .int .i64 s.n] := by rw [hW]; exact Blk.new _ _ _
  have hB0 : Below w.heap.size w W := by rw [hW]; exact (Below.refl _ _).alloc (Nat.le_refl _) _
  rw [← hW]
  clear hW
  have y0 := (hX.cell 0).trans rfl
  have y1 := (hX.cell 1).trans rfl
  have y2 := (hX.cell 2).trans rfl
  have hxl := hX.lt
  have hT0 := HT.out.below hB0
  have hBk := HB.out.below hB0
  have s1 := (hBk.1.cell 1).trans rfl
  have hbl := hBk.1.lt
  have HB0 := Lib.hid hB0
  have HT0 := Lib.hid hT0
  clear hX hB0 hT0 hBk
  refine wp_region_E (fun w9 => Below W.heap.size W w9) [(0, 0), (1, 0), (2, 0), (3, 1), (4, 1), (5, 2), (6, 0), (7, 0), (8, 0), (9, 0), (10, 0)] (by kernel_rfl) (by kernel_rfl) (fun KK hKK => ?_)
  simp only [beside, List.filterMap_cons, List.filterMap_nil, List.getElem?_toArray, List.getElem?_cons_zero, List.getElem?_cons_succ, Option.map_some]
  repeat (first | (refine wpX_w ?_ (Or.inl ⟨by rfl, fun w9 => ?_⟩) ?_; rotate_left 1; go_simp; with_reducible rfl; simp only [Act.put, List.setIfInBounds_toArray, List.set_cons_zero, List.set_cons_succ]) | (refine wpX_l ?_ (((Below.refl _ _).drew)) (Or.inl ⟨by rfl, fun w9 hw9 => ?_⟩) ?_; rotate_left 1; obtain ⟨hc9, hf9⟩ := bcell hw9; go_simp; with_reducible rfl; simp only [Act.put, List.setIfInBounds_toArray, List.set_cons_zero, List.set_cons_succ]) | (refine wpX_w undef (Or.inr ⟨by rfl, rfl⟩) ?_; simp only [Act.put, List.setIfInBounds_toArray, List.set_cons_zero, List.set_cons_succ]) | (refine wpX_l undef (((Below.refl _ _).drew)) (Or.inr ⟨by rfl, rfl⟩) ?_; simp only [Act.put, List.setIfInBounds_toArray, List.set_cons_zero, List.set_cons_succ]))
  refine wpX_e (by kernel_rfl) (fun K9 hK9 => ?_)
  go_simp
  have hT1 := HT0.out.below ((Below.refl W.heap.size W).drew)
  refine (place_Sym T.bs _ _ _ l s _ (hT1.syms.at_ T.bs l HS.out) (hT1.syms.srt T.bs l HS.out) (by omega)).mono ?_
  rintro e w1 ⟨rfl, hb1⟩
  have HB1 := Lib.hid ((Below.refl W.heap.size W).drew.trans (hb1.mono (by simp)))
  clear hb1 hT1
  refine hK9 _ _ ?_
  clear hK9 K9
  repeat (first | (refine wpX_w ?_ (Or.inl ⟨by rfl, fun w9 => ?_⟩) ?_; rotate_left 1; go_simp; with_reducible rfl; simp only [Act.put, List.setIfInBounds_toArray, List.set_cons_zero, List.set_cons_succ]) | (refine wpX_l ?_ (((Below.refl _ _).drew)) (Or.inl ⟨by rfl, fun w9 hw9 => ?_⟩) ?_; rotate_left 1; obtain ⟨hc9, hf9⟩ := bcell hw9; go_simp; with_reducible rfl; simp only [Act.put, List.setIfInBounds_toArray, List.set_cons_zero, List.set_cons_succ]) | (refine wpX_w undef (Or.inr ⟨by rfl, rfl⟩) ?_; simp only [Act.put, List.setIfInBounds_toArray, List.set_cons_zero, List.set_cons_succ]) | (refine wpX_l undef (((Below.refl _ _).drew)) (Or.inr ⟨by rfl, rfl⟩) ?_; simp only [Act.put, List.setIfInBounds_toArray, List.set_cons_zero, List.set_cons_succ]))
  refine wpX_nil ?_
  simp only [OnlyN_normal]
  refine hKK _ _ ?_
  clear hKK KK
  go_wp2_with fail
  go_ret
  exact ⟨rfl, HB0.out.trans (HB1.out.mono HB0.out.size)⟩
end Go.Proofs.Ythogokcbbkjcdaa

namespace Go.Proofs.Ythogokcbbkjcdaa
open Go.RowKit Go.Shelf

/-- The row that an iterator reads lies as it lay. -/
def RowKeep (A : Option Addr) (W W' : World) : Prop := W.heap.size ≤ W'.heap.size ∧ ∀ a, A = some a → a.block < W.heap.size → W'.heap[a.block]? = W.heap[a.block]?
theorem RowKeep.trans {A : Option Addr} {X Y Z : World} (h : RowKeep A X Y) (k : RowKeep A Y Z) : RowKeep A X Z := ⟨Nat.le_trans h.1 k.1, fun a e hl => (k.2 a e (Nat.lt_of_lt_of_le hl h.1)).trans (h.2 a e hl)⟩
theorem RowKeep.of_priv {A : Option Addr} {B : Nat} {X Y : World} (hA : AIn A (· < B)) (h : Priv B X Y) : RowKeep A X Y := ⟨h.size, fun a e hl => h.block _ hl (.inl (hA a e))⟩
theorem RowKeep.of_below {A : Option Addr} {B : Nat} {X Y : World} (hA : AIn A (· < B)) (h : Below B X Y) : RowKeep A X Y := ⟨h.size, fun a e _ => h.block _ (hA a e)⟩
theorem RowKeep.rd {α : Type} {size c : Nat} {cells : α → List Value} {A : Option Addr} {l : List α} {W W' : World} (hk : RowKeep A W W') (h : RowRd W size cells A c l) : RowRd W' size cells A c l :=
  h.keep hk.1 (fun p hp ⟨a, ha, hb⟩ => World.cell?_of_block (by rw [← hb]; exact hk.2 a ha (by rw [hb]; exact hp)))
/-- What such an iterator does ahead of the first round: it may make new memory; the set is marked as seen. -/
def SeenStart (b : Nat) (X Y : World) : Prop := ∃ X1, Below X.heap.size X X1 ∧ Y = X1.setCell ⟨b, 1, none⟩ (.bool true)
theorem SeenStart.keeps {b B : Nat} {X Y : World} (h : SeenStart b X Y) : KeepsFrom B X Y := by
  obtain ⟨X1, hb, rfl⟩ := h
  refine KeepsFrom.set_ ⟨hb.size, fun k o _ hk _ => (hb.block k (Array.getElem?_eq_some_iff.1 hk).1).trans hk⟩ _ _
theorem SeenStart.set_ {α : Type} {tSet tE size : Nat} {cells : α → List Value} {W W1 : World} {b : Nat} {sn : Bool} {A : Option Addr} {c : Nat} {l : List α} (h : SeenStart b W W1) (hS : SetAt tSet tE size cells W b sn A c l) (hne : tE ≠ tSet) : SetAt tSet tE size cells W1 b true A c l := by
  obtain ⟨X1, hb, rfl⟩ := h
  refine ⟨(hS.new_ hb).blk.set_ 1 _, ownsRow_setCell_other (hS.new_ hb).row ?_ _⟩
  exact own_blk_ne hS.row hS.blk hne
theorem SeenStart.fr {b : Nat} {W W1 : World} (h : SeenStart b W W1) : Fr (· = b) W W1 := by
  obtain ⟨X1, hb, rfl⟩ := h
  exact (Fr.of_new (M := (· = b)) hb).setCell (p := ⟨b, 1, none⟩) (.inl rfl) _
/-- What is asked of the rounds. -/
abbrev Rounds {α : Type} (lo : Nat) (encs : α → Array Value) (xs : List α) (Kp : World → World → Prop) (J Jx : List α → World → Prop) : Prop :=
  ∀ pre x post W1, xs = pre ++ x :: post → J pre W1 → YieldAt Fence.wide 0 Try.prog lo (encs x) W1 fun e W' =>
      (e = .returned (.bool true) ∧ J (pre ++ [x]) W' ∧ Kp W1 W') ∨ (e = .returned (.bool false) ∧ Jx (pre ++ [x]) W')
abbrev Told {α : Type} (xs : List α) (J Jx : List α → World → Prop) (e : Ending) (W' : World) : Prop := (∃ v, e = .returned v) ∧ (J xs W' ∨ ∃ pre post, xs = pre ++ post ∧ Jx pre W')
end Go.Proofs.Ythogokcbbkjcdaa

namespace Go.Proofs.Ythogokcbbkjcdaa
open Go.RowKit Go.Shelf
attribute [local go_sem] Oper.semAt_some
/-- In every world that is w with new memory beside it, the function value gf, lb yields xs. -/
structure Seq {α : Type} (gf : Nat) (lb : Array Value) (encs : α → Array Value) (xs : List α) (w : World) (start Kp : World → World → Prop) : Prop where
  enter : ∀ args w, (callFunc gf args).run Try.prog w = .ok (.enter gf args) w
  iter : ∀ W, Below w.heap.size w W → Iter Try.prog gf lb encs xs W start (fun X Y => Kp X Y ∧ KeepsFrom W.heap.size X Y)
  trans : ∀ A B C, Kp A B → Kp B C → Kp A C
  keep : ∀ A B, Priv w.heap.size A B → Kp A B
  below : ∀ A B, Below w.heap.size A B → Kp A B
  mods : ∀ W W1, start W W1 → Fr (· < w.heap.size) W W1
theorem keepsFrom_of_fr {B : Nat} {X Y : World} (h : Fr (· < B) X Y) : KeepsFrom B X Y := ⟨h.size, fun k _ hB hk _ => (h.block k (Array.getElem?_eq_some_iff.1 hk).1 (by omega)).trans hk⟩
theorem keepsFrom_of_below {B C : Nat} {X Y : World} (h : Below B X Y) (hs : X.heap.size ≤ B) : KeepsFrom C X Y := ⟨h.size, fun k _ _ hk _ => (h.block k (Nat.lt_of_lt_of_le (Array.getElem?_eq_some_iff.1 hk).1 hs)).trans hk⟩
theorem owns_base {W : World} {base base' : Nat} {e : TypeId} {size : Nat} {v : Value} {n : Nat} {xs : List Value} (h : W.ownsRow base e size v n xs) (hb : base' ≤ base) : W.ownsRow base' e size v n xs :=
  ⟨h.1, h.2.imp id fun ⟨g, cap, cur, hv, h0, hg, hr⟩ => ⟨g, cap, cur, hv, Nat.le_trans hb h0, hg, hr⟩⟩
theorem owns_form {W : World} {base : Nat} {e : TypeId} {size : Nat} {v : Value} {n : Nat} {xs : List Value} (h : W.ownsRow base e size v n xs) : ∃ A c, v = .slice A n c ∧ AIn A (base ≤ ·) := by
  rcases h.2 with ⟨rfl, rfl⟩ | ⟨g, cap, cur, rfl, h0, _⟩
  · exact ⟨none, 0, rfl, AIn.none_ _⟩
  · exact ⟨_, cap, rfl, fun a e => by cases e; exact h0⟩
theorem owns_block {W : World} {base : Nat} {e : TypeId} {size : Nat} {v : Value} {n : Nat} {xs : List Value} (h : W.ownsRow base e size v n xs) : ∀ k, v.ownBlock = some k → base ≤ k := by
  rcases h.2 with ⟨rfl, rfl⟩ | ⟨g, cap, cur, rfl, h0, _⟩
  · intro k hk; cases hk
  · intro k hk; cases hk; exact h0
theorem owns_below {W W' : World} {base : Nat} {e : TypeId} {size : Nat} {v : Value} {n : Nat} {xs : List Value} (h : W.ownsRow base e size v n xs) (hb : Below W.heap.size W W') : W'.ownsRow base e size v n xs :=
  ⟨h.1, h.2.imp id fun ⟨g, cap, cur, hv, h0, hg, hr⟩ => ⟨g, cap, cur, hv, h0, Blk.new_ (t := e) hg hb, hr⟩⟩
theorem KeepsFrom.grown_ {B : Nat} {X Y Z : World} {row : Option Nat} (h : KeepsFrom B X Y) (hg : Y.grownBy Z row) (hr : ∀ k, row = some k → k < X.heap.size → cellsAt X k) : KeepsFrom B X Z :=
  ⟨Nat.le_trans h.size hg.size, fun k o hB hk hc => by
    have hlt := (Array.getElem?_eq_some_iff.1 hk).1
    refine (hg.block k (Nat.lt_of_lt_of_le hlt h.size) (fun e => ?_)).trans (h.same k o hB hk hc)
    obtain ⟨c, t, f, hh⟩ := hr k e.symm hlt
    rw [hh] at hk
    cases hk
    cases hc⟩
theorem owns_cells {W : World} {base : Nat} {e : TypeId} {size : Nat} {v : Value} {n : Nat} {xs : List Value} (h : W.ownsRow base e size v n xs) : ∀ k, v.ownBlock = some k → cellsAt W k := by
  rcases h.2 with ⟨rfl, rfl⟩ | ⟨g, cap, cur, rfl, h0, hg, _⟩
  · intro k hk; cases hk
  · intro k hk; cases hk; exact ⟨_, _, _, hg⟩
theorem owns_nil (W : World) (base : Nat) (e : TypeId) (size : Nat) : W.ownsRow base e size (.slice none 0 0) 0 [] := ⟨by simp, .inl ⟨rfl, rfl⟩⟩
theorem Seq.new_ {α : Type} {gf : Nat} {lb : Array Value} {encs : α → Array Value} {xs : List α} {w w' : World} {start Kp : World → World → Prop} (h : Seq gf lb encs xs w start Kp) (hb : Below w.heap.size w w') : Seq gf lb encs xs w' start Kp :=
  ⟨h.enter, fun W hW => h.iter W (hb.trans (hW.mono hb.size)), h.trans, fun A B hp => h.keep A B (hp.mono hb.size), fun A B hp => h.below A B (hp.mono hb.size), fun W W1 hs => (h.mods W W1 hs).mono (fun _ _ hk => Nat.lt_of_lt_of_le hk hb.size)⟩
end Go.Proofs.Ythogokcbbkjcdaa

namespace Go.Proofs.Ythogokcbbkjcdaa
open Go.RowKit
variable {P : Program}
/-- What a round keeps of an iterator that was entered at a heap of B blocks and came to its first round in F. -/
structure Kept (B : Nat) (F X Y : World) : Prop where
  from_ : KeepsFrom B X Y
  own : ∀ k, B ≤ k → k < F.heap.size → Y.heap[k]? = X.heap[k]?
section
variable {B C : Nat} {F X Y Z : World}
theorem Kept.refl (B : Nat) (F X : World) : Kept B F X X := ⟨⟨Nat.le_refl _, fun _ _ _ h _ => h⟩, fun _ _ _ => rfl⟩
theorem Kept.trans (h : Kept B F X Y) (k : Kept B F Y Z) : Kept B F X Z := ⟨h.1.trans k.1, fun i h1 h2 => (k.2 i h1 h2).trans (h.2 i h1 h2)⟩
theorem Kept.up (h : Kept B F X Y) (hB : B ≤ C) : Kept C F X Y := ⟨KeepsFrom.up h.1 hB, fun i h1 h2 => h.2 i (by omega) h2⟩
theorem Kept.put_ {l : Nat} (h : Kept B F X Y) (hl : l < B) (o : Obj) : Kept B F X (Y.putObj l o) := ⟨KeepsFrom.put_ h.1 hl o, fun i h1 h2 => (World.putObj_heap_other (by omega)).trans (h.2 i h1 h2)⟩
theorem Kept.new_ (h : Below X.heap.size X Y) (hs : F.heap.size ≤ X.heap.size) : Kept B F X Y :=
  ⟨⟨h.size, fun k o _ hk _ => (h.block k (Array.getElem?_eq_some_iff.1 hk).1).trans hk⟩, fun k _ hk => h.block k (by omega)⟩
theorem Kept.of_fr {M : Nat → Prop} (h : Fr M X Y) (hm : ∀ k, B ≤ k → M k → F.heap.size ≤ k ∧ (k < X.heap.size → cellsAt X k)) (hs : F.heap.size ≤ X.heap.size) : Kept B F X Y :=
  ⟨⟨h.size, fun k o hB hk hc => (h.block k (Array.getElem?_eq_some_iff.1 hk).1 (fun hM => by
    obtain ⟨c, t, f, hh⟩ := (hm k hB hM).2 (Array.getElem?_eq_some_iff.1 hk).1
    rw [hh] at hk
    cases hk
    cases hc)).trans hk⟩, fun k h1 h2 => h.block k (by omega) (fun hM => by have := (hm k h1 hM).1; omega)⟩
end
/-- THE ITERATOR's CONTRACT: as Iter; 'J F': what the caller says may name the world F of the first round; a round keeps what lies between the call and F. -/
def IterP {α : Type} (P : Program) (gf : Nat) (lb : Array Value) (encs : α → Array Value) (xs : List α) (W : World) (start Kp : World → World → Prop) : Prop :=
  ∀ (l : Nat) (J Jx : World → List α → World → Prop), (∀ F p X Y, J F p X → Priv W.heap.size X Y → J F p Y) → (∀ F p X Y, Jx F p X → Priv W.heap.size X Y → Jx F p Y) →
    (∀ F, start W F → J F [] F) →
    (∀ F pre x post W1, start W F → xs = pre ++ x :: post → J F pre W1 → YieldAt Fence.wide 0 P l (encs x) W1 fun e W' =>
      (e = .returned (.bool true) ∧ J F (pre ++ [x]) W' ∧ Kp W1 W' ∧ Kept W.heap.size F W1 W') ∨ (e = .returned (.bool false) ∧ Jx F (pre ++ [x]) W' ∧ Kept W.heap.size F W1 W')) →
    CallsIn Fence.wide 0 P gf (#[.func (.yield l) #[] #[]] ++ lb) W fun e W' => (∃ v, e = .returned v) ∧ ∃ F, start W F ∧ (J F xs W' ∨ ∃ pre post, xs = pre ++ post ∧ Jx F pre W')
theorem Iter.p {α : Type} {gf : Nat} {lb : Array Value} {encs : α → Array Value} {xs : List α} {W : World} {start Kp : World → World → Prop} (h : Iter P gf lb encs xs W start (fun X Y => Kp X Y ∧ KeepsFrom W.heap.size X Y)) : IterP P gf lb encs xs W start Kp := by
  intro l J Jx h1 h2 h3 h4
  refine (h l (fun p X => ∃ F, start W F ∧ J F p X) (fun p X => ∃ F, start W F ∧ Jx F p X) (fun p X Y ⟨F, a, b⟩ hp => ⟨F, a, h1 F p X Y b hp⟩) (fun p X Y ⟨F, a, b⟩ hp => ⟨F, a, h2 F p X Y b hp⟩) (fun F hF => ⟨F, hF, h3 F hF⟩) ?_).mono ?_
  · rintro pre x post W1 hx ⟨F, hF, hJ⟩
    obtain ⟨fn, tmps, assign, body, hy, hR⟩ := h4 F pre x post W1 hF hx hJ
    refine ⟨fn, tmps, assign, body, hy, hR.mono ?_⟩
    rintro e W' (⟨g1, g2, g3, g4⟩ | ⟨g1, g2, _⟩)
    · exact .inl ⟨g1, ⟨F, hF, g2⟩, g3, g4.1⟩
    · exact .inr ⟨g1, F, hF, g2⟩
  · rintro e W' ⟨hv, (⟨F, hF, hJ⟩ | ⟨pre, post, hx, F, hF, hJ⟩)⟩
    · exact ⟨hv, F, hF, .inl hJ⟩
    · exact ⟨hv, F, hF, .inr ⟨pre, post, hx, hJ⟩⟩

/-- How the body of a round may be left. -/
def rPostP {α : Type} (KpW : World → Prop) (B : Nat) (F : World) (I : World → List α → World → Prop) (Ix : World → Code → List α → World → Prop) (p : List α) (W : World) : Exit → Act → World → Prop
  | .normal, _, W' => Kept B F W W' ∧ KpW W' ∧ I F p W'
  | .ret, _, W' => Kept B F W W' ∧ Ix F .ret p W'
  | .exit id, _, W' => Kept B F W W' ∧ Ix F (.exit id) p W'
  | .goto t, _, W' => Kept B F W W' ∧ Ix F (.goto t) p W'
  | .panic _, _, _ => False
  | .outgrown, _, _ => False

/-- THE STATEMENT, at an outermost loop. -/
theorem wpIn_rangeP {α : Type} {g : Operand} {ps : Array Tmp} {assign body : Code} {Q : Exit → Act → World → Prop} {a : Act} {w : World} {gf : Nat} {lb : Array Value}
    (hg : a.eval g = .func (.func gf) #[] lb) (eg : ∀ args w, (callFunc gf args).run P w = .ok (.enter gf args) w)
    {encs : α → Array Value} {xs : List α} {start Kp : World → World → Prop} (hseq : ∀ W, Below w.heap.size w W → IterP P gf lb encs xs W start Kp)
    (hps : ∀ x, (encs x).size = ps.size) (hKt : ∀ A B C, Kp A B → Kp B C → Kp A C) (hKp : ∀ A B, Priv w.heap.size A B → Kp A B) (hst : ∀ W W1, start W W1 → KeepsFrom w.heap.size W W1)
    (I : World → List α → World → Prop) (Ix : World → Code → List α → World → Prop) (hI : ∀ F p X Y, I F p X → Priv w.heap.size X Y → I F p Y) (hIx : ∀ F c p X Y, Ix F c p X → Priv w.heap.size X Y → Ix F c p Y)
    (h0 : ∀ W F, Below w.heap.size w W → start W F → I F [] F)
    (hround : ∀ (F : World) (l : Nat) (pre : List α) (x : α) (post : List α) (W : World), xs = pre ++ x :: post → w.heap.size ≤ l → I F pre W →
      assign.wpIn (Fence.wide.inRound l) 0 P (Exit.then (fun a1 W1 => Kept w.heap.size F W W1 ∧ ∀ W2, Priv w.heap.size W1 W2 → W2.heap.size = W1.heap.size → (∃ r, W2.heap[l]? = some (.loop r)) →
        body.wpIn (Fence.wide.inRound l) 0 P (rPostP (Kp W) w.heap.size F I Ix (pre ++ [x]) W2) a1 W2) (fun _ _ _ => False))
        { tmps := (ps.zip (encs x)).foldl (fun t (p, v) => t.setIfInBounds p v) a.tmps, defers := [] } W)
    (hdone : ∀ (F : World) (D : Nat) (W : World), w.heap.size ≤ D → I F xs W → W.heap[D]? = some (.deferred (some [])) → Q .normal { a with defers := { target := .collected D, args := #[] } :: a.defers } W)
    (hstop : ∀ (F : World) (D : Nat) (c : Code) (pre post : List α) (W : World), w.heap.size ≤ D → xs = pre ++ post → Ix F c pre W → W.heap[D]? = some (.deferred (some [])) → c.wpIn Fence.wide 0 P Q { a with defers := { target := .collected D, args := #[] } :: a.defers } W) :
    (Code.rangeFunc g ps assign body).wpIn Fence.wide 0 P Q a w := by
  refine wpIn_rangeFunc ?_
  intro fn hfn
  obtain ⟨rec, hrec⟩ : ∃ rec : LoopState → Option Code → Loop, rec = fun st pe => { state := st, pending := pe, fn, tmps := a.tmps, params := ps, assign, body, defers := w.heap.size } := ⟨_, rfl⟩
  obtain ⟨W1, hW1⟩ : ∃ W1, (w.alloc (.deferred (some []))).alloc (.loop (rec .ready none)) = W1 := ⟨_, rfl⟩
  have hL1 : W1.heap[w.heap.size + 1]? = some (.loop (rec .ready none)) := by
    rw [← hW1]; have := World.alloc_heap_new (w.alloc (.deferred (some []))) (.loop (rec .ready none)); rwa [World.size_alloc] at this
  have hK1 : W1.heap[w.heap.size]? = some (.deferred (some [])) := by
    rw [← hW1]; exact (Below.heap_alloc _ _ _ (by simp)).trans (World.alloc_heap_new w _)
  have hb1 : Below w.heap.size w W1 := by
    rw [← hW1]; exact ((Below.refl _ w).alloc (Nat.le_refl _) _).alloc (by simp) _
  have hz1 : W1.heap.size = w.heap.size + 2 := by rw [← hW1]; simp
  refine ⟨w.heap.size + 1, [{ target := .collected w.heap.size, args := #[] }], W1, { target := .fn (.func gf) lb, args := #[.func (.yield (w.heap.size + 1)) #[] #[]] }, W1, gf,
    #[.func (.yield (w.heap.size + 1)) #[] #[]] ++ lb, W1, ?_, ?_, fun _ _ => trivial, ?_, fun h => by simp [Fence.wide] at h, ?_⟩
  · rw [← hW1, hrec]; exact run_enterLoop_outer _ _ _ _ _
  · simp only [resolve, hg]
    simp [go_sem]
  · simp [invoke, go_sem, eg]
  · have keep : ∀ {X Y : World} {k : Nat} {o : Obj}, Priv W1.heap.size X Y → X.heap[k]? = some o → k < W1.heap.size → Y.heap[k]? = some o := fun hp hk hlt =>
      (hp.block _ (Array.getElem?_eq_some_iff.1 hk).1 (.inl hlt)).trans hk
    refine (hseq W1 hb1 (w.heap.size + 1)
      (fun F pre W => (∃ W0, Below w.heap.size w W0 ∧ start W0 F) ∧ I F pre W ∧ W.heap[w.heap.size + 1]? = some (.loop (rec .ready none)) ∧ W.heap[w.heap.size]? = some (.deferred (some [])))
      (fun F pre W => ∃ c, Ix F c pre W ∧ W.heap[w.heap.size + 1]? = some (.loop (rec .done (some c))) ∧ W.heap[w.heap.size]? = some (.deferred (some [])))
      (fun F p X Y ⟨h0, h1, h2, h3⟩ hp => ⟨h0, hI F p X Y h1 (hp.mono (by omega)), keep hp h2 (by omega), keep hp h3 (by omega)⟩)
      (fun F p X Y ⟨c, h1, h2, h3⟩ hp => ⟨c, hIx F c p X Y h1 (hp.mono (by omega)), keep hp h2 (by omega), keep hp h3 (by omega)⟩)
      (fun W2 hs => ⟨⟨W1, hb1, hs⟩, h0 W1 W2 hb1 hs, (hst _ _ hs).same _ _ (by omega) hL1 rfl, (hst _ _ hs).same _ _ (by omega) hK1 rfl⟩) ?_).mono ?_
    · rintro F pre x post W hst0 hx ⟨hw0, hi, hl, hk⟩
      have hy := run_yield (P := P) (args := encs x) hl (by rw [hrec]; exact hps x)
      rw [hrec] at hy
      refine ⟨fn, _, assign, body, hy, roundIn_of_wpIn hfn ?_⟩
      refine wpIn_mono (hround F (w.heap.size + 1) pre x post W hx (by omega) hi) ?_
      rintro e a1 Wa hp
      cases e with
      | normal =>
        obtain ⟨hka, hbody⟩ := hp
        have hla := hka.1.same _ _ (by omega) hl rfl
        have hkd := hka.1.same _ _ (by omega) hk rfl
        have hlt : w.heap.size + 1 < Wa.heap.size := (Array.getElem?_eq_some_iff.1 hla).1
        have hbr := run_beginRound (P := P) hla (by rw [hrec])
        refine ⟨_, hbr, ?_⟩
        have hl2 : (Wa.putObj (w.heap.size + 1) (.loop { rec .ready none with state := .busy })).heap[w.heap.size + 1]? = some (.loop { rec .ready none with state := .busy }) := World.putObj_heap_same hlt
        have hk2 : (Wa.putObj (w.heap.size + 1) (.loop { rec .ready none with state := .busy })).heap[w.heap.size]? = some (.deferred (some [])) := (World.putObj_heap_other (by omega)).trans hkd
        refine wpIn_mono (hbody _ ((Priv.refl _ Wa).putObj (by omega) hla rfl _) (by simp) ⟨_, hl2⟩) ?_
        have fin : ∀ (jump : Option Code) (W3 : World), Kept w.heap.size F (Wa.putObj (w.heap.size + 1) (.loop { rec .ready none with state := .busy })) W3 →
            (Instr.endRound (w.heap.size + 1) jump).run P W3 = .ok (.bool jump.isNone) (W3.putObj (w.heap.size + 1) (.loop (rec (if jump.isNone then .ready else .done) jump))) ∧
            Priv w.heap.size W3 (W3.putObj (w.heap.size + 1) (.loop (rec (if jump.isNone then .ready else .done) jump))) ∧
            (W3.putObj (w.heap.size + 1) (.loop (rec (if jump.isNone then .ready else .done) jump))).heap[w.heap.size + 1]? = some (.loop (rec (if jump.isNone then .ready else .done) jump)) ∧
            (W3.putObj (w.heap.size + 1) (.loop (rec (if jump.isNone then .ready else .done) jump))).heap[w.heap.size]? = some (.deferred (some [])) := fun jump W3 hk3 => by
          have hl3 := hk3.1.same _ _ (by omega) hl2 rfl
          have := run_endRound (P := P) jump hl3
          rw [hrec] at this ⊢
          exact ⟨this, (Priv.refl _ _).putObj (by omega) hl3 rfl _, World.putObj_heap_same (Array.getElem?_eq_some_iff.1 hl3).1, (World.putObj_heap_other (by omega)).trans (hk3.1.same _ _ (Nat.le_refl _) hk2 rfl)⟩
        rintro e a3 W3 hp
        cases e with
        | normal =>
          obtain ⟨hk3, hkp3, hi3⟩ := hp
          obtain ⟨hr, hpv, hl4, hk4⟩ := fin none W3 hk3
          refine ⟨_, _, hr, .inl ⟨rfl, ⟨hw0, hI _ _ _ _ hi3 hpv, hl4, hk4⟩, hKt _ _ _ hkp3 (hKp _ _ hpv), ?_⟩⟩
          exact (((hka.up (by omega)).put_ (by omega) _).trans (hk3.up (by omega))).put_ (by omega) _
        | ret =>
          obtain ⟨hk3, hi3⟩ := hp
          obtain ⟨hr, hpv, hl4, hk4⟩ := fin (some .ret) W3 hk3
          exact ⟨_, _, hr, .inr ⟨rfl, ⟨.ret, hIx _ _ _ _ _ hi3 hpv, hl4, hk4⟩, (((hka.up (by omega)).put_ (by omega) _).trans (hk3.up (by omega))).put_ (by omega) _⟩⟩
        | exit id =>
          obtain ⟨hk3, hi3⟩ := hp
          obtain ⟨hr, hpv, hl4, hk4⟩ := fin (some (.exit id)) W3 hk3
          exact ⟨_, _, hr, .inr ⟨rfl, ⟨.exit id, hIx _ _ _ _ _ hi3 hpv, hl4, hk4⟩, (((hka.up (by omega)).put_ (by omega) _).trans (hk3.up (by omega))).put_ (by omega) _⟩⟩
        | goto t =>
          obtain ⟨hk3, hi3⟩ := hp
          obtain ⟨hr, hpv, hl4, hk4⟩ := fin (some (.goto t)) W3 hk3
          exact ⟨_, _, hr, .inr ⟨rfl, ⟨.goto t, hIx _ _ _ _ _ hi3 hpv, hl4, hk4⟩, (((hka.up (by omega)).put_ (by omega) _).trans (hk3.up (by omega))).put_ (by omega) _⟩⟩
        | panic ch => exact hp.elim
        | outgrown => exact hp.elim
      | exit id => exact hp.elim
      | goto l => exact hp.elim
      | ret => exact hp.elim
      | panic ch => exact hp.elim
      | outgrown => exact hp.elim
    · rintro e W2 ⟨⟨v, rfl⟩, F, _, (⟨_, hi, hl, hk⟩ | ⟨pre, post, hS, c, hi, hl, hk⟩)⟩
      · exact ⟨none, _, by have := run_endLoop (P := P) hl (by rw [hrec]; simp); rw [hrec] at this; exact this, hdone F _ _ (Nat.le_refl _) (hI _ _ _ _ hi ((Priv.refl _ _).putObj (by omega) hl rfl _)) ((World.putObj_heap_other (by omega)).trans hk)⟩
      · exact ⟨some c, _, by have := run_endLoop (P := P) hl (by rw [hrec]; simp); rw [hrec] at this; exact this, hstop F _ c pre post _ (Nat.le_refl _) hS (hIx _ c _ _ _ hi ((Priv.refl _ _).putObj (by omega) hl rfl _)) ((World.putObj_heap_other (by omega)).trans hk)⟩
end Go.Proofs.Ythogokcbbkjcdaa

namespace Go.Proofs.Ythogokcbbkjcdaa
open Go.RowKit Go.Shelf
structure SeqP {α : Type} (gf : Nat) (lb : Array Value) (encs : α → Array Value) (xs : List α) (w : World) (start Kp : World → World → Prop) : Prop where
  enter : ∀ args w, (callFunc gf args).run Try.prog w = .ok (.enter gf args) w
  iter : ∀ W, Below w.heap.size w W → IterP Try.prog gf lb encs xs W start Kp
  trans : ∀ A B C, Kp A B → Kp B C → Kp A C
  keep : ∀ A B, Priv w.heap.size A B → Kp A B
  below : ∀ A B, Below w.heap.size A B → Kp A B
  mods : ∀ W W1, start W W1 → Fr (· < w.heap.size) W W1
theorem SeqP.new_ {α : Type} {gf : Nat} {lb : Array Value} {encs : α → Array Value} {xs : List α} {w w' : World} {start Kp : World → World → Prop} (h : SeqP gf lb encs xs w start Kp) (hb : Below w.heap.size w w') : SeqP gf lb encs xs w' start Kp :=
  ⟨h.enter, fun W hW => h.iter W (hb.trans (hW.mono hb.size)), h.trans, fun A B hp => h.keep A B (hp.mono hb.size), fun A B hp => h.below A B (hp.mono hb.size), fun W W1 hs => (h.mods W W1 hs).mono (fun _ _ hk => Nat.lt_of_lt_of_le hk hb.size)⟩
theorem Seq.p {α : Type} {gf : Nat} {lb : Array Value} {encs : α → Array Value} {xs : List α} {w : World} {start Kp : World → World → Prop} (h : Seq gf lb encs xs w start Kp) : SeqP gf lb encs xs w start Kp :=
  ⟨h.enter, fun W hW => (h.iter W hW).p, h.trans, h.keep, h.below, h.mods⟩
end Go.Proofs.Ythogokcbbkjcdaa

namespace Go.Proofs.Ythogokcbbkjcdaa
open Go.RowKit Go.Shelf
attribute [local go_sem] Oper.semAt_some
/-- How an element is handed to a round. -/
def encSym (x : Sym) : Array Value := #[.agg #[.int .i64 x.kind, .string x.text, .int .i64 x.n]]

set_option maxRecDepth 100000 in
set_option maxHeartbeats 2000000 in
theorem from_Sym (lo b c k : Nat) (sn : Bool) (A : Option Addr) (l : List Sym) (W : World) (hS : SymSet W b sn A c l) (hk : k ≤ l.length) (J Jx : List Sym → World → Prop)
    (h0 : J [] (W.setCell ⟨b, 1, none⟩ (.bool true))) (hY : Rounds lo encSym (l.drop k) (RowKeep A) J Jx) :
    CallsIn Fence.wide 0 Try.prog 43 #[.pointer (some ⟨b, 0, none⟩), .int .i64 k, .func (.yield lo) #[] #[]] W (Told (l.drop k) J Jx) := by
  have s0 := hS.cell0
  have s1 := hS.cell1
  have f1 := hS.blk.frozen 1
  have hne := own_blk_ne hS.row hS.blk (by decide)
  have hrd : RowRd (W.setCell ⟨b, 1, none⟩ (.bool true)) 3 Sym.cells A c l := ownsRow_rd Sym.cells_length (ownsRow_setCell_other hS.row hne _)
  have hlm : (l.length : Int) ≤ 9223372036854775807 := by have := hrd.cap; omega
  have HRD := Lib.hid hrd
  have H0 := Lib.hid h0
  have HY := Lib.hid hY
  clear hS hrd h0 hY hne
  refine callsIn_of_wp Try.func43 rfl trivial ?_
  simp only [Try.ntmps43, List.size_toArray, List.length_cons, List.length_nil, Nat.reduceAdd, Nat.reduceSub, Array.replicate_succ, Array.replicate_zero, List.push_toArray, List.append_toArray, List.nil_append, List.cons_append]
  gi_wp2
  gi_loopw [7] (fun s wr => ∃ pre post, s = .int .i64 ((k + pre.length : Nat) : Int) ∧ l.drop k = pre ++ post ∧ J pre wr ∧ RowRd wr 3 Sym.cells A c l) (fun s wr => l.length - (intOf s).toNat)
  case atStart => exact ⟨[], l.drop k, by simp, by simp, H0.out, HRD.out⟩
  case round =>
    obtain ⟨pre, post, rfl, hx, hJ, hrd⟩ := hrel
    have hlen : k + pre.length + post.length = l.length := by have := congrArg List.length hx; simp at this; omega
    have HX := Lib.hid hx
    have HJ := Lib.hid hJ
    have HR := Lib.hid hrd
    clear hx hJ hrd
    cases post with
    | nil =>
      have e1 : ((k + pre.length : Nat) : Int) = (l.length : Int) := by simp at hlen; omega
      rw [e1]
      clear hlen e1
      gi_wp2
      go_end0
      exact ⟨⟨_, rfl⟩, .inl (by have := HX.out; rw [List.append_nil] at this; rw [this]; exact HJ.out)⟩
    | cons x post =>
      obtain ⟨m, hm⟩ : ∃ m, m = k + pre.length := ⟨_, rfl⟩
      have hml : m < l.length := by simp at hlen; omega
      have hget : l[m] = x := by
        apply Option.some.inj
        rw [← List.getElem?_eq_getElem, hm, ← List.getElem?_drop, HX.out]
        simp
      obtain ⟨g, off, rfl, hgs, hcell⟩ := HR.out.at_ hml
      rw [hget] at hcell
      have q0 : wr.cell? ⟨g, off + m * 3, none⟩ = some (.int .i64 x.kind) := by simpa using hcell 0 _ rfl
      have q1 : wr.cell? ⟨g, off + m * 3 + 1, none⟩ = some (.string x.text) := by simpa using hcell 1 _ rfl
      have q2 : wr.cell? ⟨g, off + m * 3 + 2, none⟩ = some (.int .i64 x.n) := by simpa using hcell 2 _ rfl
      have b1 : (0 : Int) ≤ (m : Int) := by omega
      have b2 : (m : Int) < (l.length : Int) := by omega
      rw [← hm]
      have HM := Lib.hid hm
      clear hcell hget hlen hm
      obtain ⟨fn, tmps, assign, body, hy, hR⟩ := HY.out pre x post wr HX.out HJ.out
      dsimp only [encSym] at hy
      have HRR := Lib.hid hR
      clear hR
      gi_wp2_with fail
      refine ⟨rfl, HRR.out.mono ?_⟩
      rintro e W3 (⟨rfl, hJ3, hk3⟩ | ⟨rfl, hJx3⟩)
      · have HJ3 := Lib.hid hJ3
        have HK3 := Lib.hid hk3
        clear hJ3 hk3 hy q0 q1 q2
        gi_wp2
        go_roundw
        case rel => exact ⟨pre ++ [x], post, by rw [HM.out, List.length_append, List.length_singleton]; go_num, by rw [HX.out]; simp, HJ3.out, HK3.out.rd HR.out⟩
        case measure => simp [intOf] <;> omega
      · have HJ3 := Lib.hid hJx3
        clear hJx3 hy q0 q1 q2
        gi_wp2
        refine bodyPost_ret (results_none rfl _ _ _) rfl ?_
        exact ⟨⟨_, rfl⟩, .inr ⟨pre ++ [x], post, by rw [HX.out]; simp, HJ3.out⟩⟩
set_option maxRecDepth 100000 in
set_option maxHeartbeats 2000000 in
theorem all_Sym (kb b c : Nat) (sn : Bool) (A : Option Addr) (l : List Sym) (W : World) (hbox : W.cell? ⟨kb, 0, none⟩ = some (.pointer (some ⟨b, 0, none⟩))) (hS : SymSet W b sn A c l) :
    Iter Try.prog 42 #[.pointer (some ⟨kb, 0, none⟩)] encSym l W (SeenStart b) (RowKeep A) := by
  intro lo J Jx _ _ h0 hY
  have H0 := Lib.hid (h0 (W.setCell ⟨b, 1, none⟩ (.bool true)) ⟨W, Below.refl _ _, rfl⟩)
  have HY := Lib.hid hY
  have HS := Lib.hid hS
  clear h0 hY hS
  refine callsIn_of_wp Try.func42 rfl trivial ?_
  simp only [Try.ntmps42, List.size_toArray, List.length_cons, List.length_nil, Nat.reduceAdd, Nat.reduceSub, Array.replicate_succ, Array.replicate_zero, List.push_toArray, List.append_toArray, List.nil_append, List.cons_append]
  gi_wp2_with fail
  have hz : ((0 : Nat) : Int) = 0 := rfl
  refine ⟨trivial, rfl, ?_⟩
  refine (from_Sym lo b c 0 sn A l W HS.out (Nat.zero_le _) J Jx H0.out (by rw [List.drop_zero]; exact HY.out)).mono ?_
  rintro e W3 ⟨⟨v, rfl⟩, h⟩
  rw [List.drop_zero] at h
  have H := Lib.hid h
  clear h
  gi_wp2
  go_end0
  exact ⟨⟨_, rfl⟩, H.out⟩
end Go.Proofs.Ythogokcbbkjcdaa

namespace Go.Proofs.Ythogokcbbkjcdaa
open Go.RowKit Go.Shelf
attribute [local go_sem] Oper.semAt_some

set_option maxHeartbeats 400000 in
/-- All makes a box for the pointer, and tells the function value. -/
theorem mkall_Sym (b : Nat) (w : World) :
    Calls Try.prog 32 #[.pointer (some ⟨b, 0, none⟩)] w fun e w' => e = .returned (.func (.func 42) #[] #[.pointer (some ⟨w.heap.size, 0, none⟩)]) ∧ Below w.heap.size w w' ∧ w'.cell? ⟨w.heap.size, 0, none⟩ = some (.pointer (some ⟨b, 0, none⟩)) := by
  go_enter Try.func32, Try.ntmps32
  go_wp2
  go_ret
  exact ⟨rfl, (Below.refl _ _).alloc (Nat.le_refl _) _, by go_simp⟩
theorem seq_all_Sym (kb b c : Nat) (sn : Bool) (A : Option Addr) (l : List Sym) (w : World) (hbox : w.cell? ⟨kb, 0, none⟩ = some (.pointer (some ⟨b, 0, none⟩))) (hS : SymSet w b sn A c l) :
    Seq 42 #[.pointer (some ⟨kb, 0, none⟩)] encSym l w (SeenStart b) (RowKeep A) :=
  ⟨by intro args w; kernel_rfl, fun W hW => (all_Sym kb b c sn A l W ((hW.cell (World.block_lt_of_cell? _ _ hbox)).trans hbox) (hS.new_ hW)).weak (fun _ _ h => h.1), fun _ _ _ => RowKeep.trans, fun _ _ => RowKeep.of_priv hS.row_lt, fun _ _ => RowKeep.of_below hS.row_lt, fun _ _ h => h.fr.mono (fun k _ hk => by subst hk; exact hS.lt)⟩
end Go.Proofs.Ythogokcbbkjcdaa

namespace Go.Proofs.Ythogokcbbkjcdaa
open Go.RowKit Go.Shelf
theorem SeenStart.from_ {b : Nat} {W W1 F : World} (h : SeenStart b W1 F) (hb : Below W.heap.size W W1) : SeenStart b W F := by
  obtain ⟨X, hX, rfl⟩ := h
  exact ⟨X, hb.trans (hX.mono hb.size), rfl⟩
theorem SeenStart.size {b : Nat} {W F : World} (h : SeenStart b W F) : W.heap.size ≤ F.heap.size := by
  obtain ⟨X, hX, rfl⟩ := h
  simpa using hX.size
end Go.Proofs.Ythogokcbbkjcdaa

namespace Go.Proofs.Ythogokcbbkjcdaa
open Go.RowKit
theorem eql_sym (x y : Sym) (W : World) : (binOp .eql 36 (.agg #[.int .i64 x.kind, .string x.text, .int .i64 x.n]) (.agg #[.int .i64 y.kind, .string y.text, .int .i64 y.n])).run Try.prog W = .ok (.bool (decide (x = y))) W := by
  rw [run_eql_struct]
  go_simp
  by_cases h : x = y
  · subst h; simp
  · have h2 : ¬ (x.kind = y.kind ∧ x.text.toList = y.text.toList ∧ x.n = y.n) := fun ⟨h1, h2, h3⟩ => h (Sym.ext' h1 (toList_inj h2) h3)
    rw [decide_eq_false h]
    split
    · split
      · split
        · exact absurd ⟨by assumption, by assumption, by assumption⟩ h2
        · rfl
      · rfl
    · rfl
theorem neq_sym (x y : Sym) (W : World) : (binOp .neq 36 (.agg #[.int .i64 x.kind, .string x.text, .int .i64 x.n]) (.agg #[.int .i64 y.kind, .string y.text, .int .i64 y.n])).run Try.prog W = .ok (.bool (!decide (x = y))) W := by
  rw [run_neq_struct]
  go_simp
  by_cases h : x = y
  · subst h; simp
  · have h2 : ¬ (x.kind = y.kind ∧ x.text.toList = y.text.toList ∧ x.n = y.n) := fun ⟨h1, h2, h3⟩ => h (Sym.ext' h1 (toList_inj h2) h3)
    rw [decide_eq_false h]
    split
    · split
      · split
        · exact absurd ⟨by assumption, by assumption, by assumption⟩ h2
        · rfl
      · rfl
    · rfl
attribute [local go_sem] eql_sym neq_sym
/-- Any number as one from 0 to n - 1. -/
def within (v n : Int) : Int := if n < 1 then 0 else v % n
/-- One symbol of a row, cell by cell. -/
theorem sym_at {w : World} {A : Option Addr} {c k : Nat} {l : List Sym} (h : RowRd w 3 Sym.cells A c l) (hk : k < l.length) : ∃ g off, A = some ⟨g, off, none⟩ ∧ g < w.heap.size ∧
    w.cell? ⟨g, off + k * 3, none⟩ = some (.int .i64 l[k].kind) ∧ w.cell? ⟨g, off + k * 3 + 1, none⟩ = some (.string l[k].text) ∧ w.cell? ⟨g, off + k * 3 + 2, none⟩ = some (.int .i64 l[k].n) := by
  obtain ⟨g, off, hA, hg, hc⟩ := h.at_ hk
  exact ⟨g, off, hA, hg, by simpa using hc 0 _ rfl, by simpa using hc 1 _ rfl, by simpa using hc 2 _ rfl⟩
theorem within_nat (v : Int) {n : Nat} (h : 0 < n) : ∃ j : Nat, within v n = j ∧ j < n := by
  have h1 : ¬ (n : Int) < 1 := by omega
  have h2 := Int.emod_nonneg v (show (n : Int) ≠ 0 by omega)
  have h3 := Int.emod_lt_of_pos v (show (0 : Int) < n by omega)
  refine ⟨(v % (n : Int)).toNat, ?_, by omega⟩
  simp only [within, if_neg h1]
  omega

set_option maxHeartbeats 1000000 in
theorem within_is (v n : Int) (w : World) (hn : n ≤ 9223372036854775807) :
    Calls Try.prog 4 #[.int .i64 v, .int .i64 n] w fun e w' => e = .returned (.int .i64 (within v n)) ∧ w = w' := by
  by_cases h : n < 1
  · have hw : within v n = 0 := by simp [within, h]
    rw [hw]
    go_enter Try.func4, Try.ntmps4
    go_wp2_with fail
    go_ret
    exact ⟨rfl, rfl⟩
  · have hw : within v n = v % n := by simp [within, h]
    rw [hw]
    have e0 : n ≠ 0 := by omega
    have h1 : v.tmod n < n := Int.tmod_lt_of_pos v (by omega)
    have h2 : -n < v.tmod n := by
      have := Int.lt_tmod_of_pos v (show 0 < n by omega)
      omega
    have e1 : IntKind.i64.wrap (v.tmod n) = v.tmod n := IntWalk.i64_in _ (by omega)
    have e2 : v.tmod n < 0 → v % n = v.tmod n + n := fun h3 => by
      have h4 := Int.emod_emod_of_dvd v (Int.dvd_refl n)
      have h5 : (v.tmod n) % n = v % n := by
        have := Int.mul_tdiv_add_tmod v n
        have h6 : v % n = (v.tmod n + n * v.tdiv n) % n := by congr 1; omega
        rw [h6, Int.add_mul_emod_self_left]
      have h7 : (v.tmod n + n) % n = v.tmod n % n := by simp
      rw [← h5, ← h7, Int.emod_eq_of_lt (by omega) (by omega)]
    have e3 : ¬ v.tmod n < 0 → v % n = v.tmod n := fun h3 => by
      have h5 : (v.tmod n) % n = v % n := by
        have := Int.mul_tdiv_add_tmod v n
        have h6 : v % n = (v.tmod n + n * v.tdiv n) % n := by congr 1; omega
        rw [h6, Int.add_mul_emod_self_left]
      rw [← h5, Int.emod_eq_of_lt (by omega) (by omega)]
    have E2 := Lib.hid e2
    have E3 := Lib.hid e3
    clear e2 e3
    go_enter Try.func4, Try.ntmps4
    by_cases h3 : v.tmod n < 0
    · have E := Lib.hid (E2.out h3)
      have e4 : IntKind.i64.wrap (v.tmod n + n) = v.tmod n + n := IntWalk.i64_in _ (by omega)
      clear E2 E3
      go_wp2_with fail
      go_ret
      exact ⟨by rw [E.out]; rfl, rfl⟩
    · have E := Lib.hid (E3.out h3)
      clear E2 E3
      go_wp2_with fail
      go_ret
      exact ⟨by rw [E.out]; rfl, rfl⟩
end Go.Proofs.Ythogokcbbkjcdaa

namespace Go.Proofs.Ythogokcbbkjcdaa
open Go.RowKit
def maxL (l : List Sym) (c : UInt8) : Int := l.foldl (fun n s => if s.kind = 1 ∧ s.text = letB c then max n s.n else n) 0
def nextL (l : List Sym) (c : UInt8) : Int := if greatB c = true then maxL l c + 1 else 0
theorem maxL_snoc (l : List Sym) (s : Sym) (c : UInt8) : maxL (l ++ [s]) c = if s.kind = 1 ∧ s.text = letB c then max (maxL l c) s.n else maxL l c := by simp [maxL]
theorem maxL_bd (c : UInt8) : ∀ (l : List Sym) (a : Int), 0 ≤ a → a ≤ 1048576 → (∀ s ∈ l, s.kind = 1 → s.n ≤ 1048576) → 0 ≤ l.foldl (fun n s => if s.kind = 1 ∧ s.text = letB c then max n s.n else n) a ∧ l.foldl (fun n s => if s.kind = 1 ∧ s.text = letB c then max n s.n else n) a ≤ 1048576
  | [], a, h0, h1, _ => ⟨h0, h1⟩
  | s :: l, a, h0, h1, h => by
    rw [List.foldl_cons]
    have hs := h s (by simp)
    refine maxL_bd c l _ ?_ ?_ (fun x hx => h x (by simp [hx]))
    · split
      · rename_i hc
        have := hs hc.1; omega
      · omega
    · split
      · rename_i hc
        have := hs hc.1; omega
      · omega
theorem rtput_bad_at {L : List Sym} {i : Nat} (hi : i < L.length) (h : validB L[i] = false) : L.all validB = false := by
  rw [List.all_eq_false]
  exact ⟨L[i], List.getElem_mem hi, by rw [h]; simp⟩
end Go.Proofs.Ythogokcbbkjcdaa

namespace Go.Proofs.Ythogokcbbkjcdaa
open Go.RowKit
theorem srt_ext {α : Type} {cmp : α → α → Int} (t : TC cmp) (h0 : ∀ x, ¬ cmp x x < 0) : ∀ {l m : List α}, Srt cmp l → Srt cmp m → (∀ x, x ∈ l ↔ x ∈ m) → l = m
  | [], [], _, _, _ => rfl
  | [], b :: m, _, _, h => absurd ((h b).2 (by simp)) (by simp)
  | a :: l, [], _, _, h => absurd ((h a).1 (by simp)) (by simp)
  | a :: l, b :: m, hl, hm, h => by
    unfold Srt at hl hm
    rw [List.pairwise_cons] at hl hm
    have e : a = b := by
      rcases List.mem_cons.1 ((h a).1 (by simp)) with e | e
      · exact e
      · rcases List.mem_cons.1 ((h b).2 (by simp)) with e2 | e2
        · exact e2.symm
        · have h1 := hm.1 a e
          have h2 := hl.1 b e2
          have h3 := (t.symm _ _).1 h1
          omega
    subst e
    rw [srt_ext t h0 hl.2 hm.2 (fun x => ?_)]
    constructor
    · intro hx
      rcases List.mem_cons.1 ((h x).1 (by simp [hx])) with e | e
      · subst e; exact absurd (hl.1 x hx) (h0 x)
      · exact e
    · intro hx
      rcases List.mem_cons.1 ((h x).2 (by simp [hx])) with e | e
      · subst e; exact absurd (hm.1 x hx) (h0 x)
      · exact e
theorem sym_ext {l m : List Sym} (hl : Srt cmpSym l) (hm : Srt cmpSym m) (h : ∀ x, x ∈ l ↔ x ∈ m) : l = m :=
  srt_ext tc_sym (fun x => by have := (cmpSym_eq (a := x) (b := x)).2 rfl; omega) hl hm h
theorem mem_put_iff {l : List Sym} {x y : Sym} : y ∈ put cmpSym l x ↔ y ∈ l ∨ y = x := by
  unfold put
  split
  · rename_i h
    obtain ⟨z, hz, e⟩ := has_iff.1 h
    have := cmpSym_eq.1 e
    subst this
    constructor
    · exact .inl
    · rintro (h | rfl)
      · exact h
      · exact hz
  · rename_i h
    have hn := has_false.1 (by simpa using h)
    simp only [List.mem_append, List.mem_cons, mem_below, mem_above]
    constructor
    · rintro (h | h | h)
      · exact .inl h.1
      · exact .inr h
      · exact .inl h.1
    · rintro (h | h)
      · have := hn y h
        rcases Int.lt_trichotomy (cmpSym y x) 0 with h1 | h1 | h1
        · exact .inl ⟨h, h1⟩
        · exact absurd h1 this
        · exact .inr (.inr ⟨h, h1⟩)
      · exact .inr (.inl h)
theorem mem_puts_iff : ∀ (xs : List Sym) {l : List Sym} {y : Sym}, y ∈ puts cmpSym l xs ↔ y ∈ l ∨ y ∈ xs
  | [], _, _ => by simp [puts]
  | x :: xs, l, y => by
    rw [show puts cmpSym l (x :: xs) = puts cmpSym (put cmpSym l x) xs from rfl, mem_puts_iff xs, mem_put_iff]
    simp [or_assoc]
theorem has_mem {l : List Sym} {x : Sym} : has cmpSym l x = true ↔ x ∈ l := by
  rw [has_iff]
  constructor
  · rintro ⟨z, hz, e⟩
    rw [← cmpSym_eq.1 e]; exact hz
  · exact fun h => ⟨x, h, cmpSym_eq.2 rfl⟩
theorem same_refl (l : List Sym) : l.length = l.length ∧ ∀ k, (h : k < l.length) → (h' : k < l.length) → cmpSym l[k] l[k] = 0 := ⟨rfl, fun _ _ _ => cmpSym_eq.2 rfl⟩
theorem same_of {l m : List Sym} (e : l = m) : l.length = m.length ∧ ∀ k, (h : k < l.length) → (h' : k < m.length) → cmpSym l[k] m[k] = 0 := by subst e; exact same_refl l
theorem made_open {D : Nat → Prop} {w : World} {S : Nat → Option (List Sym)} {σ : Nat → St} {l : List Sym} {e : Ending} {w' : World} (h : MadeSym D w S σ l e w') :
    ∃ k, e = .returned (.pointer (some ⟨k, 0, none⟩)) ∧ ∃ S' σ', SymSets D w' S' σ' ∧ S' k = some l ∧ (∀ b l, S b = some l → S' b = some l) ∧ (∀ b l, S b = some l → b ≠ k) ∧ Fr (fun k => ¬ D k) w w' := by
  obtain ⟨k, he, _, hn, σ', hs, hF⟩ := h
  exact ⟨k, he, _, σ', hs, upd_same _ _ _, fun b l hb => by rw [upd_ne _ _ (hn b l hb)]; exact hb, hn, hF⟩
end Go.Proofs.Ythogokcbbkjcdaa

namespace Go.Proofs.Ythogokcbbkjcdaa
theorem maxFold_le (c : UInt8) (k : Int) : ∀ (l : List Sym) (a : Int), l.foldl (fun n s => if s.kind = 1 ∧ s.text = letB c then max n s.n else n) a ≤ k ↔ a ≤ k ∧ ∀ s ∈ l, s.kind = 1 ∧ s.text = letB c → s.n ≤ k
  | [], a => by simp
  | s :: l, a => by
    rw [List.foldl_cons, maxFold_le c k l]
    by_cases h : s.kind = 1 ∧ s.text = letB c
    · rw [if_pos h]
      constructor
      · rintro ⟨h1, h2⟩
        refine ⟨by omega, fun x hx hc => ?_⟩
        rcases List.mem_cons.1 hx with rfl | hx
        · omega
        · exact h2 x hx hc
      · rintro ⟨h1, h2⟩
        exact ⟨by have := h2 s (by simp) h; omega, fun x hx hc => h2 x (by simp [hx]) hc⟩
    · rw [if_neg h]
      constructor
      · rintro ⟨h1, h2⟩
        refine ⟨h1, fun x hx hc => ?_⟩
        rcases List.mem_cons.1 hx with rfl | hx
        · exact absurd hc h
        · exact h2 x hx hc
      · rintro ⟨h1, h2⟩
        exact ⟨h1, fun x hx hc => h2 x (by simp [hx]) hc⟩
theorem maxL_le {l : List Sym} {c : UInt8} {k : Int} : maxL l c ≤ k ↔ 0 ≤ k ∧ ∀ s ∈ l, s.kind = 1 ∧ s.text = letB c → s.n ≤ k := maxFold_le c k l 0
theorem maxL_congr {l l' : List Sym} (c : UInt8) (h : ∀ x, x ∈ l ↔ x ∈ l') : maxL l c = maxL l' c := by
  have h1 : maxL l c ≤ maxL l' c := maxL_le.2 (by have := maxL_le.1 (Int.le_refl (maxL l' c)); exact ⟨this.1, fun s hs => this.2 s ((h s).1 hs)⟩)
  have h2 : maxL l' c ≤ maxL l c := maxL_le.2 (by have := maxL_le.1 (Int.le_refl (maxL l c)); exact ⟨this.1, fun s hs => this.2 s ((h s).2 hs)⟩)
  omega
theorem maxL_put (l : List Sym) (s : Sym) (c : UInt8) : maxL (put cmpSym l s) c = if s.kind = 1 ∧ s.text = letB c then max (maxL l c) s.n else maxL l c := by
  rw [← maxL_snoc]
  exact maxL_congr c (fun x => by rw [mem_put_iff]; simp)
theorem maxL_nonneg (l : List Sym) (c : UInt8) : 0 ≤ maxL l c := (maxL_le.1 (Int.le_refl _)).1
theorem mem_mput {m : List Page} {p y : Page} : y ∈ mput m p ↔ (y ∈ m ∧ y.key ≠ p.key) ∨ y = p := by
  have hn : has cmpPage (drop cmpPage m p) p = false := by
    rw [has_false]
    intro y hy
    exact (mem_drop.1 hy).2
  unfold mput put
  rw [if_neg (by rw [hn]; simp)]
  simp only [List.mem_append, List.mem_cons, mem_below, mem_above, mem_drop]
  have e : ∀ y : Page, cmpPage y p ≠ 0 ↔ y.key ≠ p.key := fun y => by rw [ne_eq, cmpPage_eq]
  constructor
  · rintro (⟨⟨h1, h2⟩, _⟩ | h | ⟨⟨h1, h2⟩, _⟩)
    · exact .inl ⟨h1, (e y).1 h2⟩
    · exact .inr h
    · exact .inl ⟨h1, (e y).1 h2⟩
  · rintro (⟨h1, h2⟩ | h)
    · have h3 := (e y).2 h2
      by_cases hlt : cmpPage y p < 0
      · exact .inl ⟨⟨h1, h3⟩, hlt⟩
      · exact .inr (.inr ⟨⟨h1, h3⟩, by omega⟩)
    · exact .inr (.inl h)
theorem srt_mput {m : List Page} (hs : Srt cmpPage m) (p : Page) : Srt cmpPage (mput m p) := (hs.drop p).put tc_page p
theorem mget_of_not {m : List Page} {c : UInt8} (h : ∀ y ∈ m, y.key ≠ c) : mget m c = none := by
  refine mget_none ?_
  rw [has_false]
  intro y hy e
  exact h y hy (cmpPage_eq.1 e)
theorem mget_iff {m : List Page} (hs : Srt cmpPage m) {c : UInt8} {v : Int} : mget m c = some v ↔ ⟨c, v⟩ ∈ m := by
  constructor
  · intro h
    unfold mget at h
    cases hf : m.find? fun p => p.key == c with
    | none => rw [hf] at h; simp at h
    | some y =>
      rw [hf] at h
      simp only [Option.map_some, Option.some.injEq] at h
      have h1 := List.mem_of_find?_eq_some hf
      have h2 := List.find?_some hf
      simp only [beq_iff_eq] at h2
      have : (⟨c, v⟩ : Page) = y := by cases y; simp_all
      rw [this]; exact h1
  · intro h; exact mget_some hs h rfl
theorem mget_mput {m : List Page} (hs : Srt cmpPage m) (p : Page) (c : UInt8) : mget (mput m p) c = if p.key = c then some p.v else mget m c := by
  by_cases h : p.key = c
  · rw [if_pos h]
    exact mget_some (srt_mput hs p) (mem_mput.2 (.inr rfl)) h
  · rw [if_neg h]
    cases hm : mget m c with
    | some v => exact (mget_iff (srt_mput hs p)).2 (mem_mput.2 (.inl ⟨(mget_iff hs).1 hm, fun e => h e.symm⟩))
    | none =>
      refine mget_of_not (fun y hy e => ?_)
      rcases mem_mput.1 hy with ⟨h1, _⟩ | rfl
      · have : mget m c = some y.v := mget_some hs h1 e
        rw [hm] at this; cases this
      · exact h e
theorem page_len {m : List Page} (hs : Srt cmpPage m) : (m.length : Int) ≤ 256 := by
  have h : ∀ i, (hi : i < m.length) → (i : Int) ≤ m[i].kk := by
    intro i
    induction i with
    | zero => intro hi; exact (Page.kk_bd _).1
    | succ i ih =>
      intro hi
      have h1 := ih (by omega)
      have h2 : cmpPage (m[i]'(by omega)) m[i + 1] < 0 := hs.lt (Nat.lt_succ_self i) hi
      unfold cmpPage at h2
      omega
  rcases Nat.eq_zero_or_pos m.length with h0 | h0
  · omega
  · have h1 := h (m.length - 1) (by omega)
    have h2 := (Page.kk_bd (m[m.length - 1]'(by omega))).2
    omega
/-- The map of next numbers fits the list. -/
def TI (l : List Sym) (m : List Page) : Prop := Srt cmpPage m ∧ ∀ c, greatB c = true → nextB m c = maxL l c + 1
theorem TI.nil : TI [] [] := ⟨Srt.nil, fun c hc => by unfold nextB mget maxL; rw [if_pos hc]; rfl⟩
theorem TI.next {l : List Sym} {m : List Page} (h : TI l m) (c : UInt8) : nextB m c = nextL l c := by
  unfold nextL
  cases hg : greatB c
  · unfold nextB; simp [hg]
  · rw [if_pos rfl]; exact h.2 c hg
theorem letB_inj {c d : UInt8} (h : letB c = letB d) : c = d := by
  have : idc (letB c) = idc (letB d) := by rw [h]
  exact this
theorem letB_of {t : ByteArray} (h : t.size = 1) : t = letB (idc t) := by
  rw [idc_eq (by omega)]
  obtain ⟨a⟩ := t
  have hs : a.size = 1 := h
  unfold letB
  congr 1
  apply Array.ext
  · simpa using hs
  · intro i h1 h2
    have hi : i = 0 := by omega
    subst hi
    rfl
theorem hasNot {l : List Sym} {x : Sym} : has cmpSym l x = false ↔ x ∉ l := by
  rw [← has_mem]; simp
theorem TI.put {l : List Sym} {m : List Page} (h : TI l m) {s : Sym} (hv : validB s = true) : TI (put cmpSym l s) (tputM m s) := by
  by_cases hk : s.kind = 1
  · obtain ⟨k, t, n⟩ := s
    dsimp only at hk
    subst hk
    obtain ⟨h1, h2, h3, h4⟩ := validB_id hv
    have ht := letB_of h1
    have hg : greatB (idc t) = true := by
      rw [idc_eq (by omega)]
      have := h2
      rwa [headB_eq (by omega)] at this
    have hnx := h.2 (idc t) hg
    unfold tputM
    dsimp only
    by_cases hc : nextB m (idc t) ≤ n
    · rw [if_pos ⟨rfl, hc⟩]
      refine ⟨srt_mput h.1 _, fun c hcg => ?_⟩
      have hc2 := h.2 c hcg
      rw [maxL_put]
      unfold nextB at hc2 ⊢
      rw [if_pos hcg] at hc2 ⊢
      rw [mget_mput h.1]
      dsimp only
      by_cases e : idc t = c
      · subst e
        rw [if_pos rfl, if_pos ⟨rfl, ht⟩]
        simp only [Option.getD_some]
        omega
      · rw [if_neg e, if_neg (fun hh => e (letB_inj (ht.symm.trans hh.2)))]
        exact hc2
    · rw [if_neg (fun hh => hc hh.2)]
      refine ⟨h.1, fun c hcg => ?_⟩
      rw [maxL_put, h.2 c hcg]
      by_cases e : idc t = c
      · subst e
        rw [if_pos ⟨rfl, ht⟩]
        dsimp only
        omega
      · rw [if_neg (fun hh => e (letB_inj (ht.symm.trans hh.2)))]
  · unfold tputM
    rw [if_neg (fun hh => hk hh.1)]
    refine ⟨h.1, fun c hcg => ?_⟩
    rw [maxL_put, if_neg (fun hh => hk hh.1)]
    exact h.2 c hcg
theorem TI.puts {m : List Page} : ∀ (xs : List Sym) {l : List Sym} {m : List Page}, TI l m → (∀ s ∈ xs, validB s = true) → TI (puts cmpSym l xs) (xs.foldl tputM m)
  | [], _, _, h, _ => h
  | x :: xs, _, _, h, hv => TI.puts (m := m) xs (h.put (hv x (by simp))) (fun s hs => hv s (by simp [hs]))
/-- Those of a list that are new. -/
def frsh (l L : List Sym) : List Sym := puts cmpSym [] (L.filter fun s => !has cmpSym l s)
theorem frsh_nil (l : List Sym) : frsh l [] = [] := rfl
theorem mem_frsh {l L : List Sym} {x : Sym} : x ∈ frsh l L ↔ x ∈ L ∧ x ∉ l := by
  unfold frsh
  rw [mem_puts_iff]
  simp [hasNot]
theorem frsh_srt (l L : List Sym) : Srt cmpSym (frsh l L) := Srt.puts tc_sym _ Srt.nil
theorem frsh_snoc (l L : List Sym) (x : Sym) : frsh l (L ++ [x]) = if has cmpSym l x = true then frsh l L else put cmpSym (frsh l L) x := by
  unfold frsh
  rw [List.filter_append]
  by_cases h : has cmpSym l x = true
  · rw [if_pos h]; simp [h]
  · rw [if_neg h]
    have : has cmpSym l x = false := by simpa using h
    simp only [List.filter_cons, this, Bool.not_false, if_true, List.filter_nil]
    exact puts_snoc _ _ _
theorem puts_frsh {l : List Sym} (hs : Srt cmpSym l) (L : List Sym) : puts cmpSym l (frsh l L) = puts cmpSym l L := by
  refine sym_ext (Srt.puts tc_sym _ hs) (Srt.puts tc_sym _ hs) (fun x => ?_)
  rw [mem_puts_iff, mem_puts_iff, mem_frsh]
  by_cases h : x ∈ l <;> simp [h]
theorem length_frsh {l : List Sym} (hs : Srt cmpSym l) (L : List Sym) : (puts cmpSym l L).length = l.length + (frsh l L).length := by
  suffices h : ∀ R : List Sym, (puts cmpSym l R.reverse).length = l.length + (frsh l R.reverse).length by simpa using h L.reverse
  intro R
  induction R with
  | nil => simp [puts, frsh]
  | cons x R ih =>
    rw [List.reverse_cons, puts_snoc, frsh_snoc]
    have hs2 := Srt.puts tc_sym R.reverse hs
    cases h1 : has cmpSym (puts cmpSym l R.reverse) x
    · rw [length_put tc_sym hs2 h1]
      have h2 : x ∉ puts cmpSym l R.reverse := hasNot.1 h1
      rw [mem_puts_iff] at h2
      have h3 : has cmpSym l x = false := hasNot.2 (fun h => h2 (.inl h))
      rw [if_neg (by rw [h3]; simp), length_put tc_sym (frsh_srt _ _) (hasNot.2 (fun h => h2 (.inr (mem_frsh.1 h).1)))]
      omega
    · rw [put_has h1]
      have h2 : x ∈ puts cmpSym l R.reverse := has_mem.1 h1
      rw [mem_puts_iff] at h2
      by_cases h3 : x ∈ l
      · rw [if_pos (has_mem.2 h3)]; exact ih
      · rw [if_neg (by rw [has_mem]; exact h3), put_has (has_mem.2 (mem_frsh.2 ⟨h2.resolve_left h3, h3⟩))]; exact ih
theorem length_put_ge (l : List Sym) (hs : Srt cmpSym l) (x : Sym) : l.length ≤ (put cmpSym l x).length := by
  cases h : has cmpSym l x
  · rw [length_put tc_sym hs h]; omega
  · rw [put_has h]; exact Nat.le_refl _
theorem length_puts_ge : ∀ (xs : List Sym) (l : List Sym), Srt cmpSym l → l.length ≤ (puts cmpSym l xs).length
  | [], _, _ => Nat.le_refl _
  | x :: xs, l, hs => Nat.le_trans (length_put_ge l hs x) (length_puts_ge xs _ (hs.put tc_sym x))
theorem length_frsh_take (l L : List Sym) (i : Nat) : (frsh l (L.take i)).length ≤ (frsh l L).length := by
  have e : frsh l L = puts cmpSym (frsh l (L.take i)) ((L.drop i).filter fun s => !has cmpSym l s) := by
    unfold frsh puts
    rw [← List.foldl_append, ← List.filter_append, List.take_append_drop]
  rw [e]
  exact length_puts_ge _ _ (frsh_srt _ _)
end Go.Proofs.Ythogokcbbkjcdaa

namespace Go.Proofs.Ythogokcbbkjcdaa
open Go.RowKit Go.Shelf
attribute [local go_sem] Oper.semAt_some
section
variable {D : Nat → Prop} {w : World} {S : Nat → Option (List Sym)} {σ : Nat → St} {S2 : Nat → Option (List Page)} {σ2 : Nat → St}
/-- What a table's Put leaves. -/
def TPut (D : Nat → Prop) (w : World) (S : Nat → Option (List Sym)) (σ : Nat → St) (S2 : Nat → Option (List Page)) (σ2 : Nat → St) (T : TB) (l : List Sym) (m : List Page) (L : List Sym) (e : Ending) (w' : World) : Prop :=
  if L.all validB = true then
    if T.room < ((puts cmpSym l L).length : Int) then e = .returned (.int .i64 20) ∧ Below w.heap.size w w'
    else e = .returned (.int .i64 0) ∧ TabPut D w S σ S2 σ2 T (puts cmpSym l L) ((frsh l L).foldl tputM m) w'
  else e = .returned (.int .i64 9) ∧ Below w.heap.size w w'
theorem Sets.priv2 {α : Type} {tSet tE size : Nat} {cells : α → List Value} {cmp : α → α → Int} {w' : World} {S : Nat → Option (List α)} {B : Nat} (h : Sets tSet tE size cells cmp D w S σ) (hp : Priv B w w') : Sets tSet tE size cells cmp D w' S σ :=
  ⟨fun b l hb => (h.at_ b l hb).priv hp, h.srt, h.out, h.apart, fun k hk => Nat.lt_of_lt_of_le (h.low k hk) hp.size⟩
theorem Tabs.priv {w' : World} {B : Nat} (h : Tabs D w S σ S2 σ2) (hp : Priv B w w') : Tabs D w' S σ S2 σ2 := ⟨h.syms.priv2 hp, h.pages.priv2 hp⟩
theorem TabBlk.priv {w' : World} {B : Nat} {T : TB} (h : TabBlk w T) (hp : Priv B w w') : TabBlk w' T := ⟨h.1.priv hp, h.2.priv hp⟩
theorem KB.priv {w' w'' : World} {B : Nat} (h : KB w w') (hp : Priv B w' w'') : KB w w'' := fun g t cs h1 h2 h3 h4 hb => (h g t cs h1 h2 h3 h4 hb).priv hp
/-- Blocks that hold no cells are protected as well. -/
def NoCells (w : World) (k : Nat) : Prop := k < w.heap.size ∧ ¬ cellsAt w k
theorem Sets.quiet {α : Type} {tSet tE size : Nat} {cells : α → List Value} {cmp : α → α → Int} {S : Nat → Option (List α)} (h : Sets tSet tE size cells cmp D w S σ) : Sets tSet tE size cells cmp (fun k => D k ∨ NoCells w k) w S σ :=
  ⟨h.at_, h.srt, fun b l hb => ⟨fun hk => hk.elim (h.out b l hb).1 (fun hk => hk.2 (h.at_ b l hb).blk.at_), fun hs a ha hk => hk.elim ((h.out b l hb).2 hs a ha) (fun hk => hk.2 (owns_cells (h.at_ b l hb).row a.block (by rw [ha]; rfl)))⟩, h.apart, fun k hk => hk.elim (h.low k) (·.1)⟩
theorem Tabs.quiet (h : Tabs D w S σ S2 σ2) : Tabs (fun k => D k ∨ NoCells w k) w S σ S2 σ2 := ⟨h.syms.quiet, h.pages.quiet⟩
theorem keeps_quiet {w' : World} (h : Fr (fun k => ¬ (D k ∨ NoCells w k)) w w') (B : Nat) : KeepsFrom B w w' :=
  KeepsFrom.of_fr h (fun _ hk hl => Classical.byContradiction fun hc => hk (.inr ⟨hl, hc⟩)) B
theorem keepsFrom_same (B : Nat) (w : World) : KeepsFrom B w w := KeepsFrom.of_fr (Fr.refl (fun _ => False) w) (fun _ h => h.elim) B
theorem length_tputM (m : List Page) (s : Sym) : (tputM m s).length ≤ m.length + 1 := by
  unfold tputM
  split
  · unfold mput
    have h1 := length_drop_le (cmp := cmpPage) m ⟨idc s.text, s.n + 1⟩
    have h2 : has cmpPage (drop cmpPage m ⟨idc s.text, s.n + 1⟩) ⟨idc s.text, s.n + 1⟩ = false := by
      rw [has_false]; intro y hy; exact (mem_drop.1 hy).2
    unfold put
    rw [if_neg (by rw [h2]; simp)]
    have h3 : (below cmpPage (drop cmpPage m ⟨idc s.text, s.n + 1⟩) ⟨idc s.text, s.n + 1⟩).length + (above cmpPage (drop cmpPage m ⟨idc s.text, s.n + 1⟩) ⟨idc s.text, s.n + 1⟩).length ≤ (drop cmpPage m ⟨idc s.text, s.n + 1⟩).length := by
      generalize drop cmpPage m ⟨idc s.text, s.n + 1⟩ = X
      induction X with
      | nil => simp [below, above]
      | cons y X ih =>
        simp only [below, above, List.filter_cons] at ih ⊢
        split <;> split <;> simp_all <;> omega
    simp only [List.length_append, List.length_cons]
    omega
  · omega
theorem length_tputMs : ∀ (xs : List Sym) (m : List Page), (xs.foldl tputM m).length ≤ m.length + xs.length
  | [], _ => Nat.le_refl _
  | x :: xs, m => by
    have h1 := length_tputM m x
    have h2 := length_tputMs xs (tputM m x)
    simp only [List.foldl_cons, List.length_cons]
    omega
set_option maxRecDepth 100000 in
set_option maxHeartbeats 8000000 in
theorem tputl_is (T : TB) (l : List Sym) (m : List Page) (L : List Sym) (A2 : Option Addr) (c2 : Nat) (hT : Tabs D w S σ S2 σ2) (hB : TabBlk w T) (hb : S T.bs = some l) (hb2 : S2 T.bp = some m) (hL : RowRd w 3 Sym.cells A2 c2 L)
    (hr1 : 1 ≤ T.room) (hr2 : T.room ≤ 4096) (hlr : (l.length : Int) ≤ T.room) (hl2 : (m.length : Int) ≤ 256) (hLL : (L.length : Int) ≤ 10000) :
    Calls Try.prog 20 #[.pointer (some ⟨T.b, 0, none⟩), .slice A2 L.length c2] w (TPut D w S σ S2 σ2 T l m L) := by
  have HT := Lib.hid hT
  have HB := Lib.hid hB
  have HS := Lib.hid hb
  have HP := Lib.hid hb2
  have HL := Lib.hid hL
  have HSO := Lib.hid (hT.syms.srt T.bs l hb)
  clear hT hB hb hb2 hL
  refine (callsIn_wide (n := 0)).1 ?_
  refine callsIn_of_wp_marks Try.func20 rfl trivial ?_
  refine wpIn_wide.2 ?_
  simp only [Try.ntmps20, List.size_toArray, List.length_cons, List.length_nil, Nat.reduceAdd, Nat.reduceSub, Array.replicate_succ, Array.replicate_zero, List.push_toArray, List.append_toArray, List.nil_append, List.cons_append]
  go_wp2_with fail
  obtain ⟨W0, hW0⟩ : ∃ W0, W0 = w.alloc (.cells #[.pointer (some ⟨T.b, 0, none⟩)] 24) := ⟨_, rfl⟩
  have hb0 : Below w.heap.size w W0 := by rw [hW0]; exact (Below.refl _ _).alloc (Nat.le_refl _) _
  have hX0 : Blk W0 w.heap.size 24 #[.pointer (some ⟨T.b, 0, none⟩)] := by rw [hW0]; exact Blk.new _ _ _
  rw [← hW0]
  clear hW0
  have hz0 := hX0.lt
  have HB0 := Lib.hid hb0
  have HX0 := Lib.hid hX0
  clear hb0 hX0
  go_loopw [4, 15] (fun e s wr => ∃ i : Nat, e = .int .i64 0 ∧ s = .int .i64 i ∧ i ≤ L.length ∧ (∀ j, (h : j < L.length) → j < i → validB L[j] = true) ∧ Below W0.heap.size W0 wr) (fun e s wr => L.length - (intOf s).toNat)
  case atStart => exact ⟨0, rfl, rfl, Nat.zero_le _, fun j _ h => absurd h (by omega), Below.refl _ _⟩
  case round =>
    obtain ⟨i, rfl, rfl, hi, hall, hBl⟩ := hrel
    have HALL := Lib.hid hall
    have HBl := Lib.hid hBl
    have HX1 := Lib.hid (HX0.out.new_ hBl)
    have hz1 := hBl.size
    clear hall hBl
    by_cases hlt : i < L.length
    · obtain ⟨y, hy⟩ : ∃ y, y = L[i] := ⟨_, rfl⟩
      obtain ⟨g, off, rfl, hg, q0, q1, q2⟩ := sym_at (HL.out.new_ (HB0.out.trans (HBl.out.mono (by omega)))) hlt
      rw [← hy] at q0 q1 q2
      have HY := Lib.hid hy
      have b1 : (0 : Int) ≤ (i : Int) := by omega
      have b2 : (i : Int) < (L.length : Int) := by omega
      clear hy
      go_wp2_with fail
      refine (valid_is y _).mono ?_
      rintro e w1 ⟨rfl, hb1⟩
      have HB1 := Lib.hid ((HBl.out.alloc HBl.out.size _).trans (hb1.mono (by have := HBl.out.size; simp; omega)))
      clear hb1 q0 q1 q2
      cases hv : validB y
      · have HE := Lib.hid (rtput_bad_at hlt (by rw [← HY.out]; exact hv))
        go_wp2_with fail
        refine ⟨_, results_tmp rfl _ _ _, ?_⟩
        unfold TPut
        rw [HE.out]
        exact ⟨rfl, HB0.out.trans (HB1.out.mono (by omega))⟩
      · have HV := Lib.hid hv
        go_wp2_with fail
        go_roundw
        case rel => exact ⟨i + 1, rfl, by go_num, by omega, fun j h hj => by
            rcases Nat.lt_or_ge j i with h3 | h3
            · exact HALL.out j h h3
            · obtain rfl : j = i := by omega
              rw [← HY.out]; exact HV.out, HB1.out⟩
        case measure => simp [intOf] <;> omega
    · have hie : i = L.length := by omega
      subst hie
      have HE := Lib.hid (show L.all validB = true from List.all_eq_true.2 (fun x hx => by
        obtain ⟨j, hj, rfl⟩ := List.getElem_of_mem hx
        exact HALL.out j hj hj))
      obtain ⟨w1, hw1⟩ : ∃ w1, w1 = wr := ⟨_, rfl⟩
      rw [← hw1] at HBl HX1 hz1 ⊢
      clear hw1 HALL
      have HB01 := Lib.hid (HB0.out.trans (HBl.out.mono (by omega)))
      go_wp2_with fail
      refine (new_Sym none 0 [] w1 (RowRd.nil _ _ _) (by simp)).mono ?_
      rintro e w2 ⟨k, rfl, hk, sn, A, c, hS2, hA2, hB2⟩
      have HS2 := Lib.hid hS2
      have HA2 := Lib.hid hA2
      have HB2 := Lib.hid hB2
      clear hS2 hA2 hB2
      go_wp2_with fail
      go_loopw [4, 26] (fun e s W => ∃ (i : Nat) (sn : Bool) (A : Option Addr) (c : Nat), e = .int .i64 0 ∧ s = .int .i64 i ∧ i ≤ L.length ∧ SymSet W k sn A c (frsh l (L.take i)) ∧ AIn A (w1.heap.size ≤ ·) ∧ Below w1.heap.size w1 W ∧ ((frsh l (L.take i)).length : Int) ≤ T.room - l.length) (fun e s W => L.length - (intOf s).toNat)
      case atStart => exact ⟨0, sn, A, c, rfl, rfl, Nat.zero_le _, HS2.out, HA2.out, HB2.out, by simp only [List.take_zero, frsh_nil, List.length_nil]; omega⟩
      case round =>
        clear HS2 HA2 HB2
        obtain ⟨i, sn, A, c, rfl, rfl, hi, hSf, hAf, hBf, hroom⟩ := hrel
        have HSf := Lib.hid hSf
        have HAf := Lib.hid hAf
        have HBf := Lib.hid hBf
        have HXf := Lib.hid (HX1.out.new_ hBf)
        have HBw := Lib.hid (HB01.out.trans (hBf.mono (by have := HB01.out.size; omega)))
        have hzf := hBf.size
        have hz01 := HB01.out.size
        clear hSf hAf hBf
        by_cases hlt : i < L.length
        · obtain ⟨y, hy⟩ : ∃ y, y = L[i] := ⟨_, rfl⟩
          obtain ⟨g, off, rfl, hg, q0, q1, q2⟩ := sym_at (HL.out.new_ HBw.out) hlt
          rw [← hy] at q0 q1 q2
          have b1 : (0 : Int) ≤ (i : Int) := by omega
          have b2 : (i : Int) < (L.length : Int) := by omega
          have p0 : wr.cell? ⟨w.heap.size, 0, none⟩ = some (.pointer (some ⟨T.b, 0, none⟩)) := (HXf.out.cell 0).trans rfl
          have hxl := HXf.out.lt
          have HTK := Lib.hid (show L.take (i + 1) = L.take i ++ [y] by rw [List.take_add_one, List.getElem?_eq_getElem hlt, ← hy]; rfl)
          clear hy
          go_wp2_with fail
          obtain ⟨V, hV⟩ : ∃ V, V = wr.alloc (.cells #[.int .i64 y.kind, .string y.text, .int .i64 y.n] 36) := ⟨_, rfl⟩
          have hbV : Below wr.heap.size wr V := by rw [hV]; exact (Below.refl _ _).alloc (Nat.le_refl _) _
          have hYV : Blk V wr.heap.size 36 #[.int .i64 y.kind, .string y.text, .int .i64 y.n] := by rw [hV]; exact Blk.new _ _ _
          rw [← hV]
          clear hV
          have hbVw := HBw.out.trans (hbV.mono HBw.out.size)
          refine (tabhas_is T l y (HT.out.below hbVw) (HB.out.below hbVw) HS.out (by omega)).mono ?_
          rintro e V1 ⟨rfl, hb1⟩
          have hbV1 := hbVw.trans (hb1.mono hbVw.size)
          have hY1 := hYV.new_ hb1
          have hS1 := (HSf.out.new_ hbV).new_ hb1
          have hX1 := (HXf.out.new_ hbV).new_ hb1
          have hbf1 := (HBf.out.trans (hbV.mono HBf.out.size)).trans (hb1.mono (by have := hbV.size; omega))
          have HY1 := Lib.hid hY1
          have HS1 := Lib.hid hS1
          have HX1' := Lib.hid hX1
          have HBV1 := Lib.hid hbV1
          have HBF1 := Lib.hid hbf1
          have hzv1 := hbf1.size
          clear hbV hYV hbVw hb1 hbV1 hY1 hS1 hX1 hbf1 q0 q1 q2 p0
          have p0 : V1.cell? ⟨w.heap.size, 0, none⟩ = some (.pointer (some ⟨T.b, 0, none⟩)) := (HX1'.out.cell 0).trans rfl
          have y0 : V1.cell? ⟨wr.heap.size, 0, none⟩ = some (.int .i64 y.kind) := (HY1.out.cell 0).trans rfl
          have y1 : V1.cell? ⟨wr.heap.size, 1, none⟩ = some (.string y.text) := (HY1.out.cell 1).trans rfl
          have y2 : V1.cell? ⟨wr.heap.size, 2, none⟩ = some (.int .i64 y.n) := (HY1.out.cell 2).trans rfl
          have hyl1 := HY1.out.lt
          have hxl1 := HX1'.out.lt
          cases hh : has cmpSym l y
          · have HH := Lib.hid hh
            clear hh
            go_wp2_with fail
            refine (put_Sym k c sn A (frsh l (L.take i)) y V1 HS1.out (frsh_srt _ _) (by omega)).mono ?_
            rintro e V2 ⟨rfl, sn2, A2', c2', hS2, hF2, hM2⟩
            have hFF : put cmpSym (frsh l (L.take i)) y = frsh l (L.take (i + 1)) := by rw [HTK.out, frsh_snoc, if_neg (by rw [HH.out]; simp)]
            rw [hFF] at hS2
            have hb2 : Below w1.heap.size V1 V2 := hF2.below (by omega) (fun j hj hm => by
              rcases hm with rfl | ⟨_, a, ha, rfl⟩
              · omega
              · have := HAf.out a ha; omega)
            have HBF2 := Lib.hid (HBF1.out.trans hb2)
            have HA2 := Lib.hid (show AIn A2' (w1.heap.size ≤ ·) by
              rcases hM2 with ⟨_, rfl⟩ | ⟨_, g2, hg2, rfl⟩
              · exact HAf.out
              · intro a ha; cases ha; dsimp only; omega)
            have HS2 := Lib.hid hS2
            clear hS2 hF2 hM2 hb2 p0 y0 y1 y2 hFF
            have hbVV := HB01.out.trans (HBF2.out.mono hz01)
            have HBVV := Lib.hid hbVV
            have HTV := Lib.hid (HT.out.below hbVV)
            have hBV := HB.out.below hbVV
            have p0 : V2.cell? ⟨w.heap.size, 0, none⟩ = some (.pointer (some ⟨T.b, 0, none⟩)) := ((HX1.out.new_ HBF2.out).cell 0).trans rfl
            have s0 : V2.cell? ⟨T.b, 0, none⟩ = some (.int .i64 T.room) := (hBV.1.cell 0).trans rfl
            have s1 : V2.cell? ⟨T.b, 1, none⟩ = some (.pointer (some ⟨T.bs, 0, none⟩)) := (hBV.1.cell 1).trans rfl
            have hxV := (HX1.out.new_ HBF2.out).lt
            have hbV := hBV.1.lt
            have v1 : IntKind.i64.wrap (T.room - (l.length : Int)) = T.room - (l.length : Int) := IntWalk.i64_in _ (by omega)
            clear hbVV hBV
            by_cases hfull : T.room - (l.length : Int) < ((frsh l (L.take (i + 1))).length : Int)
            · have t1 : decide (T.room - (l.length : Int) < ((frsh l (L.take (i + 1))).length : Int)) = true := by simpa using hfull
              have HFU := Lib.hid hfull
              clear hfull
              go_wp2_with fail
              refine wp_region_E (fun w9 => Below V2.heap.size V2 w9) [(0, 0), (2, 1), (3, 0), (4, 0), (5, 1), (6, 1), (7, 0), (8, 0), (9, 1), (1, 2), (10, 2), (11, 0), (12, 0)] (by kernel_rfl) (by kernel_rfl) (fun KK hKK => ?_)
              simp only [beside, List.filterMap_cons, List.filterMap_nil, List.getElem?_toArray, List.getElem?_cons_zero, List.getElem?_cons_succ, Option.map_some]
              repeat (first | (refine wpX_w ?_ (Or.inl ⟨by rfl, fun w9 => ?_⟩) ?_; rotate_left 1; go_simp; with_reducible rfl; simp only [Act.put, List.setIfInBounds_toArray, List.set_cons_zero, List.set_cons_succ]) | (refine wpX_l ?_ (((Below.refl _ _).drew)) (Or.inl ⟨by rfl, fun w9 hw9 => ?_⟩) ?_; rotate_left 1; obtain ⟨hc9, hf9⟩ := bcell hw9; go_simp; with_reducible rfl; simp only [Act.put, List.setIfInBounds_toArray, List.set_cons_zero, List.set_cons_succ]) | (refine wpX_w undef (Or.inr ⟨by rfl, rfl⟩) ?_; simp only [Act.put, List.setIfInBounds_toArray, List.set_cons_zero, List.set_cons_succ]) | (refine wpX_l undef (((Below.refl _ _).drew)) (Or.inr ⟨by rfl, rfl⟩) ?_; simp only [Act.put, List.setIfInBounds_toArray, List.set_cons_zero, List.set_cons_succ]))
              refine wpX_es (fun K9 hK9 => ?_)
              go_simp
              refine (len_Sym k _ _ _ (frsh l (L.take (i + 1))) _ (HS2.out.new_ ((Below.refl _ _).drew))).mono ?_
              rintro e wx ⟨rfl, rfl⟩
              refine hK9 _ _ ((Below.refl _ _).drew) ?_
              clear hK9 K9
              refine wpX_es (fun K9 hK9 => ?_)
              go_simp
              refine (len_Sym T.bs _ _ _ l _ ((HTV.out.below ((Below.refl _ _).drew)).syms.at_ T.bs l HS.out)).mono ?_
              rintro e wx ⟨rfl, rfl⟩
              refine hK9 _ _ ((Below.refl _ _).drew) ?_
              clear hK9 K9
              repeat (first | (refine wpX_w ?_ (Or.inl ⟨by rfl, fun w9 => ?_⟩) ?_; rotate_left 1; go_simp; with_reducible rfl; simp only [Act.put, List.setIfInBounds_toArray, List.set_cons_zero, List.set_cons_succ]) | (refine wpX_l ?_ (((Below.refl _ _).drew)) (Or.inl ⟨by rfl, fun w9 hw9 => ?_⟩) ?_; rotate_left 1; obtain ⟨hc9, hf9⟩ := bcell hw9; go_simp; with_reducible rfl; simp only [Act.put, List.setIfInBounds_toArray, List.set_cons_zero, List.set_cons_succ]) | (refine wpX_w undef (Or.inr ⟨by rfl, rfl⟩) ?_; simp only [Act.put, List.setIfInBounds_toArray, List.set_cons_zero, List.set_cons_succ]) | (refine wpX_l undef (((Below.refl _ _).drew)) (Or.inr ⟨by rfl, rfl⟩) ?_; simp only [Act.put, List.setIfInBounds_toArray, List.set_cons_zero, List.set_cons_succ]))
              refine wpX_nil ?_
              simp only [OnlyN_normal]
              refine hKK _ _ ?_
              clear hKK KK
              go_wp2_with fail
              refine ⟨_, results_tmp rfl _ _ _, ?_⟩
              unfold TPut
              have h1 := length_frsh HSO.out L
              have h2 := length_frsh_take l L (i + 1)
              have h3 := HFU.out
              rw [HE.out, if_pos rfl, if_pos (by omega)]
              exact ⟨rfl, HBVV.out.drew⟩
            · have t1 : decide (T.room - (l.length : Int) < ((frsh l (L.take (i + 1))).length : Int)) = false := by simpa using hfull
              have HFU := Lib.hid hfull
              clear hfull
              go_wp2_with fail
              refine wp_region_E (fun w9 => Below V2.heap.size V2 w9) [(0, 0), (2, 1), (3, 0), (4, 0), (5, 1), (6, 1), (7, 0), (8, 0), (9, 1), (1, 2), (10, 2), (11, 0), (12, 0)] (by kernel_rfl) (by kernel_rfl) (fun KK hKK => ?_)
              simp only [beside, List.filterMap_cons, List.filterMap_nil, List.getElem?_toArray, List.getElem?_cons_zero, List.getElem?_cons_succ, Option.map_some]
              repeat (first | (refine wpX_w ?_ (Or.inl ⟨by rfl, fun w9 => ?_⟩) ?_; rotate_left 1; go_simp; with_reducible rfl; simp only [Act.put, List.setIfInBounds_toArray, List.set_cons_zero, List.set_cons_succ]) | (refine wpX_l ?_ (((Below.refl _ _).drew)) (Or.inl ⟨by rfl, fun w9 hw9 => ?_⟩) ?_; rotate_left 1; obtain ⟨hc9, hf9⟩ := bcell hw9; go_simp; with_reducible rfl; simp only [Act.put, List.setIfInBounds_toArray, List.set_cons_zero, List.set_cons_succ]) | (refine wpX_w undef (Or.inr ⟨by rfl, rfl⟩) ?_; simp only [Act.put, List.setIfInBounds_toArray, List.set_cons_zero, List.set_cons_succ]) | (refine wpX_l undef (((Below.refl _ _).drew)) (Or.inr ⟨by rfl, rfl⟩) ?_; simp only [Act.put, List.setIfInBounds_toArray, List.set_cons_zero, List.set_cons_succ]))
              refine wpX_es (fun K9 hK9 => ?_)
              go_simp
              refine (len_Sym k _ _ _ (frsh l (L.take (i + 1))) _ (HS2.out.new_ ((Below.refl _ _).drew))).mono ?_
              rintro e wx ⟨rfl, rfl⟩
              refine hK9 _ _ ((Below.refl _ _).drew) ?_
              clear hK9 K9
              refine wpX_es (fun K9 hK9 => ?_)
              go_simp
              refine (len_Sym T.bs _ _ _ l _ ((HTV.out.below ((Below.refl _ _).drew)).syms.at_ T.bs l HS.out)).mono ?_
              rintro e wx ⟨rfl, rfl⟩
              refine hK9 _ _ ((Below.refl _ _).drew) ?_
              clear hK9 K9
              repeat (first | (refine wpX_w ?_ (Or.inl ⟨by rfl, fun w9 => ?_⟩) ?_; rotate_left 1; go_simp; with_reducible rfl; simp only [Act.put, List.setIfInBounds_toArray, List.set_cons_zero, List.set_cons_succ]) | (refine wpX_l ?_ (((Below.refl _ _).drew)) (Or.inl ⟨by rfl, fun w9 hw9 => ?_⟩) ?_; rotate_left 1; obtain ⟨hc9, hf9⟩ := bcell hw9; go_simp; with_reducible rfl; simp only [Act.put, List.setIfInBounds_toArray, List.set_cons_zero, List.set_cons_succ]) | (refine wpX_w undef (Or.inr ⟨by rfl, rfl⟩) ?_; simp only [Act.put, List.setIfInBounds_toArray, List.set_cons_zero, List.set_cons_succ]) | (refine wpX_l undef (((Below.refl _ _).drew)) (Or.inr ⟨by rfl, rfl⟩) ?_; simp only [Act.put, List.setIfInBounds_toArray, List.set_cons_zero, List.set_cons_succ]))
              refine wpX_nil ?_
              simp only [OnlyN_normal]
              refine hKK _ _ ?_
              clear hKK KK
              go_wp2_with fail
              go_roundw
              case rel => exact ⟨i + 1, sn2, A2', c2', rfl, by go_num, by omega, HS2.out.new_ ((Below.refl _ _).drew), HA2.out, HBF2.out.drew, by have := HFU.out; omega⟩
              case measure => simp [intOf] <;> omega
          · have HH := Lib.hid hh
            clear hh p0 y0 y1 y2
            have HFF := Lib.hid (show frsh l (L.take i) = frsh l (L.take (i + 1)) by rw [HTK.out, frsh_snoc, if_pos HH.out])
            have HS1' := Lib.hid (show SymSet V1 k sn A c (frsh l (L.take (i + 1))) by rw [← HFF.out]; exact HS1.out)
            have p0 : V1.cell? ⟨w.heap.size, 0, none⟩ = some (.pointer (some ⟨T.b, 0, none⟩)) := (HX1'.out.cell 0).trans rfl
            have hbVV := HB01.out.trans (HBF1.out.mono hz01)
            have HBVV := Lib.hid hbVV
            have HTV := Lib.hid (HT.out.below hbVV)
            have hBV := HB.out.below hbVV
            have p0 : V1.cell? ⟨w.heap.size, 0, none⟩ = some (.pointer (some ⟨T.b, 0, none⟩)) := ((HX1.out.new_ HBF1.out).cell 0).trans rfl
            have s0 : V1.cell? ⟨T.b, 0, none⟩ = some (.int .i64 T.room) := (hBV.1.cell 0).trans rfl
            have s1 : V1.cell? ⟨T.b, 1, none⟩ = some (.pointer (some ⟨T.bs, 0, none⟩)) := (hBV.1.cell 1).trans rfl
            have hxV := (HX1.out.new_ HBF1.out).lt
            have hbV := hBV.1.lt
            have v1 : IntKind.i64.wrap (T.room - (l.length : Int)) = T.room - (l.length : Int) := IntWalk.i64_in _ (by omega)
            clear hbVV hBV
            by_cases hfull : T.room - (l.length : Int) < ((frsh l (L.take (i + 1))).length : Int)
            · have t1 : decide (T.room - (l.length : Int) < ((frsh l (L.take (i + 1))).length : Int)) = true := by simpa using hfull
              have HFU := Lib.hid hfull
              clear hfull
              go_wp2_with fail
              refine wp_region_E (fun w9 => Below V1.heap.size V1 w9) [(0, 0), (2, 1), (3, 0), (4, 0), (5, 1), (6, 1), (7, 0), (8, 0), (9, 1), (1, 2), (10, 2), (11, 0), (12, 0)] (by kernel_rfl) (by kernel_rfl) (fun KK hKK => ?_)
              simp only [beside, List.filterMap_cons, List.filterMap_nil, List.getElem?_toArray, List.getElem?_cons_zero, List.getElem?_cons_succ, Option.map_some]
              repeat (first | (refine wpX_w ?_ (Or.inl ⟨by rfl, fun w9 => ?_⟩) ?_; rotate_left 1; go_simp; with_reducible rfl; simp only [Act.put, List.setIfInBounds_toArray, List.set_cons_zero, List.set_cons_succ]) | (refine wpX_l ?_ (((Below.refl _ _).drew)) (Or.inl ⟨by rfl, fun w9 hw9 => ?_⟩) ?_; rotate_left 1; obtain ⟨hc9, hf9⟩ := bcell hw9; go_simp; with_reducible rfl; simp only [Act.put, List.setIfInBounds_toArray, List.set_cons_zero, List.set_cons_succ]) | (refine wpX_w undef (Or.inr ⟨by rfl, rfl⟩) ?_; simp only [Act.put, List.setIfInBounds_toArray, List.set_cons_zero, List.set_cons_succ]) | (refine wpX_l undef (((Below.refl _ _).drew)) (Or.inr ⟨by rfl, rfl⟩) ?_; simp only [Act.put, List.setIfInBounds_toArray, List.set_cons_zero, List.set_cons_succ]))
              refine wpX_es (fun K9 hK9 => ?_)
              go_simp
              refine (len_Sym k _ _ _ (frsh l (L.take (i + 1))) _ (HS1'.out.new_ ((Below.refl _ _).drew))).mono ?_
              rintro e wx ⟨rfl, rfl⟩
              refine hK9 _ _ ((Below.refl _ _).drew) ?_
              clear hK9 K9
              refine wpX_es (fun K9 hK9 => ?_)
              go_simp
              refine (len_Sym T.bs _ _ _ l _ ((HTV.out.below ((Below.refl _ _).drew)).syms.at_ T.bs l HS.out)).mono ?_
              rintro e wx ⟨rfl, rfl⟩
              refine hK9 _ _ ((Below.refl _ _).drew) ?_
              clear hK9 K9
              repeat (first | (refine wpX_w ?_ (Or.inl ⟨by rfl, fun w9 => ?_⟩) ?_; rotate_left 1; go_simp; with_reducible rfl; simp only [Act.put, List.setIfInBounds_toArray, List.set_cons_zero, List.set_cons_succ]) | (refine wpX_l ?_ (((Below.refl _ _).drew)) (Or.inl ⟨by rfl, fun w9 hw9 => ?_⟩) ?_; rotate_left 1; obtain ⟨hc9, hf9⟩ := bcell hw9; go_simp; with_reducible rfl; simp only [Act.put, List.setIfInBounds_toArray, List.set_cons_zero, List.set_cons_succ]) | (refine wpX_w undef (Or.inr ⟨by rfl, rfl⟩) ?_; simp only [Act.put, List.setIfInBounds_toArray, List.set_cons_zero, List.set_cons_succ]) | (refine wpX_l undef (((Below.refl _ _).drew)) (Or.inr ⟨by rfl, rfl⟩) ?_; simp only [Act.put, List.setIfInBounds_toArray, List.set_cons_zero, List.set_cons_succ]))
              refine wpX_nil ?_
              simp only [OnlyN_normal]
              refine hKK _ _ ?_
              clear hKK KK
              go_wp2_with fail
              refine ⟨_, results_tmp rfl _ _ _, ?_⟩
              unfold TPut
              have h1 := length_frsh HSO.out L
              have h2 := length_frsh_take l L (i + 1)
              have h3 := HFU.out
              rw [HE.out, if_pos rfl, if_pos (by omega)]
              exact ⟨rfl, HBVV.out.drew⟩
            · have t1 : decide (T.room - (l.length : Int) < ((frsh l (L.take (i + 1))).length : Int)) = false := by simpa using hfull
              have HFU := Lib.hid hfull
              clear hfull
              go_wp2_with fail
              refine wp_region_E (fun w9 => Below V1.heap.size V1 w9) [(0, 0), (2, 1), (3, 0), (4, 0), (5, 1), (6, 1), (7, 0), (8, 0), (9, 1), (1, 2), (10, 2), (11, 0), (12, 0)] (by kernel_rfl) (by kernel_rfl) (fun KK hKK => ?_)
              simp only [beside, List.filterMap_cons, List.filterMap_nil, List.getElem?_toArray, List.getElem?_cons_zero, List.getElem?_cons_succ, Option.map_some]
              repeat (first | (refine wpX_w ?_ (Or.inl ⟨by rfl, fun w9 => ?_⟩) ?_; rotate_left 1; go_simp; with_reducible rfl; simp only [Act.put, List.setIfInBounds_toArray, List.set_cons_zero, List.set_cons_succ]) | (refine wpX_l ?_ (((Below.refl _ _).drew)) (Or.inl ⟨by rfl, fun w9 hw9 => ?_⟩) ?_; rotate_left 1; obtain ⟨hc9, hf9⟩ := bcell hw9; go_simp; with_reducible rfl; simp only [Act.put, List.setIfInBounds_toArray, List.set_cons_zero, List.set_cons_succ]) | (refine wpX_w undef (Or.inr ⟨by rfl, rfl⟩) ?_; simp only [Act.put, List.setIfInBounds_toArray, List.set_cons_zero, List.set_cons_succ]) | (refine wpX_l undef (((Below.refl _ _).drew)) (Or.inr ⟨by rfl, rfl⟩) ?_; simp only [Act.put, List.setIfInBounds_toArray, List.set_cons_zero, List.set_cons_succ]))
              refine wpX_es (fun K9 hK9 => ?_)
              go_simp
              refine (len_Sym k _ _ _ (frsh l (L.take (i + 1))) _ (HS1'.out.new_ ((Below.refl _ _).drew))).mono ?_
              rintro e wx ⟨rfl, rfl⟩
              refine hK9 _ _ ((Below.refl _ _).drew) ?_
              clear hK9 K9
              refine wpX_es (fun K9 hK9 => ?_)
              go_simp
              refine (len_Sym T.bs _ _ _ l _ ((HTV.out.below ((Below.refl _ _).drew)).syms.at_ T.bs l HS.out)).mono ?_
              rintro e wx ⟨rfl, rfl⟩
              refine hK9 _ _ ((Below.refl _ _).drew) ?_
              clear hK9 K9
              repeat (first | (refine wpX_w ?_ (Or.inl ⟨by rfl, fun w9 => ?_⟩) ?_; rotate_left 1; go_simp; with_reducible rfl; simp only [Act.put, List.setIfInBounds_toArray, List.set_cons_zero, List.set_cons_succ]) | (refine wpX_l ?_ (((Below.refl _ _).drew)) (Or.inl ⟨by rfl, fun w9 hw9 => ?_⟩) ?_; rotate_left 1; obtain ⟨hc9, hf9⟩ := bcell hw9; go_simp; with_reducible rfl; simp only [Act.put, List.setIfInBounds_toArray, List.set_cons_zero, List.set_cons_succ]) | (refine wpX_w undef (Or.inr ⟨by rfl, rfl⟩) ?_; simp only [Act.put, List.setIfInBounds_toArray, List.set_cons_zero, List.set_cons_succ]) | (refine wpX_l undef (((Below.refl _ _).drew)) (Or.inr ⟨by rfl, rfl⟩) ?_; simp only [Act.put, List.setIfInBounds_toArray, List.set_cons_zero, List.set_cons_succ]))
              refine wpX_nil ?_
              simp only [OnlyN_normal]
              refine hKK _ _ ?_
              clear hKK KK
              go_wp2_with fail
              go_roundw
              case rel => exact ⟨i + 1, sn, A, c, rfl, by go_num, by omega, HS1'.out.new_ ((Below.refl _ _).drew), HAf.out, HBF1.out.drew, by have := HFU.out; omega⟩
              case measure => simp [intOf] <;> omega
        · have hie : i = L.length := by omega
          subst hie
          obtain ⟨w4, hw4⟩ : ∃ w4, w4 = wr := ⟨_, rfl⟩
          rw [← hw4] at HSf HBf HXf HBw hzf ⊢
          clear hw4
          rw [List.take_length] at HSf hroom
          go_wp2_with fail
          refine (mkall_Sym k w4).mono ?_
          rintro e w5 ⟨rfl, hb5, hbox5⟩
          have hz5 := hb5.size
          have hbw5 := HBw.out.trans (hb5.mono HBw.out.size)
          have hS5 := HSf.out.new_ hb5
          have hX5 := HXf.out.new_ hb5
          have hSQ := seq_all_Sym w4.heap.size k _ _ _ _ w5 hbox5 hS5
          have HSQ := Lib.hid hSQ
          have HB5 := Lib.hid hbw5
          have HS5 := Lib.hid hS5
          have HX5 := Lib.hid hX5
          have hkl := hS5.lt
          have HA5 := Lib.hid hS5.row_lt
          clear hSQ hbw5 hS5 hX5 hb5 hbox5 HSf HBf HXf HBw
          have hof := Off.new_ HT.out.syms (show w.heap.size ≤ k by omega)
          have hof2 := Off.new_ HT.out.pages (show w.heap.size ≤ k by omega)
          have hXl := HX5.out.lt
          have HOF := Lib.hid (⟨hof, hof2⟩ : Off k S σ ∧ Off k S2 σ2)
          clear hof hof2
          go_wp2_with fail
          obtain ⟨D3, hD3⟩ : ∃ D3 : Nat → Prop, D3 = fun j => D j ∨ (w.heap.size ≤ j ∧ j < w5.heap.size) := ⟨_, rfl⟩
          obtain ⟨I, hI⟩ : ∃ I : List Sym → World → Prop, I = fun p W => (∃ σ' σ2', Tabs D3 W (upd S T.bs (some (puts cmpSym l p))) σ' (upd S2 T.bp (some (p.foldl tputM m))) σ2' ∧ ∀ j, j < w.heap.size → Off j S σ → Off j S2 σ2 → Off j (upd S T.bs (some (puts cmpSym l p))) σ' ∧ Off j (upd S2 T.bp (some (p.foldl tputM m))) σ2') ∧ KB w W ∧ Fr (fun j => ¬ D j) w W ∧ W.cell? ⟨w.heap.size, 0, none⟩ = some (.pointer (some ⟨T.b, 0, none⟩)) := ⟨_, rfl⟩
          have hws : w.heap.size ≤ w5.heap.size := HB5.out.size
          refine (wpIn_wide (n := 0)).1 ?_
          refine wpIn_range (w := w5) (by rfl) HSQ.out.enter HSQ.out.iter (fun x => by rfl) HSQ.out.trans HSQ.out.keep (fun W W1 h => keepsFrom_of_fr (HSQ.out.mods W W1 h)) I (fun _ _ _ => False) ?_ (fun _ _ _ _ h => h.elim) ?_ ?_ ?_ ?_
          · subst hI
            rintro p X Y ⟨⟨σ', σ2', g1, g2⟩, g3, g4, g5⟩ hp
            exact ⟨⟨σ', σ2', g1.priv hp, g2⟩, g3.priv hp, g4.priv hp hws, cell_priv g5 hp⟩
          · intro W W1 hW hs
            subst hI
            have hbW := HB5.out.trans (hW.mono hws)
            have g1 := HT.out.protect hbW
            have g2 := (g1.off HOF.out.1 HOF.out.2 hs.fr).weaken (D' := D3) (fun j hj => by
              rw [hD3] at hj
              have := hW.size
              rcases hj with hj | hj
              · exact .inl hj
              · exact .inr ⟨hj.1, by omega⟩)
            refine ⟨⟨σ, σ2, ?_, fun j hj h1 h2 => ?_⟩, ?_, ?_, ?_⟩
            · simp only [puts, List.foldl_nil]
              rw [upd_id _ _ _ HS.out, upd_id _ _ _ HP.out]; exact g2
            · simp only [puts, List.foldl_nil]
              rw [upd_id _ _ _ HS.out, upd_id _ _ _ HP.out]; exact ⟨h1, h2⟩
            · exact (KB.of_below hbW).trans (KB.of_sym (HS5.out.new_ hW) (hs.fr.mono (fun j _ hj => .inl hj)))
            · exact (Fr.of_new hbW).trans (hs.fr.mono (fun j _ hj hd => by have := HT.out.syms.low j hd; omega))
            · exact (hs.fr.cell (p := ⟨w.heap.size, 0, none⟩) (Nat.lt_of_lt_of_le hXl hW.size) (fun e => by dsimp only at e; omega)).trans (((HX5.out.new_ hW).cell 0).trans rfl)
          · intro lo pre x post W hx hlo hIW
            have hx' : (frsh l L).length = pre.length + (post.length + 1) := by rw [hx]; simp
            have hxv : validB x = true := by
              have h1 : x ∈ frsh l L := by rw [hx]; simp
              exact List.all_eq_true.1 HE.out x (mem_frsh.1 h1).1
            have HXV := Lib.hid hxv
            clear hx hxv
            rw [hI] at hIW
            obtain ⟨⟨σ', σ2', g1, g2⟩, g3, g4, g5⟩ := hIW
            have HI := Lib.hid hI
            have G1 := Lib.hid g1
            have G2 := Lib.hid g2
            have G3 := Lib.hid g3
            have G4 := Lib.hid g4
            have G5 := Lib.hid g5
            have HD3 := Lib.hid hD3
            clear g1 g2 g3 g4 g5 hI hD3
            simp only [encSym, Array.zip]
            gi_wp2_with fail
            refine ⟨KeepsFrom.alloc_ (keepsFrom_same _ _) _, fun W3 hp3 hz3 _ => ?_⟩
            have hx3 : Blk W3 W.heap.size 36 #[.int .i64 x.kind, .string x.text, .int .i64 x.n] := (Blk.new W 36 #[.int .i64 x.kind, .string x.text, .int .i64 x.n]).priv hp3
            have x0 : W3.cell? ⟨W.heap.size, 0, none⟩ = some (.int .i64 x.kind) := (hx3.cell 0).trans rfl
            have x1 : W3.cell? ⟨W.heap.size, 1, none⟩ = some (.string x.text) := (hx3.cell 1).trans rfl
            have x2 : W3.cell? ⟨W.heap.size, 2, none⟩ = some (.int .i64 x.n) := (hx3.cell 2).trans rfl
            have hba : Below W.heap.size W (W.alloc (.cells #[.int .i64 x.kind, .string x.text, .int .i64 x.n] 36)) := (Below.refl _ _).alloc (Nat.le_refl _) _
            have s3 := (G1.out.below hba).priv hp3
            have b3 := ((HB.out.kb G3.out).below hba).priv hp3
            have c3 : W3.cell? ⟨w.heap.size, 0, none⟩ = some (.pointer (some ⟨T.b, 0, none⟩)) := cell_priv ((hba.cell (World.block_lt_of_cell? _ _ G5.out)).trans G5.out) hp3
            have hcl3 := World.block_lt_of_cell? _ _ c3
            have hxl3 := hx3.lt
            have S3 := Lib.hid s3
            have B3 := Lib.hid b3
            have C3 := Lib.hid c3
            have P3 := Lib.hid hp3
            clear s3 b3 hx3 hp3 hz3 hba
            gi_wp2_with fail
            refine ⟨trivial, rfl, ?_⟩
            have hlen : (((puts cmpSym l pre).length : Nat) : Int) ≤ 1000000 := by
              have := length_puts_le tc_sym pre HSO.out
              omega
            have hlen2 : (((pre.foldl tputM m).length : Nat) : Int) ≤ 1000000 := by
              have := length_tputMs pre m
              omega
            refine (callsIn_wide.2 (tabput T (puts cmpSym l pre) (pre.foldl tputM m) x S3.out.quiet B3.out (upd_same _ _ _) (upd_same _ _ _) HXV.out hlen hlen2)).mono ?_
            rintro e W4 ⟨rfl, ⟨σ4, σ5, s4, ho4⟩, hK4, hF4⟩
            rw [upd_upd, upd_upd] at s4 ho4
            have k4 := keeps_quiet hF4 w5.heap.size
            have hF4' : Fr (fun j => ¬ D3 j) W3 W4 := hF4.mono (fun j _ hj hd => hj (.inl hd))
            have hDp : D3 w.heap.size := by rw [HD3.out]; exact .inr ⟨Nat.le_refl _, hXl⟩
            have c4 : W4.cell? ⟨w.heap.size, 0, none⟩ = some (.pointer (some ⟨T.b, 0, none⟩)) := (hF4'.cell hcl3 (fun h => h hDp)).trans C3.out
            have S4 := Lib.hid (s4.weaken (D' := D3) (fun j hj => .inl hj))
            have O4 := Lib.hid ho4
            have C4 := Lib.hid c4
            have K4 := Lib.hid k4
            have F4 := Lib.hid hF4'
            have KB4 := Lib.hid hK4
            have hz4 := hF4.size
            clear s4 ho4 c4 k4 hF4 hF4' hK4 c3 hDp
            gi_wp2_with fail
            have hI := HI.out
            subst hI
            have hpr : Fr (fun j => ¬ D j) W W3 := ((Fr.refl _ W).alloc _).into (Fr.of_priv P3.out) (fun j hj => .inl (fun hd => by have := HT.out.syms.low j hd; omega))
            have hws4 : w.heap.size ≤ W3.heap.size := by omega
            refine ⟨K4.out, ⟨Nat.le_trans hpr.size hz4, fun q hq hlt => ?_⟩, ⟨σ4, σ5, ?_, ?_⟩, ?_, ?_, C4.out⟩
            · have e1 := F4.out.block q.block (Nat.lt_of_lt_of_le hlt hpr.size) (fun h => h (by rw [HD3.out]; exact .inr ⟨by have := HAf.out q hq; omega, HA5.out q hq⟩))
              have e2 := P3.out.block q.block (by simp; omega) (.inl (HA5.out q hq))
              exact e1.trans (e2.trans (Below.heap_alloc W _ _ hlt))
            · rw [puts_snoc, List.foldl_append]; exact S4.out
            · intro j hj h1 h2
              rw [puts_snoc, List.foldl_append]
              obtain ⟨h3, h4⟩ := G2.out j hj h1 h2
              exact O4.out j (by omega) h3 h4
            · exact ((G3.out.trans (KB.of_below ((Below.refl _ _).alloc (Nat.le_refl _) _))).priv P3.out).trans KB4.out
            · exact (G4.out.trans hpr).trans (F4.out.mono (fun j _ hj hd => hj (by rw [HD3.out]; exact .inl hd)))
          · intro Dd W hDd hIW hK
            subst hI
            obtain ⟨⟨σ', σ2', g1, g2⟩, g3, g4, g5⟩ := hIW
            have G1 := Lib.hid g1
            have G2 := Lib.hid g2
            have G3 := Lib.hid g3
            have G4 := Lib.hid g4
            have HK := Lib.hid hK
            have HD3 := Lib.hid hD3
            clear g1 g2 g3 g4 g5 hK hD3
            go_wp2_with fail
            refine ⟨by simp, .inl ⟨_, _, rfl, run_takeDeferred HK.out, ?_⟩⟩
            have hpv : Priv w5.heap.size W (W.putObj Dd (.deferred none)) := (Priv.refl _ _).putObj hDd HK.out rfl _
            refine ⟨_, results_tmp rfl _ _ _, ?_⟩
            unfold TPut
            have h1 := length_frsh HSO.out L
            have h2 := G1.out
            have h3 := G2.out
            rw [puts_frsh HSO.out] at h2 h3
            rw [HE.out, if_pos rfl, if_neg (by omega)]
            exact ⟨rfl, ⟨σ', σ2', (h2.priv hpv).weaken (fun j hj => by rw [HD3.out]; exact .inl hj), h3⟩, G3.out.priv hpv, G4.out.priv hpv hws⟩
          · intro Dd c pre post W _ _ h
            exact h.elim
end
end Go.Proofs.Ythogokcbbkjcdaa

namespace Go.Proofs.Ythogokcbbkjcdaa
open Go.RowKit Go.Shelf
section
variable {D : Nat → Prop} {w : World} {S : Nat → Option (List Sym)} {σ : Nat → St} {S2 : Nat → Option (List Page)} {σ2 : Nat → St}
theorem Off.cloned {α : Type} {S : Nat → Option (List α)} {σ σ' : Nat → St} {q b k : Nat} {l : List α} (h : Off q S σ) (hb : S b = some l) (e1 : ∀ j, j ≠ k → j ≠ b → σ' j = σ j) (e2 : (σ' b).A = (σ b).A) (e3 : (σ' k).A = (σ b).A) (hqk : q ≠ k) : Off q (upd S k (some l)) σ' := by
  intro b' m hm
  by_cases e : b' = k
  · subst e
    rw [e3]
    exact ⟨Ne.symm hqk, (h b l hb).2⟩
  · rw [upd_ne _ _ e] at hm
    by_cases e' : b' = b
    · subst e'
      rw [e2]
      exact h b' m hm
    · rw [e1 _ e e']
      exact h b' m hm
def MapCloned (D : Nat → Prop) (w : World) (S : Nat → Option (List Sym)) (σ : Nat → St) (S2 : Nat → Option (List Page)) (σ2 : Nat → St) (m : List Page) (e : Ending) (w' : World) : Prop :=
  ∃ bm bp, e = .returned (.pointer (some ⟨bm, 0, none⟩)) ∧ Blk w' bm 75 #[.pointer (some ⟨bp, 0, none⟩)] ∧ (∃ σ2', Tabs D w' S σ (upd S2 bp (some m)) σ2' ∧ ∀ k, k < w.heap.size → Off k S2 σ2 → Off k (upd S2 bp (some m)) σ2') ∧ KB w w' ∧ Fr (fun k => ¬ D k) w w' ∧ w.heap.size ≤ bm ∧ w.heap.size ≤ bp
set_option maxRecDepth 100000 in
set_option maxHeartbeats 2000000 in
theorem mapclone_is (bm bp : Nat) (m : List Page) (hT : Tabs D w S σ S2 σ2) (hM : Blk w bm 75 #[.pointer (some ⟨bp, 0, none⟩)]) (hb : S2 bp = some m) :
    Calls Try.prog 28 #[.pointer (some ⟨bm, 0, none⟩)] w (MapCloned D w S σ S2 σ2 m) := by
  have s0 := (hM.cell 0).trans rfl
  have hml := hM.lt
  have HT := Lib.hid hT
  have HS := Lib.hid hb
  clear hT hM hb
  go_enter Try.func28, Try.ntmps28
  go_wp2_with fail
  refine (sClone_Page HT.out.pages HS.out).mono ?_
  rintro e w1 ⟨k, rfl, hk, _, σ2', h1, g1, _, g2, _, g3, hF, hFb⟩
  have HOF := Lib.hid (fun q (hq : q < w.heap.size) (ho : Off q S2 σ2) => Off.cloned (k := k) ho HS.out g1 g2 g3 (by omega))
  clear g1 g2 g3
  have h2 := HT.out.syms.other (HT.out.pages.at_ bp m HS.out) (by decide) (by decide) (by decide) (by decide) (hFb.mono (M' := SetMod bp (σ2 bp).sn (σ2 bp).A) (fun j _ hj => .inl hj))
  have h3 := KB.of_page (HT.out.pages.at_ bp m HS.out) (hFb.mono (M' := SetMod bp (σ2 bp).sn (σ2 bp).A) (fun j _ hj => .inl hj))
  have H1 := Lib.hid (show Tabs D w1 S σ (upd S2 k (some m)) σ2' from ⟨h2, h1⟩)
  have H3 := Lib.hid h3
  have HF := Lib.hid hF
  clear h1 h2 h3 hF hFb
  go_wp2_with fail
  go_ret
  have hn : Below w1.heap.size w1 (w1.alloc (.cells #[.pointer (some ⟨k, 0, none⟩)] 75)) := (Below.refl _ _).alloc (Nat.le_refl _) _
  exact ⟨w1.heap.size, k, rfl, Blk.new _ _ _, ⟨σ2', H1.out.below hn, HOF.out⟩, H3.out.trans (KB.of_below hn), HF.out.trans (Fr.of_new hn), HF.out.size, hk⟩
def TabCloned (D : Nat → Prop) (w : World) (S : Nat → Option (List Sym)) (σ : Nat → St) (S2 : Nat → Option (List Page)) (σ2 : Nat → St) (T : TB) (l : List Sym) (m : List Page) (e : Ending) (w' : World) : Prop :=
  ∃ T' : TB, e = .returned (.pointer (some ⟨T'.b, 0, none⟩)) ∧ T'.room = T.room ∧ TabBlk w' T' ∧ (∃ σ' σ2', Tabs D w' (upd S T'.bs (some l)) σ' (upd S2 T'.bp (some m)) σ2' ∧ ∀ k, k < w.heap.size → Off k S σ → Off k S2 σ2 → Off k (upd S T'.bs (some l)) σ' ∧ Off k (upd S2 T'.bp (some m)) σ2') ∧ KB w w' ∧ Fr (fun k => ¬ D k) w w' ∧ w.heap.size ≤ T'.bs ∧ w.heap.size ≤ T'.bp
set_option maxRecDepth 100000 in
set_option maxHeartbeats 4000000 in
theorem tabclone_is (T : TB) (l : List Sym) (m : List Page) (hT : Tabs D w S σ S2 σ2) (hB : TabBlk w T) (hb : S T.bs = some l) (hb2 : S2 T.bp = some m) :
    Calls Try.prog 18 #[.pointer (some ⟨T.b, 0, none⟩)] w (TabCloned D w S σ S2 σ2 T l m) := by
  have HT := Lib.hid hT
  have HB := Lib.hid hB
  have HS := Lib.hid hb
  have HP := Lib.hid hb2
  clear hT hB hb hb2
  go_enter Try.func18, Try.ntmps18
  go_wp2_with fail
  refine wp_region_E (fun w9 => TabBlk w9 T) [(0, 0), (1, 0), (2, 0), (3, 1), (4, 0), (5, 0), (6, 0), (7, 1), (9, 0), (10, 0), (11, 0), (12, 1), (8, 2), (13, 2), (14, 0), (15, 2), (16, 0)] (by kernel_rfl) (by kernel_rfl) (fun KK hKK => ?_)
  simp only [beside, List.filterMap_cons, List.filterMap_nil, List.getElem?_toArray, List.getElem?_cons_zero, List.getElem?_cons_succ, Option.map_some]
  repeat (first | (refine wpX_w ?_ (Or.inl ⟨by rfl, fun w9 => ?_⟩) ?_; rotate_left 1; go_simp; with_reducible rfl; simp only [Act.put, List.setIfInBounds_toArray, List.set_cons_zero, List.set_cons_succ]) | (refine wpX_l ?_ ((HB.out.below ((Below.refl _ _).drew))) (Or.inl ⟨by rfl, fun w9 hw9 => ?_⟩) ?_; rotate_left 1; have l0 := (hw9.1.cell 0).trans rfl; have l1 := (hw9.1.cell 1).trans rfl; have l2 := (hw9.1.cell 2).trans rfl; have lb := hw9.1.lt; go_simp; with_reducible rfl; simp only [Act.put, List.setIfInBounds_toArray, List.set_cons_zero, List.set_cons_succ]) | (refine wpX_w undef (Or.inr ⟨by rfl, rfl⟩) ?_; simp only [Act.put, List.setIfInBounds_toArray, List.set_cons_zero, List.set_cons_succ]) | (refine wpX_l undef ((HB.out.below ((Below.refl _ _).drew))) (Or.inr ⟨by rfl, rfl⟩) ?_; simp only [Act.put, List.setIfInBounds_toArray, List.set_cons_zero, List.set_cons_succ]))
  refine wpX_es (fun K9 hK9 => ?_)
  go_simp
  refine (sClone_Sym (HT.out.below ((Below.refl _ _).drew)).syms HS.out).mono ?_
  rintro e w1 ⟨k, rfl, hk, _, σ1, h1, g1, _, g2, _, g3, hF, hFb⟩
  have HOF1 := Lib.hid (fun q (hq : q < w.heap.size) (ho : Off q S σ) => Off.cloned (k := k) ho HS.out g1 g2 g3 (by have : w.heap.size ≤ k := (by simpa using hk); omega))
  clear g1 g2 g3
  have hT0 := HT.out.below ((Below.refl w.heap.size w).drew)
  have h2 := hT0.pages.other (hT0.syms.at_ T.bs l HS.out) (by decide) (by decide) (by decide) (by decide) (hFb.mono (M' := SetMod T.bs (σ T.bs).sn (σ T.bs).A) (fun j _ hj => .inl hj))
  have h3 := KB.of_sym (hT0.syms.at_ T.bs l HS.out) (hFb.mono (M' := SetMod T.bs (σ T.bs).sn (σ T.bs).A) (fun j _ hj => .inl hj))
  have H1 := Lib.hid (show Tabs D w1 (upd S k (some l)) σ1 S2 σ2 from ⟨h1, h2⟩)
  have HK1 := Lib.hid ((KB.of_below ((Below.refl w.heap.size w).drew)).trans h3)
  have HF1 := Lib.hid ((Fr.refl _ w).drew.trans hF)
  have hk : w.heap.size ≤ k := (by simpa using hk)
  have HB1 := Lib.hid (HB.out.kb HK1.out)
  clear hT0 h1 h2 h3 hF hFb
  refine hK9 _ _ HB1.out ?_
  clear hK9 K9
  refine wpX_es (fun K9 hK9 => ?_)
  go_simp
  refine (mapclone_is T.bm T.bp m H1.out HB1.out.2 HP.out).mono ?_
  rintro e w2 ⟨bm, bp, rfl, hM, ⟨σ3, h2, hof⟩, hK, hF, hbm, hbp⟩
  have HOF2 := Lib.hid hof
  clear hof
  have H2 := Lib.hid h2
  have HM := Lib.hid hM
  have HK2 := Lib.hid (HK1.out.trans hK)
  have HF2 := Lib.hid (HF1.out.trans hF)
  have HB2 := Lib.hid (HB1.out.kb hK)
  clear h2 hM hK hF
  refine hK9 _ _ HB2.out ?_
  clear hK9 K9
  repeat (first | (refine wpX_w ?_ (Or.inl ⟨by rfl, fun w9 => ?_⟩) ?_; rotate_left 1; go_simp; with_reducible rfl; simp only [Act.put, List.setIfInBounds_toArray, List.set_cons_zero, List.set_cons_succ]) | (refine wpX_l ?_ (HB2.out) (Or.inl ⟨by rfl, fun w9 hw9 => ?_⟩) ?_; rotate_left 1; have l0 := (hw9.1.cell 0).trans rfl; have l1 := (hw9.1.cell 1).trans rfl; have l2 := (hw9.1.cell 2).trans rfl; have lb := hw9.1.lt; go_simp; with_reducible rfl; simp only [Act.put, List.setIfInBounds_toArray, List.set_cons_zero, List.set_cons_succ]) | (refine wpX_w undef (Or.inr ⟨by rfl, rfl⟩) ?_; simp only [Act.put, List.setIfInBounds_toArray, List.set_cons_zero, List.set_cons_succ]) | (refine wpX_l undef (HB2.out) (Or.inr ⟨by rfl, rfl⟩) ?_; simp only [Act.put, List.setIfInBounds_toArray, List.set_cons_zero, List.set_cons_succ]))
  refine wpX_e (by kernel_rfl) (fun K9 hK9 => ?_)
  go_simp
  refine hK9 _ _ ?_
  clear hK9 K9
  repeat (first | (refine wpX_w ?_ (Or.inl ⟨by rfl, fun w9 => ?_⟩) ?_; rotate_left 1; go_simp; with_reducible rfl; simp only [Act.put, List.setIfInBounds_toArray, List.set_cons_zero, List.set_cons_succ]) | (refine wpX_l ?_ (HB2.out) (Or.inl ⟨by rfl, fun w9 hw9 => ?_⟩) ?_; rotate_left 1; have l0 := (hw9.1.cell 0).trans rfl; have l1 := (hw9.1.cell 1).trans rfl; have l2 := (hw9.1.cell 2).trans rfl; have lb := hw9.1.lt; go_simp; with_reducible rfl; simp only [Act.put, List.setIfInBounds_toArray, List.set_cons_zero, List.set_cons_succ]) | (refine wpX_w undef (Or.inr ⟨by rfl, rfl⟩) ?_; simp only [Act.put, List.setIfInBounds_toArray, List.set_cons_zero, List.set_cons_succ]) | (refine wpX_l undef (HB2.out) (Or.inr ⟨by rfl, rfl⟩) ?_; simp only [Act.put, List.setIfInBounds_toArray, List.set_cons_zero, List.set_cons_succ]))
  refine wpX_nil ?_
  simp only [OnlyN_normal]
  refine hKK _ _ ?_
  clear hKK KK
  go_wp2_with fail
  go_ret
  have hn : Below w2.heap.size w2 (w2.alloc (.cells #[.int .i64 T.room, .pointer (some ⟨k, 0, none⟩), .pointer (some ⟨bm, 0, none⟩)] 48)) := (Below.refl _ _).alloc (Nat.le_refl _) _
  exact ⟨⟨w2.heap.size, T.room, k, bm, bp⟩, rfl, rfl, ⟨Blk.new _ _ _, HM.out.new_ hn⟩, ⟨σ1, σ3, H2.out.below hn, fun q hq o1 o2 => ⟨HOF1.out q hq o1, HOF2.out q (Nat.lt_of_lt_of_le hq HF1.out.size) o2⟩⟩, HK2.out.trans (KB.of_below hn), HF2.out.trans (Fr.of_new hn), hk, by have := HF1.out.size; dsimp only; omega⟩
end
end Go.Proofs.Ythogokcbbkjcdaa

namespace Go.Proofs.Ythogokcbbkjcdaa
open Go.RowKit Go.Shelf
/-- What a table is, in a family of sets. -/
structure TabSt (W : World) (S : Nat → Option (List Sym)) (S2 : Nat → Option (List Page)) (T : TB) (L : List Sym) (m : List Page) : Prop where
  blk : TabBlk W T
  bs : S T.bs = some L
  bp : S2 T.bp = some m
  ti : TI L m
  srt : Srt cmpSym L
  val : ∀ s ∈ L, validB s = true
  len : (L.length : Int) ≤ T.room
  r1 : 1 ≤ T.room
  r2 : T.room ≤ 4096
/-- The answers. -/
def putCode (room : Int) (L X : List Sym) : Int := if X.all validB = true then (if room < ((puts cmpSym L X).length : Int) then 20 else 0) else 9
def putList (room : Int) (L X : List Sym) : List Sym := if X.all validB = true then (if room < ((puts cmpSym L X).length : Int) then L else puts cmpSym L X) else L
def zsym : Sym := ⟨0, ⟨#[]⟩, 0⟩
def freshE (room : Int) (L : List Sym) (c : UInt8) : Int := if nextL L c = 0 then 1 else if room ≤ (L.length : Int) ∨ 1048576 < nextL L c then 20 else 0
def freshS (room : Int) (L : List Sym) (c : UInt8) : Sym := if freshE room L c = 0 then ⟨1, letB c, nextL L c⟩ else zsym
def freshL (room : Int) (L : List Sym) (c : UInt8) : List Sym := if freshE room L c = 0 then put cmpSym L ⟨1, letB c, nextL L c⟩ else L
theorem nextL_pos {L : List Sym} {c : UInt8} (h : greatB c = true) : 1 ≤ nextL L c := by unfold nextL; rw [if_pos h]; have := maxL_nonneg L c; omega
theorem fresh_not {L : List Sym} {c : UInt8} (hg : greatB c = true) : has cmpSym L ⟨1, letB c, nextL L c⟩ = false := by
  rw [hasNot]
  intro hm
  have h5 := (maxL_le.1 (Int.le_refl (maxL L c))).2 _ hm ⟨rfl, rfl⟩
  have h6 : nextL L c = maxL L c + 1 := by unfold nextL; rw [if_pos hg]
  dsimp only at h5
  omega
theorem nextL_zero {L : List Sym} {c : UInt8} (h : greatB c = false) : nextL L c = 0 := by unfold nextL; simp [h]
section
variable {D D' : Nat → Prop} {W W' : World} {T : TB} {L : List Sym}
theorem TabSt.blk_ {S : Nat → Option (List Sym)} {S2 : Nat → Option (List Page)} {m : List Page} (h : TabSt W S S2 T L m) (hb : TabBlk W' T) : TabSt W' S S2 T L m := ⟨hb, h.bs, h.bp, h.ti, h.srt, h.val, h.len, h.r1, h.r2⟩
theorem Tabs.off_blk {S : Nat → Option (List Sym)} {σ : Nat → St} {S2 : Nat → Option (List Page)} {σ2 : Nat → St} {k : Nat} {t : TypeId} {cs : Array Value} (h : Tabs D W S σ S2 σ2) (hB : Blk W k t cs) (h1 : t ≠ 68) (h2 : t ≠ 36) (h3 : t ≠ 88) (h4 : t ≠ 73) : Off k S σ ∧ Off k S2 σ2 := by
  refine ⟨fun b l hb => ⟨fun e => ?_, fun a ha e => ?_⟩, fun b l hb => ⟨fun e => ?_, fun a ha e => ?_⟩⟩
  · exact hB.ne_ (h.syms.at_ b l hb).blk h1 e.symm
  · have := own_blk_ne (h.syms.at_ b l hb).row hB (Ne.symm h2)
    rw [ha] at this
    exact this (by simp [Value.ownBlock, e])
  · exact hB.ne_ (h.pages.at_ b l hb).blk h3 e.symm
  · have := own_blk_ne (h.pages.at_ b l hb).row hB (Ne.symm h4)
    rw [ha] at this
    exact this (by simp [Value.ownBlock, e])
theorem Tabs.offProtect {S : Nat → Option (List Sym)} {σ : Nat → St} {S2 : Nat → Option (List Page)} {σ2 : Nat → St} {k : Nat} (h : Tabs D W S σ S2 σ2) (ho : Off k S σ ∧ Off k S2 σ2) (hF : Fr (· = k) W W') : Tabs (fun j => D j ∨ (W.heap.size ≤ j ∧ j < W'.heap.size)) W' S σ S2 σ2 := by
  have h1 := h.off ho.1 ho.2 hF
  exact ⟨h1.syms.widen W.heap.size (fun b l hb => ⟨h.syms.lt hb, fun _ => (h.syms.at_ b l hb).row_lt⟩), h1.pages.widen W.heap.size (fun b l hb => ⟨h.pages.lt hb, fun _ => (h.pages.at_ b l hb).row_lt⟩)⟩
theorem putList_valid {room : Int} {L X : List Sym} (h : ∀ s ∈ L, validB s = true) : ∀ s ∈ putList room L X, validB s = true := by
  unfold putList
  split
  · rename_i hx
    split
    · exact h
    · intro s hs
      rw [mem_puts_iff] at hs
      rcases hs with hs | hs
      · exact h s hs
      · exact List.all_eq_true.1 hx s hs
  · exact h
end
/-- What a call on one table leaves of a family of sets. -/
def Out (D : Nat → Prop) (W : World) (S : Nat → Option (List Sym)) (σ : Nat → St) (S2 : Nat → Option (List Page)) (σ2 : Nat → St) (T : TB) (L' : List Sym) (W' : World) : Prop :=
  (∃ σ' σ2' m', Tabs D W' (upd S T.bs (some L')) σ' (upd S2 T.bp (some m')) σ2' ∧ TI L' m' ∧ Srt cmpSym L' ∧ (∀ s ∈ L', validB s = true) ∧ (L'.length : Int) ≤ T.room ∧ ∀ q, q < W.heap.size → Off q S σ → Off q S2 σ2 → Off q (upd S T.bs (some L')) σ' ∧ Off q (upd S2 T.bp (some m')) σ2') ∧ KB W W' ∧ Fr (fun j => ¬ D j) W W'
section
variable {D D' : Nat → Prop} {W W' : World} {T T' : TB} {L L' L1 : List Sym} {S : Nat → Option (List Sym)} {σ : Nat → St} {S2 : Nat → Option (List Page)} {σ2 : Nat → St} {m : List Page}
theorem Out.same (h1 : Tabs D W S σ S2 σ2) (h2 : TabSt W S S2 T L m) (hb : Below W.heap.size W W') : Out D W S σ S2 σ2 T L W' :=
  ⟨⟨σ, σ2, m, by rw [upd_id _ _ _ h2.bs, upd_id _ _ _ h2.bp]; exact h1.below hb, h2.ti, h2.srt, h2.val, h2.len, fun q _ o1 o2 => by rw [upd_id _ _ _ h2.bs, upd_id _ _ _ h2.bp]; exact ⟨o1, o2⟩⟩, KB.of_below hb, Fr.of_new hb⟩
set_option maxHeartbeats 1000000 in
theorem st_put (X : List Sym) (A2 : Option Addr) (c2 : Nat) (h1 : Tabs D W S σ S2 σ2) (h2 : TabSt W S S2 T L m) (hX : RowRd W 3 Sym.cells A2 c2 X) (hl : (X.length : Int) ≤ 10000) :
    Calls Try.prog 20 #[.pointer (some ⟨T.b, 0, none⟩), .slice A2 X.length c2] W fun e W' => e = .returned (.int .i64 (putCode T.room L X)) ∧ Out D W S σ S2 σ2 T (putList T.room L X) W' := by
  refine (tputl_is T L m X A2 c2 h1 h2.blk h2.bs h2.bp hX h2.r1 h2.r2 h2.len (page_len h2.ti.1) hl).mono ?_
  intro e W' hp
  have hval := putList_valid (room := T.room) (X := X) h2.val
  unfold TPut at hp
  unfold putList at hval ⊢
  unfold putCode
  split at hp
  · rename_i hx
    rw [if_pos hx] at hval
    rw [if_pos hx, if_pos hx]
    split at hp
    · rename_i hr
      rw [if_pos hr, if_pos hr]
      exact ⟨hp.1, Out.same h1 h2 hp.2⟩
    · rename_i hr
      rw [if_neg hr] at hval
      rw [if_neg hr, if_neg hr]
      have hti := h2.ti.puts (m := m) (frsh L X) (fun s hs => List.all_eq_true.1 hx s (mem_frsh.1 hs).1)
      rw [puts_frsh h2.srt] at hti
      obtain ⟨he, ⟨σ', σ2', g1, gof⟩, hK, hF⟩ := hp
      exact ⟨he, ⟨σ', σ2', _, g1, hti, Srt.puts tc_sym _ h2.srt, hval, by omega, gof⟩, hK, hF⟩
  · rename_i hx
    rw [if_neg hx, if_neg hx]
    exact ⟨hp.1, Out.same h1 h2 hp.2⟩
set_option maxHeartbeats 1000000 in
theorem st_fresh (c : UInt8) (h1 : Tabs D W S σ S2 σ2) (h2 : TabSt W S S2 T L m) :
    Calls Try.prog 21 #[.pointer (some ⟨T.b, 0, none⟩), .int .u8 (c.toNat : Int)] W fun e W' => e = .returned (.tuple #[.agg #[.int .i64 (freshS T.room L c).kind, .string (freshS T.room L c).text, .int .i64 (freshS T.room L c).n], .int .i64 (freshE T.room L c)]) ∧ Out D W S σ S2 σ2 T (freshL T.room L c) W' := by
  have hlen := h2.len
  have hr2 := h2.r2
  have hpl := page_len h2.ti.1
  cases hg : greatB c
  · have e0 : freshE T.room L c = 1 := by unfold freshE; rw [if_pos (nextL_zero hg)]
    have e1 : freshS T.room L c = zsym := by unfold freshS; rw [e0]; rfl
    have e2 : freshL T.room L c = L := by unfold freshL; rw [e0]; rfl
    rw [e0, e1, e2]
    exact (fresh_arg T c hg).mono fun e W' ⟨h3, h4⟩ => ⟨h3, Out.same h1 h2 h4⟩
  · have hp := nextL_pos (L := L) hg
    have hnb := h2.ti.next c
    by_cases hf : T.room ≤ L.length
    · have e0 : freshE T.room L c = 20 := by unfold freshE; rw [if_neg (by omega), if_pos (.inl hf)]
      have e1 : freshS T.room L c = zsym := by unfold freshS; rw [e0]; rfl
      have e2 : freshL T.room L c = L := by unfold freshL; rw [e0]; rfl
      rw [e0, e1, e2]
      exact (fresh_full T L m c h1 h2.blk h2.bs h2.bp hg hf (by omega)).mono fun e W' ⟨h3, h4⟩ => ⟨h3, Out.same h1 h2 h4⟩
    · by_cases hn : 1048576 < nextL L c
      · have e0 : freshE T.room L c = 20 := by unfold freshE; rw [if_neg (by omega), if_pos (.inr hn)]
        have e1 : freshS T.room L c = zsym := by unfold freshS; rw [e0]; rfl
        have e2 : freshL T.room L c = L := by unfold freshL; rw [e0]; rfl
        rw [e0, e1, e2]
        exact (fresh_far T L m c h1 h2.blk h2.bs h2.bp hg hf (by omega) (by omega)).mono fun e W' ⟨h3, h4⟩ => ⟨h3, Out.same h1 h2 h4⟩
      · have e0 : freshE T.room L c = 0 := by unfold freshE; rw [if_neg (by omega), if_neg (fun h => h.elim hf hn)]
        have e1 : freshS T.room L c = ⟨1, letB c, nextL L c⟩ := by unfold freshS; rw [if_pos e0]
        have e2 : freshL T.room L c = put cmpSym L ⟨1, letB c, nextL L c⟩ := by unfold freshL; rw [if_pos e0]
        have hv : validB ⟨1, letB c, nextL L c⟩ = true := valid_let hg hp (by omega)
        have hlp := length_put tc_sym h2.srt (fresh_not hg)
        rw [e0, e1, e2]
        refine (fresh_new T L m c h1 h2.blk h2.bs h2.bp hg hf (by omega) (by omega) (by omega) (by omega)).mono fun e W' ⟨h3, h4⟩ => ?_
        rw [hnb] at h3 h4
        obtain ⟨⟨σ', σ2', g1, gof⟩, hK, hF⟩ := h4
        exact ⟨h3, ⟨σ', σ2', _, g1, h2.ti.put hv, h2.srt.put tc_sym _, (fun s hs => by
          rcases mem_put_iff.1 hs with hs | rfl
          · exact h2.val s hs
          · exact hv), by rw [hlp]; omega, gof⟩, hK, hF⟩
end
end Go.Proofs.Ythogokcbbkjcdaa
