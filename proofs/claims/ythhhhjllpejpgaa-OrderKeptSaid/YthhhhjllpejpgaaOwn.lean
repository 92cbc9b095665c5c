/-
  Slices that a call makes itself, of data with depth (OwnR): what an append leaves; as rows that read (RowR). Over any program.
-/
import Derived.Test.YthhhhjllpejpgaaRep
namespace Go.Proofs.Ythhhhjllpejpgaa
open Go.RowKit

/-- Two lists side by side. -/
inductive Each2 {α β : Type} (R : α → β → Prop) : List α → List β → Prop
  | nil : Each2 R [] []
  | cons {a : α} {b : β} {l : List α} {m : List β} : R a b → Each2 R l m → Each2 R (a :: l) (b :: m)
section
variable {α β : Type} {R R' : α → β → Prop}
theorem Each2.length : ∀ {l : List α} {m : List β}, Each2 R l m → l.length = m.length
  | _, _, .nil => rfl
  | _, _, .cons _ h => by simp [h.length]
theorem Each2.imp (hr : ∀ a b, R a b → R' a b) : ∀ {l : List α} {m : List β}, Each2 R l m → Each2 R' l m
  | _, _, .nil => .nil
  | _, _, .cons h t => .cons (hr _ _ h) (t.imp hr)
theorem Each2.snoc {a : α} {b : β} (hr : R a b) : ∀ {l : List α} {m : List β}, Each2 R l m → Each2 R (l ++ [a]) (m ++ [b])
  | _, _, .nil => .cons hr .nil
  | _, _, .cons h t => .cons h (t.snoc hr)
theorem Each2.append : ∀ {l l' : List α} {m m' : List β}, Each2 R l m → Each2 R l' m' → Each2 R (l ++ l') (m ++ m')
  | _, _, _, _, .nil, h => h
  | _, _, _, _, .cons h t, k => .cons h (t.append k)
theorem Each2.get : ∀ {l : List α} {m : List β}, Each2 R l m → ∀ k, (h : k < l.length) → ∃ h' : k < m.length, R l[k] m[k]
  | _, _, .nil, _, h => absurd h (by simp)
  | _, _, .cons h _, 0, _ => ⟨by simp, h⟩
  | _, _, .cons _ t, k + 1, h => by
    obtain ⟨h1, h2⟩ := t.get k (by simpa using h)
    exact ⟨by simpa using h1, by simpa using h2⟩
end
theorem flatten_get {size : Nat} : ∀ (css : List (List Value)), (∀ cs ∈ css, cs.length = size) → ∀ k, (h : k < css.length) → ∀ j, j < size → css.flatten[k * size + j]? = css[k][j]?
  | [], _, _, h, _, _ => absurd h (by simp)
  | c :: css, hs, 0, _, j, hj => by
    rw [List.flatten_cons, List.getElem?_append_left (by rw [hs c (by simp)]; omega)]; simp
  | c :: css, hs, k + 1, h, j, hj => by
    have hc := hs c (by simp)
    rw [List.flatten_cons, List.getElem?_append_right (by rw [hc, Nat.add_mul]; omega), hc]
    rw [show (k + 1) * size + j - size = k * size + j by rw [Nat.add_mul]; omega]
    exact flatten_get css (fun cs h => hs cs (by simp [h])) k (by simpa using h) j hj

theorem sum_const {α : Type} (n : Nat) : ∀ l : List α, (l.map fun _ => n).sum = l.length * n
  | [] => by simp
  | _ :: l => by simp only [List.map_cons, List.sum_cons, List.length_cons, sum_const n l, Nat.add_mul]; omega
/-- Blocks that are not the slice's own. -/
def Aside (w : World) (v : Value) : Nat → Prop := fun j => j < w.heap.size ∧ v.ownBlock ≠ some j
/-- The slice v is owned, in blocks from base on, and holds l; what its elements point to lies elsewhere. -/
def OwnR {α : Type} (r : RepT α) (e : TypeId) (base : Nat) (w : World) (v : Value) (l : List α) : Prop :=
  ∃ css, w.ownsRow base e r.size v l.length css.flatten ∧ Each2 (fun a cs => r.rep (Aside w v) w a cs) l css
section
variable {α : Type} {r : RepT α} {e : TypeId} {base : Nat} {w w' : World} {v : Value} {l : List α}
theorem OwnR.nil (r : RepT α) (e : TypeId) (base : Nat) (w : World) : OwnR r e base w (.slice none 0 0) [] := ⟨[], ⟨by simp, .inl ⟨rfl, rfl⟩⟩, .nil⟩
theorem OwnR.form (h : OwnR r e base w v l) : ∃ A c, v = .slice A l.length c ∧ l.length ≤ c ∧ c ≤ maxLen ∧ AIn A (fun j => base ≤ j ∧ j < w.heap.size) := by
  obtain ⟨css, hown, _⟩ := h
  rcases hown.2 with ⟨rfl, hn⟩ | ⟨g, cap, cur, rfl, h0, hg, hn, hc, _⟩
  · exact ⟨none, 0, by rw [hn], by omega, Nat.zero_le _, AIn.none_ _⟩
  · exact ⟨_, cap, rfl, hn, hc, fun a ha => by cases ha; exact ⟨h0, Blk.lt (t := e) hg⟩⟩
theorem OwnR.block (h : OwnR r e base w v l) : ∀ k, v.ownBlock = some k → base ≤ k ∧ k < w.heap.size := by
  obtain ⟨A, c, rfl, _, _, hA⟩ := h.form
  intro k hk
  rcases A with _ | a
  · cases hk
  · simp only [Value.ownBlock, Option.some.injEq] at hk
    subst hk
    exact hA a rfl
theorem OwnR.keep (h : OwnR r e base w v l) (hs : w.heap.size ≤ w'.heap.size) (hk : ∀ k, k < w.heap.size → w'.heap[k]? = w.heap[k]?) : OwnR r e base w' v l := by
  obtain ⟨css, hown, he⟩ := h
  refine ⟨css, ⟨hown.1, hown.2.imp id fun ⟨g, cap, cur, hv, h0, hg, hr⟩ => ⟨g, cap, cur, hv, h0, (hk g (Blk.lt (t := e) hg)).trans hg, hr⟩⟩, he.imp fun a cs hr => r.keep hs (fun k hd hl => ⟨⟨by omega, hd.2⟩, hk k hl⟩) hr⟩
theorem OwnR.new_ (h : OwnR r e base w v l) (hb : Below w.heap.size w w') : OwnR r e base w' v l := h.keep hb.size hb.block
theorem OwnR.fr {M : Nat → Prop} (h : OwnR r e base w v l) (hF : Fr M w w') (hM : ∀ k, ¬ M k) : OwnR r e base w' v l := h.keep hF.size (fun k hk => hF.block k hk (hM k))
theorem OwnR.base_ {base' : Nat} (h : OwnR r e base w v l) (hb : base' ≤ base) : OwnR r e base' w v l := by
  obtain ⟨css, hown, he⟩ := h
  exact ⟨css, ⟨hown.1, hown.2.imp id fun ⟨g, cap, cur, hv, h0, hr⟩ => ⟨g, cap, cur, hv, Nat.le_trans hb h0, hr⟩⟩, he⟩
/-- As a row that reads. -/
theorem OwnR.row {A : Option Addr} {n c : Nat} (h : OwnR r e base w (.slice A n c) l) : RowR r (· < w.heap.size) w A c l := by
  obtain ⟨A', c', hv, h1, h2, _⟩ := h.form
  injection hv with hA hn hc
  subst hA; subst hc
  obtain ⟨css, hown, he⟩ := h
  refine ⟨h1, h2, fun h0 => ?_⟩
  have hsz : ∀ cs ∈ css, cs.length = r.size := fun cs hcs => by
    obtain ⟨k, hk, rfl⟩ := List.getElem_of_mem hcs
    obtain ⟨_, h3⟩ := he.get k (by rw [he.length]; exact hk)
    exact r.len h3
  rcases hown.2 with ⟨hv, hn0⟩ | ⟨g, cap, cur, hv, _, hg, hn2, hc2, hs2, ht⟩
  · omega
  · injection hv with hA _ hc
    subst hA
    have hgl : g < w.heap.size := Blk.lt (t := e) hg
    refine ⟨g, 0, rfl, hgl, hgl, fun k hk => ?_⟩
    obtain ⟨hk2, hrep⟩ := he.get k hk
    refine ⟨css[k], r.keep (Nat.le_refl _) (fun j hj _ => ⟨hj.1, rfl⟩) hrep, fun j u hu => ?_⟩
    have hj : j < r.size := by rw [← r.len hrep]; exact (List.getElem?_eq_some_iff.1 hu).1
    have hf := flatten_get css hsz k hk2 j hj
    rw [hu, ← ht] at hf
    rw [Nat.zero_add, Blk.cell (t := e) hg]
    have hlt : k * r.size + j < l.length * r.size := by
      have : (k + 1) * r.size ≤ l.length * r.size := Nat.mul_le_mul_right _ hk
      rw [Nat.add_mul] at this; omega
    rw [List.getElem?_take_of_lt hlt] at hf
    rw [← hf]; simp
/-- Behind an append of elements. -/
theorem OwnR.grown {v' : Value} {l2 : List α} {css2 : List (List Value)} (h : OwnR r e base w v l) (hown : w'.ownsRow base e r.size v' (l ++ l2).length ((Classical.choose h).flatten ++ css2.flatten)) (hg : w.grownBy w' v.ownBlock)
    (hv : v'.ownBlock = v.ownBlock ∨ v'.ownBlock = some w.heap.size) (he2 : Each2 (fun a cs => r.rep (Aside w v) w a cs) l2 css2) : OwnR r e base w' v' (l ++ l2) := by
  have hs := Classical.choose_spec h
  have up : ∀ a cs, r.rep (Aside w v) w a cs → r.rep (Aside w' v') w' a cs := fun a cs hr => r.keep hg.size (fun k hd hl => ⟨⟨Nat.lt_of_lt_of_le hd.1 hg.size, fun hk => by
    rcases hv with hv | hv
    · exact hd.2 (hv ▸ hk)
    · rw [hv] at hk; injection hk with hk; omega⟩, hg.block k hl (fun hk => hd.2 hk.symm)⟩) hr
  exact ⟨Classical.choose h ++ css2, by rw [List.flatten_append]; exact hown, (hs.2.imp up).append (he2.imp up)⟩
end
/-! ### append onto an owned row, whatever the source -/
section
variable {P : Program} (w : World)
theorem run_append_srcB (t ty e : TypeId) (i : TypeInfo) (z : Value) (size bytes : Nat) (ht : P.underlying t = some (.slice e)) (hi : P.info? e = some i) (hz : i.zero = some z)
    (hsize : i.size = size) (hby : i.bytes = bytes) (hzs : z.cells.size = size) (hsz : 0 < size)
    (base : Nat) (hbase : base ≤ w.heap.size) (v : Value) (n : Nat) (xs : List Value) (hown : w.ownsRow base e size v n xs) (A : Option Addr) (m c : Nat) (news : List Value) (hl : news.length = m * size)
    (hnews : 0 < m → ∃ ad, A = some ad ∧ ∀ j u, news[j]? = some u → w.cell? (ad.add j) = some u) (h1 : ∀ u ∈ news, u.oneCell' = true)
    (h63 : n + m ≤ maxLen) (hbytes : (n + m) * bytes ≤ 140737488355328) :
    ∃ v' w', (Builtin.append_ #[t, t] ty #[v, .slice A m c]).run P w = .ok v' w' ∧ w'.ownsRow base e size v' (n + m) (xs ++ news) ∧ w.grownBy w' v.ownBlock ∧
      (v' = .slice none 0 0 ↔ v = .slice none 0 0 ∧ m = 0) ∧ (v'.ownBlock = v.ownBlock ∨ v'.ownBlock = some w.heap.size) := by
  rcases Nat.eq_zero_or_pos m with rfl | hm
  · have hn : news = [] := List.eq_nil_of_length_eq_zero (by simpa using hl)
    subst hn
    rcases A with _ | ad
    · refine ⟨v, w, ?_, by simpa using hown, World.grownBy.refl w _, by simp, .inl rfl⟩
      rcases hown.2 with ⟨rfl, rfl⟩ | ⟨g, cap, cur, rfl, _, _, hnc, _⟩
      · simp [Builtin.append_, run_underlying ht, sizeOf, typeInfo, hi, Builtin.lenOf, Builtin.firstCells]
      · simp [Builtin.append_, run_underlying ht, sizeOf, typeInfo, hi, Builtin.lenOf, Builtin.firstCells, hnc, storeCells]
    · exact run_append_own_at w base t ty e i z size bytes ht hi hz hsize hby hzs hsz v n xs hown ad 0 c [] (by simp) (by simp) (by simp) h63 hbytes hbase
  · obtain ⟨ad, rfl, hc⟩ := hnews hm
    exact run_append_own_at w base t ty e i z size bytes ht hi hz hsize hby hzs hsz v n xs hown ad m c news hl hc h1 h63 hbytes hbase
theorem wp_append_srcB {o : Oper} {a : Act} {K : Act → World → Prop} {Q : Exit → Act → World → Prop} (s x : Operand) (t : TypeId)
    (ho : o.op = .call { callee := .builtin .append, args := #[s, x], argTypes := #[t, t] })
    (e : TypeId) (i : TypeInfo) (z : Value) (size bytes : Nat) (ht : P.underlying t = some (.slice e)) (hi : P.info? e = some i) (hz : i.zero = some z)
    (hsize : i.size = size) (hby : i.bytes = bytes) (hzs : z.cells.size = size) (hsz : 0 < size)
    (base : Nat) (hbase : base ≤ w.heap.size) (v : Value) (n : Nat) (xs : List Value) (hs : a.eval s = v) (hown : w.ownsRow base e size v n xs)
    (A : Option Addr) (m c : Nat) (news : List Value) (hx : a.eval x = .slice A m c) (hl : news.length = m * size)
    (hnews : 0 < m → ∃ ad, A = some ad ∧ ∀ j u, news[j]? = some u → w.cell? (ad.add j) = some u) (h1 : ∀ u ∈ news, u.oneCell' = true)
    (h63 : n + m ≤ maxLen) (hbytes : (n + m) * bytes ≤ 140737488355328)
    (h : ∀ v' w', w'.ownsRow base e size v' (n + m) (xs ++ news) → w.grownBy w' v.ownBlock → (v' = .slice none 0 0 ↔ v = .slice none 0 0 ∧ m = 0) → (v'.ownBlock = v.ownBlock ∨ v'.ownBlock = some w.heap.size) → K (a.put o.dst v') w') :
    Oper.wp P o a w K Q := by
  obtain ⟨v', w', hr, h2, h3, h4, h5⟩ := run_append_srcB (P := P) w t o.type e i z size bytes ht hi hz hsize hby hzs hsz base hbase v n xs hown A m c news hl hnews h1 h63 hbytes
  unfold Oper.wp execOp
  simp only [ho, resolve, invoke, builtin, Sem.run_bind, Sem.run_pure, Result.andThen_ok, List.map_toArray, List.map_cons, List.map_nil, hs, hx, hr]
  exact h v' w' h2 h3 h4 h5
/-- At a step of a walk through a region. -/
theorem step_append_srcB {ops : Array Oper} {o : Oper} {a : Act} {K : Act → World → Prop} {Q : Exit → Act → World → Prop} {E : Prop} (hgd : o.guard = none) (s x : Operand) (t : TypeId)
    (ho : o.op = .call { callee := .builtin .append, args := #[s, x], argTypes := #[t, t] })
    (e : TypeId) (i : TypeInfo) (z : Value) (size bytes : Nat) (ht : P.underlying t = some (.slice e)) (hi : P.info? e = some i) (hz : i.zero = some z)
    (hsize : i.size = size) (hby : i.bytes = bytes) (hzs : z.cells.size = size) (hsz : 0 < size)
    (base : Nat) (hbase : base ≤ w.heap.size) (v : Value) (n : Nat) (xs : List Value) (hs : a.eval s = v) (hown : w.ownsRow base e size v n xs)
    (A : Option Addr) (m c : Nat) (news : List Value) (hx : a.eval x = .slice A m c) (hl : news.length = m * size)
    (hnews : 0 < m → ∃ ad, A = some ad ∧ ∀ j u, news[j]? = some u → w.cell? (ad.add j) = some u) (h1 : ∀ u ∈ news, u.oneCell' = true)
    (h63 : n + m ≤ maxLen) (hbytes : (n + m) * bytes ≤ 140737488355328)
    (h : ∀ v' w', w'.ownsRow base e size v' (n + m) (xs ++ news) → w.grownBy w' v.ownBlock → (v' = .slice none 0 0 ↔ v = .slice none 0 0 ∧ m = 0) → (v'.ownBlock = v.ownBlock ∨ v'.ownBlock = some w.heap.size) → K (a.put o.dst v') w') :
    if Region.wanted o (yielded ops a.tmps) = true then Oper.wp P o a w K Q else E := by
  rw [if_pos (by simp [Region.wanted, hgd])]
  exact wp_append_srcB w s x t ho e i z size bytes ht hi hz hsize hby hzs hsz base hbase v n xs hs hown A m c news hx hl hnews h1 h63 hbytes h
theorem wpList_append_srcB {ops : Array Oper} {rest : List Oper} {o : Oper} {a : Act} {Q : Exit → Act → World → Prop} (hgd : o.guard = none) (s x : Operand) (t : TypeId)
    (ho : o.op = .call { callee := .builtin .append, args := #[s, x], argTypes := #[t, t] })
    (e : TypeId) (i : TypeInfo) (z : Value) (size bytes : Nat) (ht : P.underlying t = some (.slice e)) (hi : P.info? e = some i) (hz : i.zero = some z)
    (hsize : i.size = size) (hby : i.bytes = bytes) (hzs : z.cells.size = size) (hsz : 0 < size)
    (base : Nat) (hbase : base ≤ w.heap.size) (v : Value) (n : Nat) (xs : List Value) (hs : a.eval s = v) (hown : w.ownsRow base e size v n xs)
    (A : Option Addr) (m c : Nat) (news : List Value) (hx : a.eval x = .slice A m c) (hl : news.length = m * size)
    (hnews : 0 < m → ∃ ad, A = some ad ∧ ∀ j u, news[j]? = some u → w.cell? (ad.add j) = some u) (h1 : ∀ u ∈ news, u.oneCell' = true)
    (h63 : n + m ≤ maxLen) (hbytes : (n + m) * bytes ≤ 140737488355328)
    (h : ∀ v' w', w'.ownsRow base e size v' (n + m) (xs ++ news) → w.grownBy w' v.ownBlock → (v' = .slice none 0 0 ↔ v = .slice none 0 0 ∧ m = 0) → (v'.ownBlock = v.ownBlock ∨ v'.ownBlock = some w.heap.size) → wpList P ops Q rest (a.put o.dst v') w') :
    wpList P ops Q (o :: rest) a w :=
  wpList_plain hgd fun _ hK => wp_append_srcB w s x t ho e i z size bytes ht hi hz hsize hby hzs hsz base hbase v n xs hs hown A m c news hx hl hnews h1 h63 hbytes (fun v' w' a b c d => hK _ _ (h v' w' a b c d))
end
section
variable {P : Program} {α : Type} {r : RepT α} (w : World)
/-- APPEND OF ONE ELEMENT, at a list of operations. -/
theorem wpList_append_R {ops : Array Oper} {rest : List Oper} {o : Oper} {a : Act} {Q : Exit → Act → World → Prop} (hgd : o.guard = none) (s x : Operand) (t : TypeId)
    (ho : o.op = .call { callee := .builtin .append, args := #[s, x], argTypes := #[t, t] })
    (e : TypeId) (i : TypeInfo) (z : Value) (bytes : Nat) (ht : P.underlying t = some (.slice e)) (hi : P.info? e = some i) (hz : i.zero = some z)
    (hsize : i.size = r.size) (hby : i.bytes = bytes) (hzs : z.cells.size = r.size) (hsz : 0 < r.size)
    (base : Nat) (hbase : base ≤ w.heap.size) (v : Value) (l : List α) (hs : a.eval s = v) (hown : OwnR r e base w v l)
    (A : Option Addr) (m c : Nat) (l2 : List α) (css2 : List (List Value)) (hx : a.eval x = .slice A m c) (hm : m = l2.length)
    (hnews : 0 < m → ∃ ad, A = some ad ∧ ∀ j u, css2.flatten[j]? = some u → w.cell? (ad.add j) = some u) (h1 : ∀ u ∈ css2.flatten, u.oneCell' = true)
    (he2 : Each2 (fun a cs => r.rep (Aside w v) w a cs) l2 css2)
    (h63 : l.length + m ≤ maxLen) (hbytes : (l.length + m) * bytes ≤ 140737488355328)
    (h : ∀ v' w', OwnR r e base w' v' (l ++ l2) → w.grownBy w' v.ownBlock → (v'.ownBlock = v.ownBlock ∨ v'.ownBlock = some w.heap.size) → wpList P ops Q rest (a.put o.dst v') w') :
    wpList P ops Q (o :: rest) a w := by
  have hown' := hown
  have hcs := Classical.choose_spec hown
  have hl2 : css2.flatten.length = m * r.size := by
    have hall : ∀ cs ∈ css2, cs.length = r.size := fun cs hcs => by
      obtain ⟨k, hk, rfl⟩ := List.getElem_of_mem hcs
      obtain ⟨_, h3⟩ := he2.get k (by rw [he2.length]; exact hk)
      exact r.len h3
    rw [hm, he2.length, List.length_flatten, List.map_congr_left hall]
    exact sum_const _ _
  refine wpList_append_srcB w hgd s x t ho e i z r.size bytes ht hi hz hsize hby hzs hsz base hbase v l.length _ hs hcs.1 A m c css2.flatten hx hl2 hnews h1 h63 hbytes (fun v' w' g1 g2 g3 g4 => h v' w' ?_ g2 g4)
  subst hm
  exact OwnR.grown hown' (by rw [List.length_append]; exact g1) g2 g4 he2
end
end Go.Proofs.Ythhhhjllpejpgaa
