/-
  Memory words of my own, over any program: what a step may change (Fr), a row that reads as a list (RowRd), a row that is owned.
-/
import Derived.WalkKit
import Derived.WalkSpells
import Derived.WalkLawsBesides
import Derived.Lib.Hide
import Derived.Deep.QuietTactic
import Derived.BigQuiet
import Derived.Deep.RegionHeld3
import Derived.Deep.AppendLies
import Derived.Maps.AppendAt
import Derived.StillTailTactics
namespace Go.Proofs.Ythhhhjllpejpgaa
open Go.RowKit

theorem bcell {W w1 : World} (hb : Below W.heap.size W w1) : (∀ b o, b < W.heap.size → w1.cell? ⟨b, o, none⟩ = W.cell? ⟨b, o, none⟩) ∧ (∀ b o, b < W.heap.size → w1.frozen? ⟨b, o, none⟩ = W.frozen? ⟨b, o, none⟩) :=
  ⟨fun b o h => hb.cell (p := ⟨b, o, none⟩) h, fun b o h => hb.frozen (p := ⟨b, o, none⟩) h⟩
theorem Below.drewN' {B : Nat} {a w : World} (h : Below B a w) (n : Nat) : Below B a (w.drewN n) := ⟨h.os, h.tape, h.output, h.size, h.block⟩

/-- Blocks outside M lie as they lay. -/
structure Fr (M : Nat → Prop) (w w' : World) : Prop where
  os : w'.os = w.os
  tape : w'.tape = w.tape
  output : w'.output = w.output
  size : w.heap.size ≤ w'.heap.size
  block : ∀ k, k < w.heap.size → ¬ M k → w'.heap[k]? = w.heap[k]?
section
variable {M M' : Nat → Prop} {a b c w w' : World}
theorem Fr.refl (M : Nat → Prop) (w : World) : Fr M w w := ⟨rfl, rfl, rfl, Nat.le_refl _, fun _ _ _ => rfl⟩
theorem Fr.trans (h : Fr M a b) (k : Fr M b c) : Fr M a c :=
  ⟨k.os.trans h.os, k.tape.trans h.tape, k.output.trans h.output, Nat.le_trans h.size k.size, fun i hi hn => (k.block i (Nat.lt_of_lt_of_le hi h.size) hn).trans (h.block i hi hn)⟩
theorem Fr.mono (h : Fr M a b) (hm : ∀ k, k < a.heap.size → M k → M' k) : Fr M' a b := ⟨h.os, h.tape, h.output, h.size, fun k hk hn => h.block k hk (fun h => hn (hm k hk h))⟩
theorem Fr.of_below {B : Nat} (h : Below B a b) : Fr (fun k => B ≤ k) a b := ⟨h.os, h.tape, h.output, h.size, fun k _ hn => h.block k (by omega)⟩
theorem Fr.of_new (h : Below a.heap.size a b) : Fr M a b := ⟨h.os, h.tape, h.output, h.size, fun k hk _ => h.block k hk⟩
theorem Fr.below {B : Nat} (h : Fr M a b) (hB : B ≤ a.heap.size) (hm : ∀ k, k < B → ¬ M k) : Below B a b := ⟨h.os, h.tape, h.output, h.size, fun k hk => h.block k (by omega) (hm k hk)⟩
theorem Fr.alloc (h : Fr M a b) (o : Obj) : Fr M a (b.alloc o) :=
  ⟨h.os, h.tape, h.output, Nat.le_trans h.size (by simp), fun k hk hn => (Below.heap_alloc b o k (Nat.lt_of_lt_of_le hk h.size)).trans (h.block k hk hn)⟩
theorem Fr.drew (h : Fr M a b) : Fr M a b.drew := ⟨h.os, h.tape, h.output, h.size, h.block⟩
theorem Fr.drewN (h : Fr M a b) (n : Nat) : Fr M a (b.drewN n) := ⟨h.os, h.tape, h.output, h.size, h.block⟩
theorem Fr.setCell (h : Fr M a b) {p : Addr} (hp : M p.block ∨ a.heap.size ≤ p.block) (u : Value) : Fr M a (b.setCell p u) :=
  ⟨h.os, h.tape, h.output, by simpa [World.setCell] using h.size, fun k hk hn => (Below.heap_setCell b p u k (by
    rintro rfl
    rcases hp with hp | hp
    · exact hn hp
    · omega)).trans (h.block k hk hn)⟩
theorem Fr.grown {row : Option Nat} (h : Fr M a b) (hg : b.grownBy c row) (hr : ∀ k, row = some k → M k ∨ a.heap.size ≤ k) : Fr M a c :=
  ⟨hg.os.trans h.os, hg.tape.trans h.tape, hg.output.trans h.output, Nat.le_trans h.size hg.size, fun k hk hn => (hg.block k (Nat.lt_of_lt_of_le hk h.size) (fun e => by
    rcases hr k e.symm with h' | h'
    · exact hn h'
    · omega)).trans (h.block k hk hn)⟩
theorem Fr.into (h : Fr M a b) (k : Fr M' b c) (hm : ∀ i, M' i → M i ∨ a.heap.size ≤ i) : Fr M a c :=
  ⟨k.os.trans h.os, k.tape.trans h.tape, k.output.trans h.output, Nat.le_trans h.size k.size, fun i hi hn => (k.block i (Nat.lt_of_lt_of_le hi h.size) (fun hM => by
    rcases hm i hM with h' | h'
    · exact hn h'
    · omega)).trans (h.block i hi hn)⟩
theorem Fr.cell (h : Fr M w w') {p : Addr} (hp : p.block < w.heap.size) (hn : ¬ M p.block) : w'.cell? p = w.cell? p := World.cell?_of_block (h.block _ hp hn)
theorem Fr.frozen (h : Fr M w w') {p : Addr} (hp : p.block < w.heap.size) (hn : ¬ M p.block) : w'.frozen? p = w.frozen? p := World.frozen?_of_block (h.block _ hp hn)
end

/-- Block g is just these cells, none of them frozen. -/
def Blk (w : World) (g : Nat) (t : TypeId) (cs : Array Value) : Prop := w.heap[g]? = some (.cells cs t (0, 0))
section
variable {w w' : World} {g : Nat} {t : TypeId} {cs : Array Value}
theorem Blk.lt (h : Blk w g t cs) : g < w.heap.size := by
  rcases Nat.lt_or_ge g w.heap.size with hlt | hge
  · exact hlt
  · unfold Blk at h; rw [Array.getElem?_eq_none hge] at h; cases h
theorem Blk.cell (h : Blk w g t cs) (i : Nat) : w.cell? ⟨g, i, none⟩ = cs[i]? := cell_of_row w g i cs t (0, 0) h
theorem Blk.frozen (h : Blk w g t cs) (i : Nat) : w.frozen? ⟨g, i, none⟩ = false := by unfold Blk at h; simp [World.frozen?, h]
theorem Blk.new (w : World) (t : TypeId) (cs : Array Value) : Blk (w.alloc (.cells cs t)) w.heap.size t cs := heap_alloc_new w _
theorem Blk.drew (h : Blk w g t cs) : Blk w.drew g t cs := h
theorem Blk.drewN (h : Blk w g t cs) (n : Nat) : Blk (w.drewN n) g t cs := h
theorem Blk.alloc (h : Blk w g t cs) (o : Obj) : Blk (w.alloc o) g t cs := (Below.heap_alloc w o g h.lt).trans h
theorem Blk.set_ (h : Blk w g t cs) (i : Nat) (u : Value) : Blk (w.setCell ⟨g, i, none⟩ u) g t (cs.setIfInBounds i u) := by
  unfold Blk at h ⊢
  simp [World.setCell, Array.getElem?_modify, h]
theorem Blk.far (h : Blk w g t cs) {p : Addr} (hp : g ≠ p.block) (u : Value) : Blk (w.setCell p u) g t cs := (Below.heap_setCell w p u g hp).trans h
theorem Blk.below {B : Nat} (h : Blk w g t cs) (hb : Below B w w') (hg : g < B) : Blk w' g t cs := (hb.block g hg).trans h
theorem Blk.new_ (h : Blk w g t cs) (hb : Below w.heap.size w w') : Blk w' g t cs := h.below hb h.lt
theorem Blk.fr {M : Nat → Prop} (h : Blk w g t cs) (hb : Fr M w w') (hg : ¬ M g) : Blk w' g t cs := (hb.block g h.lt hg).trans h
theorem Blk.grown {row : Option Nat} (h : Blk w g t cs) (hb : w.grownBy w' row) (hg : row ≠ some g) : Blk w' g t cs := (hb.block g h.lt (fun e => hg e.symm)).trans h
theorem Blk.ne_ {g' : Nat} {t' : TypeId} {cs' : Array Value} (h : Blk w g t cs) (h' : Blk w g' t' cs') (hne : t ≠ t') : g ≠ g' := by
  rintro rfl
  unfold Blk at h h'
  rw [h] at h'
  injection h' with h'
  injection h' with _ ht
  exact hne ht
theorem own_blk_ne {base : Nat} {e : TypeId} {size n : Nat} {v : Value} {xs : List Value} (h : w.ownsRow base e size v n xs) (hg : Blk w g t cs) (hne : e ≠ t) : v.ownBlock ≠ some g := by
  rcases h.2 with ⟨rfl, _⟩ | ⟨g', cap, cur, rfl, _, hh, _⟩
  · simp [Value.ownBlock]
  · intro he
    have : g' = g := by simpa [Value.ownBlock] using he
    subst this
    exact Blk.ne_ (t := e) hh hg hne rfl
end

/-! ### a row that reads as a list -/
/-- The slice '.slice A l.length c' holds the list l, each element by its cells; nothing is said of who may write it. -/
def RowRd {α : Type} (w : World) (size : Nat) (cells : α → List Value) (A : Option Addr) (c : Nat) (l : List α) : Prop :=
  l.length ≤ c ∧ c ≤ maxLen ∧
    (0 < l.length → ∃ b off, A = some ⟨b, off, none⟩ ∧ b < w.heap.size ∧ ∀ k, (h : k < l.length) → ∀ j u, (cells l[k])[j]? = some u → w.cell? ⟨b, off + k * size + j, none⟩ = some u)
/-- Where a slice lies, if anywhere. -/
def AIn (A : Option Addr) (S : Nat → Prop) : Prop := ∀ a, A = some a → S a.block
section
variable {α : Type} {w w' : World} {size c : Nat} {cells : α → List Value} {A : Option Addr} {l : List α}
theorem AIn.mono {S S' : Nat → Prop} (h : AIn A S) (hs : ∀ k, S k → S' k) : AIn A S' := fun a e => hs _ (h a e)
theorem AIn.none_ (S : Nat → Prop) : AIn none S := fun _ e => by cases e
theorem RowRd.nil (w : World) (size : Nat) (cells : α → List Value) : RowRd w size cells none 0 ([] : List α) := ⟨Nat.le_refl _, Nat.zero_le _, fun h => absurd h (by simp)⟩
theorem RowRd.at_ (h : RowRd w size cells A c l) {k : Nat} (hk : k < l.length) : ∃ b off, A = some ⟨b, off, none⟩ ∧ b < w.heap.size ∧ ∀ j u, (cells l[k])[j]? = some u → w.cell? ⟨b, off + k * size + j, none⟩ = some u := by
  obtain ⟨b, off, h1, h2, h3⟩ := h.2.2 (by omega)
  exact ⟨b, off, h1, h2, h3 k hk⟩
theorem RowRd.keep (h : RowRd w size cells A c l) (hs : w.heap.size ≤ w'.heap.size) (hk : ∀ p : Addr, p.block < w.heap.size → (∃ a, A = some a ∧ a.block = p.block) → w'.cell? p = w.cell? p) : RowRd w' size cells A c l := by
  refine ⟨h.1, h.2.1, fun h0 => ?_⟩
  obtain ⟨b, off, rfl, hb, hc⟩ := h.2.2 h0
  exact ⟨b, off, rfl, by omega, fun k hk' j u hu => (hk ⟨b, off + k * size + j, none⟩ hb ⟨_, rfl, rfl⟩).trans (hc k hk' j u hu)⟩
theorem RowRd.new_ (h : RowRd w size cells A c l) (hb : Below w.heap.size w w') : RowRd w' size cells A c l := h.keep hb.size (fun _ hp _ => hb.cell hp)
theorem RowRd.fr {M : Nat → Prop} (h : RowRd w size cells A c l) (hb : Fr M w w') (hm : AIn A (fun k => ¬ M k)) : RowRd w' size cells A c l :=
  h.keep hb.size (fun _ hp ⟨a, ha, hb'⟩ => hb.cell hp (by rw [← hb']; exact hm a ha))
theorem RowRd.drew (h : RowRd w size cells A c l) : RowRd w.drew size cells A c l := h
theorem RowRd.drewN (h : RowRd w size cells A c l) (n : Nat) : RowRd (w.drewN n) size cells A c l := h
theorem RowRd.alloc (h : RowRd w size cells A c l) (o : Obj) : RowRd (w.alloc o) size cells A c l := h.new_ ((Below.refl _ _).alloc (Nat.le_refl _) _)
theorem RowRd.cap (h : RowRd w size cells A c l) : l.length ≤ 9223372036854775807 := by have := h.1; have := h.2.1; unfold maxLen at this; omega
/-- A piece 's[i:j]'. -/
theorem RowRd.prefix_ (h : RowRd w size cells A c l) (n : Nat) : RowRd w size cells A c (l.take n) := by
  refine ⟨by simp; have := h.1; omega, h.2.1, fun h0 => ?_⟩
  obtain ⟨b, off, h1, h2, h3⟩ := h.2.2 (by simp at h0; omega)
  exact ⟨b, off, h1, h2, fun k hk j u hu => h3 k (by simp at hk; omega) j u (by rw [← hu]; simp)⟩
theorem RowRd.of_cells {b off : Nat} (h1 : l.length ≤ c) (h2 : c ≤ maxLen) (hb : b < w.heap.size) (h : ∀ k, (h : k < l.length) → ∀ j u, (cells l[k])[j]? = some u → w.cell? ⟨b, off + k * size + j, none⟩ = some u) : RowRd w size cells (some ⟨b, off, none⟩) c l :=
  ⟨h1, h2, fun _ => ⟨b, off, rfl, hb, h⟩⟩
end

/-- The flat cells of a list of elements of one size. -/
theorem flat_get {α : Type} {cells : α → List Value} {size : Nat} (hsz : ∀ x, (cells x).length = size) : ∀ (l : List α) (k : Nat) (h : k < l.length) (j : Nat), j < size → (l.flatMap cells)[k * size + j]? = (cells l[k])[j]?
  | x :: l, 0, _, j, hj => by
    rw [List.flatMap_cons, List.getElem?_append_left (by rw [hsz]; omega)]; simp
  | x :: l, k + 1, h, j, hj => by
    rw [List.flatMap_cons, List.getElem?_append_right (by rw [hsz, Nat.add_mul]; omega), hsz]
    rw [show (k + 1) * size + j - size = k * size + j by rw [Nat.add_mul]; omega]
    exact flat_get hsz l k (by simpa using h) j hj
theorem flat_length {α : Type} {cells : α → List Value} {size : Nat} (hsz : ∀ x, (cells x).length = size) : ∀ (l : List α), (l.flatMap cells).length = l.length * size
  | [] => by simp
  | x :: l => by rw [List.flatMap_cons, List.length_append, hsz, flat_length hsz l]; simp [Nat.add_mul]; omega
theorem flat_at {α : Type} {cells : α → List Value} {size : Nat} (hsz : ∀ x, (cells x).length = size) (l : List α) (i : Nat) (u : Value) (hu : (l.flatMap cells)[i]? = some u) (h0 : 0 < size) :
    ∃ k j, ∃ h : k < l.length, i = k * size + j ∧ j < size ∧ (cells l[k])[j]? = some u := by
  have hi : i < l.length * size := by
    have := (List.getElem?_eq_some_iff.1 hu).1
    rwa [flat_length hsz] at this
  have hk : i / size < l.length := Nat.div_lt_of_lt_mul (by rw [Nat.mul_comm]; exact hi)
  have hj : i % size < size := Nat.mod_lt _ h0
  have e : i = i / size * size + i % size := by rw [Nat.mul_comm]; exact (Nat.div_add_mod i size).symm
  refine ⟨i / size, i % size, hk, e, hj, ?_⟩
  rw [← flat_get hsz l _ hk _ hj, ← e]; exact hu

/-! ### rows that are owned -/
/-- Block g has room for cap elements of type e. -/
def Room (w : World) (g : Nat) (e : TypeId) (cells : Nat) : Prop := ∃ cur, w.heap[g]? = some (.cells cur e (0, 0)) ∧ cur.size = cells
section
variable {w w' : World} {g : Nat} {e : TypeId} {m size n cap : Nat} {v : Value} {xs : List Value}
theorem Room.lt (h : Room w g e m) : g < w.heap.size := by obtain ⟨cur, h, _⟩ := h; exact Blk.lt (t := e) h
theorem Room.frozen (h : Room w g e m) (i : Nat) : w.frozen? ⟨g, i, none⟩ = false := by obtain ⟨cur, h, _⟩ := h; exact Blk.frozen (t := e) h i
theorem Room.set_ (h : Room w g e m) (i : Nat) (u : Value) : Room (w.setCell ⟨g, i, none⟩ u) g e m := by
  obtain ⟨cur, h, hs⟩ := h
  exact ⟨_, Blk.set_ (t := e) h i u, by simpa using hs⟩
theorem Room.far (h : Room w g e m) {p : Addr} (hp : g ≠ p.block) (u : Value) : Room (w.setCell p u) g e m := by
  obtain ⟨cur, h, hs⟩ := h
  exact ⟨_, Blk.far (t := e) h hp u, hs⟩
theorem Room.drew (h : Room w g e m) : Room w.drew g e m := h
theorem Room.cell (h : Room w g e m) {i : Nat} (hi : i < m) : ∃ u, w.cell? ⟨g, i, none⟩ = some u := by
  obtain ⟨cur, h, hs⟩ := h
  exact ⟨cur[i]'(by omega), by rw [Blk.cell (t := e) h]; exact Array.getElem?_eq_getElem (by omega)⟩
theorem ownsRow_form (h : w.ownsRow 0 e size v n xs) : (v = .slice none 0 0 ∧ n = 0 ∧ xs = []) ∨ ∃ g cap, v = .slice (some ⟨g, 0, none⟩) n cap ∧ n ≤ cap ∧ cap ≤ maxLen ∧ Room w g e (cap * size) ∧ xs.length = n * size ∧ ∀ i u, xs[i]? = some u → w.cell? ⟨g, i, none⟩ = some u := by
  obtain ⟨h1, h2⟩ := h
  rcases h2 with ⟨rfl, rfl⟩ | ⟨g, cap, cur, rfl, _, hg, hn, hc, hs, ht⟩
  · exact .inl ⟨rfl, rfl, List.eq_nil_of_length_eq_zero (by simpa using h1)⟩
  · refine .inr ⟨g, cap, rfl, hn, hc, ⟨cur, hg, hs⟩, h1, fun i u hu => ?_⟩
    rw [Blk.cell (t := e) hg, ← hu, ← ht]
    have hi : i < xs.length := (List.getElem?_eq_some_iff.1 hu).1
    rw [h1] at hi
    simp [hi]
theorem ownsRow_of (hr : Room w g e (cap * size)) (hn : n ≤ cap) (hc : cap ≤ maxLen) (hx : xs.length = n * size) (h : ∀ i u, xs[i]? = some u → w.cell? ⟨g, i, none⟩ = some u) : w.ownsRow 0 e size (.slice (some ⟨g, 0, none⟩) n cap) n xs := by
  obtain ⟨cur, hg, hs⟩ := hr
  refine ⟨hx, .inr ⟨g, cap, cur, rfl, Nat.zero_le _, hg, hn, hc, hs, ?_⟩⟩
  apply List.ext_getElem?
  intro i
  by_cases hi : i < n * size
  · have hxi : i < xs.length := by omega
    have h1 := h i xs[i] (List.getElem?_eq_getElem hxi)
    rw [Blk.cell (t := e) hg] at h1
    rw [List.getElem?_eq_getElem hxi]
    simp [hi, h1]
  · rw [List.getElem?_eq_none (by simp; omega), List.getElem?_eq_none (by omega)]
theorem ownsRow_rd {α : Type} {cells : α → List Value} (hsz : ∀ x, (cells x).length = size) {l : List α} {A : Option Addr} {c : Nat} (h : w.ownsRow 0 e size (.slice A l.length c) l.length (l.flatMap cells)) : RowRd w size cells A c l := by
  rcases ownsRow_form h with ⟨hv, hn, _⟩ | ⟨g, cap, hv, hn, hc, hr, hx, hcell⟩
  · injection hv with _ _ hc
    exact ⟨by omega, by omega, fun h0 => by omega⟩
  · injection hv with hA _ hc'
    subst hA; subst hc'
    refine ⟨hn, hc, fun _ => ⟨g, 0, rfl, hr.lt, fun k hk j u hu => ?_⟩⟩
    have hj : j < size := by have := (List.getElem?_eq_some_iff.1 hu).1; rwa [hsz] at this
    have := hcell (k * size + j) u (by rw [flat_get hsz l k hk j hj]; exact hu)
    simpa using this
theorem ownsRow_fr {M : Nat → Prop} (h : w.ownsRow 0 e size v n xs) (hb : Fr M w w') (hm : ∀ g, v.ownBlock = some g → ¬ M g) : w'.ownsRow 0 e size v n xs := by
  refine ⟨h.1, h.2.imp id fun ⟨g, cap, cur, hv, h0, hg, hr⟩ => ⟨g, cap, cur, hv, h0, ?_, hr⟩⟩
  exact Blk.fr (t := e) hg hb (hm g (by rw [hv]; rfl))
theorem ownsRow_new (h : w.ownsRow 0 e size v n xs) (hb : Below w.heap.size w w') : w'.ownsRow 0 e size v n xs := by
  refine ⟨h.1, h.2.imp id fun ⟨g, cap, cur, hv, h0, hg, hr⟩ => ⟨g, cap, cur, hv, h0, ?_, hr⟩⟩
  exact Blk.new_ (t := e) hg hb
end

theorem ownsRow_prefix {α : Type} {cells : α → List Value} {w : World} {g : Nat} {e : TypeId} {size n cap : Nat} (hsz : ∀ x, (cells x).length = size) (h0 : 0 < size) {l : List α} (h : w.ownsRow 0 e size (.slice (some ⟨g, 0, none⟩) n cap) n (l.flatMap cells)) {m : Nat} (hm : m ≤ n) (hl : l.length = n) :
    w.ownsRow 0 e size (.slice (some ⟨g, 0, none⟩) m cap) m ((l.take m).flatMap cells) := by
  rcases ownsRow_form h with ⟨hv, _⟩ | ⟨g', cap', hv, hn, hc, hr, hx, hcell⟩
  · cases hv
  · injection hv with hA _ hc'
    injection hA with hA
    injection hA with hA
    subst hA; subst hc'
    refine ownsRow_of hr (by omega) hc (by rw [flat_length hsz, List.length_take, Nat.min_eq_left (by omega)]) (fun i u hu => ?_)
    obtain ⟨k, j, hk, rfl, hj, hu'⟩ := flat_at hsz _ i u hu h0
    have hk' : k < l.length := by simp at hk; omega
    refine hcell _ u ?_
    rw [flat_get hsz l k hk' j hj]
    rw [List.getElem_take] at hu'
    exact hu'
theorem ownsRow_room {w : World} {g : Nat} {e : TypeId} {size n cap : Nat} {xs : List Value} (h : w.ownsRow 0 e size (.slice (some ⟨g, 0, none⟩) n cap) n xs) : Room w g e (cap * size) ∧ n ≤ cap ∧ cap ≤ maxLen := by
  rcases ownsRow_form h with ⟨hv, _⟩ | ⟨g', cap', hv, hn, hc, hr, _⟩
  · cases hv
  · injection hv with hA _ hc'
    injection hA with hA
    injection hA with hA
    subst hA; subst hc'
    exact ⟨hr, hn, hc⟩

/-! ### append onto an owned row, whatever the source -/
section
variable {P : Program} (w : World)
theorem run_append_src (t ty e : TypeId) (i : TypeInfo) (z : Value) (size bytes : Nat) (ht : P.underlying t = some (.slice e)) (hi : P.info? e = some i) (hz : i.zero = some z)
    (hsize : i.size = size) (hby : i.bytes = bytes) (hzs : z.cells.size = size) (hsz : 0 < size)
    (v : Value) (n : Nat) (xs : List Value) (hown : w.ownsRow 0 e size v n xs) (A : Option Addr) (m c : Nat) (news : List Value) (hl : news.length = m * size)
    (hnews : 0 < m → ∃ ad, A = some ad ∧ ∀ j u, news[j]? = some u → w.cell? (ad.add j) = some u) (h1 : ∀ u ∈ news, u.oneCell' = true)
    (h63 : n + m ≤ maxLen) (hbytes : (n + m) * bytes ≤ 140737488355328) :
    ∃ v' w', (Builtin.append_ #[t, t] ty #[v, .slice A m c]).run P w = .ok v' w' ∧ w'.ownsRow 0 e size v' (n + m) (xs ++ news) ∧ w.grownBy w' v.ownBlock ∧
      (v' = .slice none 0 0 ↔ v = .slice none 0 0 ∧ m = 0) ∧ (v'.ownBlock = v.ownBlock ∨ v'.ownBlock = some w.heap.size) := by
  rcases Nat.eq_zero_or_pos m with rfl | hm
  · have hn : news = [] := List.eq_nil_of_length_eq_zero (by simpa using hl)
    subst hn
    rcases A with _ | ad
    · refine ⟨v, w, ?_, by simpa using hown, World.grownBy.refl w _, by simp, .inl rfl⟩
      rcases hown.2 with ⟨rfl, rfl⟩ | ⟨g, cap, cur, rfl, _, _, hnc, _⟩
      · simp [Builtin.append_, run_underlying ht, sizeOf, typeInfo, hi, Builtin.lenOf, Builtin.firstCells]
      · simp [Builtin.append_, run_underlying ht, sizeOf, typeInfo, hi, Builtin.lenOf, Builtin.firstCells, hnc, storeCells]
    · exact run_append_own_at w 0 t ty e i z size bytes ht hi hz hsize hby hzs hsz v n xs hown ad 0 c [] (by simp) (by simp) (by simp) h63 hbytes (Nat.zero_le _)
  · obtain ⟨ad, rfl, hc⟩ := hnews hm
    exact run_append_own_at w 0 t ty e i z size bytes ht hi hz hsize hby hzs hsz v n xs hown ad m c news hl hc h1 h63 hbytes (Nat.zero_le _)
theorem wp_append_src {o : Oper} {a : Act} {K : Act → World → Prop} {Q : Exit → Act → World → Prop} (s x : Operand) (t : TypeId)
    (ho : o.op = .call { callee := .builtin .append, args := #[s, x], argTypes := #[t, t] })
    (e : TypeId) (i : TypeInfo) (z : Value) (size bytes : Nat) (ht : P.underlying t = some (.slice e)) (hi : P.info? e = some i) (hz : i.zero = some z)
    (hsize : i.size = size) (hby : i.bytes = bytes) (hzs : z.cells.size = size) (hsz : 0 < size)
    (v : Value) (n : Nat) (xs : List Value) (hs : a.eval s = v) (hown : w.ownsRow 0 e size v n xs)
    (A : Option Addr) (m c : Nat) (news : List Value) (hx : a.eval x = .slice A m c) (hl : news.length = m * size)
    (hnews : 0 < m → ∃ ad, A = some ad ∧ ∀ j u, news[j]? = some u → w.cell? (ad.add j) = some u) (h1 : ∀ u ∈ news, u.oneCell' = true)
    (h63 : n + m ≤ maxLen) (hbytes : (n + m) * bytes ≤ 140737488355328)
    (h : ∀ v' w', w'.ownsRow 0 e size v' (n + m) (xs ++ news) → w.grownBy w' v.ownBlock → (v' = .slice none 0 0 ↔ v = .slice none 0 0 ∧ m = 0) → (v'.ownBlock = v.ownBlock ∨ v'.ownBlock = some w.heap.size) → K (a.put o.dst v') w') :
    Oper.wp P o a w K Q := by
  obtain ⟨v', w', hr, h2, h3, h4, h5⟩ := run_append_src (P := P) w t o.type e i z size bytes ht hi hz hsize hby hzs hsz v n xs hown A m c news hl hnews h1 h63 hbytes
  unfold Oper.wp execOp
  simp only [ho, resolve, invoke, builtin, Sem.run_bind, Sem.run_pure, Result.andThen_ok, List.map_toArray, List.map_cons, List.map_nil, hs, hx, hr]
  exact h v' w' h2 h3 h4 h5
/-- At a step of a walk through a region. -/
theorem step_append_src {ops : Array Oper} {o : Oper} {a : Act} {K : Act → World → Prop} {Q : Exit → Act → World → Prop} {E : Prop} (hgd : o.guard = none) (s x : Operand) (t : TypeId)
    (ho : o.op = .call { callee := .builtin .append, args := #[s, x], argTypes := #[t, t] })
    (e : TypeId) (i : TypeInfo) (z : Value) (size bytes : Nat) (ht : P.underlying t = some (.slice e)) (hi : P.info? e = some i) (hz : i.zero = some z)
    (hsize : i.size = size) (hby : i.bytes = bytes) (hzs : z.cells.size = size) (hsz : 0 < size)
    (v : Value) (n : Nat) (xs : List Value) (hs : a.eval s = v) (hown : w.ownsRow 0 e size v n xs)
    (A : Option Addr) (m c : Nat) (news : List Value) (hx : a.eval x = .slice A m c) (hl : news.length = m * size)
    (hnews : 0 < m → ∃ ad, A = some ad ∧ ∀ j u, news[j]? = some u → w.cell? (ad.add j) = some u) (h1 : ∀ u ∈ news, u.oneCell' = true)
    (h63 : n + m ≤ maxLen) (hbytes : (n + m) * bytes ≤ 140737488355328)
    (h : ∀ v' w', w'.ownsRow 0 e size v' (n + m) (xs ++ news) → w.grownBy w' v.ownBlock → (v' = .slice none 0 0 ↔ v = .slice none 0 0 ∧ m = 0) → (v'.ownBlock = v.ownBlock ∨ v'.ownBlock = some w.heap.size) → K (a.put o.dst v') w') :
    if Region.wanted o (yielded ops a.tmps) = true then Oper.wp P o a w K Q else E := by
  rw [if_pos (by simp [Region.wanted, hgd])]
  exact wp_append_src w s x t ho e i z size bytes ht hi hz hsize hby hzs hsz v n xs hs hown A m c news hx hl hnews h1 h63 hbytes h
theorem wpList_append_src {ops : Array Oper} {rest : List Oper} {o : Oper} {a : Act} {Q : Exit → Act → World → Prop} (hgd : o.guard = none) (s x : Operand) (t : TypeId)
    (ho : o.op = .call { callee := .builtin .append, args := #[s, x], argTypes := #[t, t] })
    (e : TypeId) (i : TypeInfo) (z : Value) (size bytes : Nat) (ht : P.underlying t = some (.slice e)) (hi : P.info? e = some i) (hz : i.zero = some z)
    (hsize : i.size = size) (hby : i.bytes = bytes) (hzs : z.cells.size = size) (hsz : 0 < size)
    (v : Value) (n : Nat) (xs : List Value) (hs : a.eval s = v) (hown : w.ownsRow 0 e size v n xs)
    (A : Option Addr) (m c : Nat) (news : List Value) (hx : a.eval x = .slice A m c) (hl : news.length = m * size)
    (hnews : 0 < m → ∃ ad, A = some ad ∧ ∀ j u, news[j]? = some u → w.cell? (ad.add j) = some u) (h1 : ∀ u ∈ news, u.oneCell' = true)
    (h63 : n + m ≤ maxLen) (hbytes : (n + m) * bytes ≤ 140737488355328)
    (h : ∀ v' w', w'.ownsRow 0 e size v' (n + m) (xs ++ news) → w.grownBy w' v.ownBlock → (v' = .slice none 0 0 ↔ v = .slice none 0 0 ∧ m = 0) → (v'.ownBlock = v.ownBlock ∨ v'.ownBlock = some w.heap.size) → wpList P ops Q rest (a.put o.dst v') w') :
    wpList P ops Q (o :: rest) a w :=
  wpList_plain hgd fun _ hK => wp_append_src w s x t ho e i z size bytes ht hi hz hsize hby hzs hsz v n xs hs hown A m c news hx hl hnews h1 h63 hbytes (fun v' w' a b c d => hK _ _ (h v' w' a b c d))
end
/-- The cells of a row that reads, as append asks for them. -/
theorem RowRd.news {α : Type} {w : World} {size c : Nat} {cells : α → List Value} (hsz : ∀ x, (cells x).length = size) (h0 : 0 < size) {A : Option Addr} {l : List α} (h : RowRd w size cells A c l) :
    0 < l.length → ∃ ad, A = some ad ∧ ∀ j u, (l.flatMap cells)[j]? = some u → w.cell? (ad.add j) = some u := by
  intro hl
  obtain ⟨b, off, rfl, _, hc⟩ := h.2.2 hl
  refine ⟨_, rfl, fun j u hu => ?_⟩
  obtain ⟨k, i, hk, rfl, hi, hu'⟩ := flat_at hsz l j u hu h0
  have := hc k hk i u hu'
  unfold Addr.add
  split
  · rename_i hz
    have e : k * size = 0 := by omega
    have e2 : i = 0 := by omega
    rw [e, e2] at this
    simpa using this
  · simpa [Nat.add_assoc] using this
theorem own_form2 {w : World} {e : TypeId} {size n : Nat} {v : Value} {xs : List Value} (h : w.ownsRow 0 e size v n xs) : ∃ A c, v = .slice A n c ∧ n ≤ c ∧ c ≤ maxLen ∧ (∀ a, A = some a → ∃ g, a = ⟨g, 0, none⟩) := by
  rcases ownsRow_form h with ⟨rfl, rfl, _⟩ | ⟨g, cap, rfl, hn, hc, _⟩
  · exact ⟨none, 0, rfl, Nat.le_refl _, Nat.zero_le _, fun a e => by cases e⟩
  · exact ⟨_, cap, rfl, hn, hc, fun a e => ⟨g, by injection e with e; exact e.symm⟩⟩

/-! ### one element of an owned row stored anew -/
def setAll (xs : List Value) (o : Nat) (vs : List Value) : List Value := vs.zipIdx.foldl (fun l (v, j) => l.set (o + j) v) xs
theorem setAll_get (o : Nat) : ∀ (vs : List Value) (s : Nat) (xs : List Value), o + s + vs.length ≤ xs.length →
    ((vs.zipIdx s).foldl (fun l (v, j) => l.set (o + j) v) xs).length = xs.length ∧
    ∀ i, ((vs.zipIdx s).foldl (fun l (v, j) => l.set (o + j) v) xs)[i]? = if o + s ≤ i ∧ i < o + s + vs.length then vs[i - (o + s)]? else xs[i]?
  | [], s, xs, _ => ⟨rfl, fun i => by simp; omega⟩
  | v :: vs, s, xs, h => by
    simp only [List.length_cons] at h
    rw [List.zipIdx_cons, List.foldl_cons]
    obtain ⟨h1, h2⟩ := setAll_get o vs (s + 1) (xs.set (o + s) v) (by simp; omega)
    refine ⟨by rw [h1]; simp, fun i => ?_⟩
    rw [h2]
    simp only [List.length_cons]
    by_cases hi : i = o + s
    · subst hi
      rw [if_neg (by omega), if_pos (by omega), List.getElem?_set_self (by omega), Nat.sub_self, List.getElem?_cons_zero]
    · by_cases hlt : o + (s + 1) ≤ i ∧ i < o + (s + 1) + vs.length
      · rw [if_pos hlt, if_pos (by omega)]
        rw [show i - (o + s) = (i - (o + (s + 1))) + 1 by omega]
        simp
      · rw [if_neg hlt, if_neg (by omega), List.getElem?_set_ne (by omega)]
theorem flat_set {α : Type} {cells : α → List Value} {size : Nat} (hsz : ∀ x, (cells x).length = size) (h0 : 0 < size) (l : List α) (k : Nat) (hk : k < l.length) (y : α) :
    setAll (l.flatMap cells) (k * size) (cells y) = (l.set k y).flatMap cells := by
  have hb : k * size + size ≤ l.length * size := by rw [← Nat.succ_mul]; exact Nat.mul_le_mul_right _ hk
  obtain ⟨h1, h2⟩ := setAll_get (k * size) (cells y) 0 (l.flatMap cells) (by rw [flat_length hsz, hsz]; omega)
  unfold setAll
  apply List.ext_getElem?
  intro i
  rw [h2, hsz]
  by_cases hi : i < l.length * size
  · have hq : i / size < l.length := Nat.div_lt_of_lt_mul (by rw [Nat.mul_comm]; exact hi)
    have hr : i % size < size := Nat.mod_lt _ h0
    have e : i = i / size * size + i % size := by rw [Nat.mul_comm]; exact (Nat.div_add_mod i size).symm
    have r2 : ((l.set k y).flatMap cells)[i]? = (cells ((l.set k y)[i / size]'(by simpa using hq)))[i % size]? := by
      conv => lhs; rw [e]
      exact flat_get hsz _ _ (by simpa using hq) _ hr
    rw [r2]
    by_cases hik : i / size = k
    · have e3 : i - (k * size + 0) = i % size := by rw [← hik]; omega
      rw [if_pos (by rw [hik] at e; omega), e3]
      congr 1
      rw [List.getElem_set]; simp [hik]
    · have hne : ¬ (k * size + 0 ≤ i ∧ i < k * size + 0 + size) := by
        rintro ⟨a, b⟩
        apply hik
        apply Nat.div_eq_of_lt_le
        · omega
        · rw [Nat.add_mul]; omega
      rw [if_neg hne]
      have r1 : (l.flatMap cells)[i]? = (cells l[i / size])[i % size]? := by
        conv => lhs; rw [e]
        exact flat_get hsz _ _ hq _ hr
      rw [r1]
      congr 2
      rw [List.getElem_set]; simp [Ne.symm hik]
  · rw [if_neg (by omega), List.getElem?_eq_none (by rw [flat_length hsz]; omega), List.getElem?_eq_none (by rw [flat_length hsz]; simp; omega)]

/-! ### an ordered set in memory -/
/-- Block b is a set whose list is l: the slice '.slice A l.length c', seen or not. -/
structure SetAt {α : Type} (tSet tE size : Nat) (cells : α → List Value) (w : World) (b : Nat) (sn : Bool) (A : Option Addr) (c : Nat) (l : List α) : Prop where
  blk : Blk w b tSet #[.slice A l.length c, .bool sn]
  row : w.ownsRow 0 tE size (.slice A l.length c) l.length (l.flatMap cells)
/-- What a set's own calls may change. -/
def SetMod (b : Nat) (sn : Bool) (A : Option Addr) : Nat → Prop := fun k => k = b ∨ (sn = false ∧ ∃ a, A = some a ∧ a.block = k)
/-- Where the list lies behind such a call: where it lay, or in new memory that nobody else knows. -/
def Moved (w : World) (sn : Bool) (A : Option Addr) (sn' : Bool) (A' : Option Addr) : Prop :=
  (sn' = sn ∧ A' = A) ∨ (sn' = false ∧ ∃ g, w.heap.size ≤ g ∧ A' = some ⟨g, 0, none⟩)
section
variable {α : Type} {tSet tE size : Nat} {cells : α → List Value} {w w' : World} {b : Nat} {sn : Bool} {A : Option Addr} {c : Nat} {l : List α}
theorem SetAt.lt (h : SetAt tSet tE size cells w b sn A c l) : b < w.heap.size := h.blk.lt
theorem SetAt.cell0 (h : SetAt tSet tE size cells w b sn A c l) : w.cell? ⟨b, 0, none⟩ = some (.slice A l.length c) := (h.blk.cell 0).trans rfl
theorem SetAt.cell1 (h : SetAt tSet tE size cells w b sn A c l) : w.cell? ⟨b, 1, none⟩ = some (.bool sn) := (h.blk.cell 1).trans rfl
theorem SetAt.rd (hsz : ∀ x, (cells x).length = size) (h : SetAt tSet tE size cells w b sn A c l) : RowRd w size cells A c l := ownsRow_rd hsz h.row
theorem SetAt.row_lt (h : SetAt tSet tE size cells w b sn A c l) : AIn A (· < w.heap.size) := by
  intro a e
  subst e
  rcases ownsRow_form h.row with ⟨hv, _⟩ | ⟨g, cap, hv, _, _, hr, _⟩
  · cases hv
  · injection hv with hA
    injection hA with hA
    subst hA
    exact hr.lt
theorem SetAt.row_ne (h : SetAt tSet tE size cells w b sn A c l) (hne : tE ≠ tSet) : AIn A (· ≠ b) := by
  intro a e hb
  have := own_blk_ne h.row h.blk hne
  subst e
  exact this (by simp [Value.ownBlock, hb])
theorem SetAt.fr {M : Nat → Prop} (h : SetAt tSet tE size cells w b sn A c l) (hf : Fr M w w') (hb : ¬ M b) (hA : AIn A (fun k => ¬ M k)) : SetAt tSet tE size cells w' b sn A c l :=
  ⟨h.blk.fr hf hb, ownsRow_fr h.row hf (fun g e => by
    rcases A with _ | a
    · cases e
    · simp only [Value.ownBlock, Option.some.injEq] at e
      subst e
      exact hA a rfl)⟩
theorem SetAt.new_ (h : SetAt tSet tE size cells w b sn A c l) (hf : Below w.heap.size w w') : SetAt tSet tE size cells w' b sn A c l := ⟨h.blk.new_ hf, ownsRow_new h.row hf⟩
end
end Go.Proofs.Ythhhhjllpejpgaa
