/-
  How data with depth lie in memory: a value's cells against what they stand for (RepT), rows of such (RowR); arguments opened as such. Over any program.
-/
import Derived.Test.YthhhhjllpejpgaaOpen
import Derived.Test.YthhhhjllpejpgaaRange
namespace Go.Proofs.Ythhhhjllpejpgaa
open Go.RowKit Go.ChangeShapes Go.WideShapes Go.Deep

/-- Cells that stand for an α: how many; which, where what they point to lies in blocks of D; nothing else of memory is asked. -/
structure RepT (α : Type) where
  size : Nat
  rep : (Nat → Prop) → World → α → List Value → Prop
  len : ∀ {D : Nat → Prop} {w : World} {a : α} {cs : List Value}, rep D w a cs → cs.length = size
  keep : ∀ {D D' : Nat → Prop} {w w' : World} {a : α} {cs : List Value}, w.heap.size ≤ w'.heap.size → (∀ k, D k → k < w.heap.size → D' k ∧ w'.heap[k]? = w.heap[k]?) → rep D w a cs → rep D' w' a cs
/-- The slice '.slice A l.length c' holds the list l. -/
def RowR {α : Type} (r : RepT α) (D : Nat → Prop) (w : World) (A : Option Addr) (c : Nat) (l : List α) : Prop :=
  l.length ≤ c ∧ c ≤ maxLen ∧
    (0 < l.length → ∃ b off, A = some ⟨b, off, none⟩ ∧ D b ∧ b < w.heap.size ∧ ∀ k, (h : k < l.length) → ∃ cs, r.rep D w l[k] cs ∧ ∀ j u, cs[j]? = some u → w.cell? ⟨b, off + k * r.size + j, none⟩ = some u)
section
variable {α : Type} {r : RepT α} {D D' : Nat → Prop} {w w' : World} {A : Option Addr} {c : Nat} {l : List α}
theorem RowR.keep (h : RowR r D w A c l) (hs : w.heap.size ≤ w'.heap.size) (hk : ∀ k, D k → k < w.heap.size → D' k ∧ w'.heap[k]? = w.heap[k]?) : RowR r D' w' A c l := by
  refine ⟨h.1, h.2.1, fun h0 => ?_⟩
  obtain ⟨b, off, h1, h2, h3, h4⟩ := h.2.2 h0
  refine ⟨b, off, h1, (hk b h2 h3).1, by omega, fun k hk' => ?_⟩
  obtain ⟨cs, h5, h6⟩ := h4 k hk'
  exact ⟨cs, r.keep hs hk h5, fun j u hu => (World.cell?_of_block (hk b h2 h3).2).trans (h6 j u hu)⟩
theorem RowR.nil (r : RepT α) (D : Nat → Prop) (w : World) : RowR r D w none 0 [] := ⟨Nat.le_refl _, Nat.zero_le _, fun h => absurd h (by simp)⟩
theorem RowR.cap (h : RowR r D w A c l) : (l.length : Int) ≤ 9223372036854775807 := by have := h.1; have := h.2.1; unfold maxLen at this; omega
theorem RowR.at_ (h : RowR r D w A c l) {k : Nat} (hk : k < l.length) : ∃ b off cs, A = some ⟨b, off, none⟩ ∧ D b ∧ b < w.heap.size ∧ r.rep D w l[k] cs ∧ ∀ j u, cs[j]? = some u → w.cell? ⟨b, off + k * r.size + j, none⟩ = some u := by
  obtain ⟨b, off, h1, h2, h3, h4⟩ := h.2.2 (by omega)
  obtain ⟨cs, h5, h6⟩ := h4 k hk
  exact ⟨b, off, cs, h1, h2, h3, h5, h6⟩
theorem RowR.weaken (h : RowR r D w A c l) (hD : ∀ k, D k → D' k) : RowR r D' w A c l := h.keep (Nat.le_refl _) (fun k hk _ => ⟨hD k hk, rfl⟩)
theorem RowR.new_ (h : RowR r D w A c l) (hb : Below w.heap.size w w') : RowR r D w' A c l := h.keep hb.size (fun k hk hl => ⟨hk, hb.block k hl⟩)
theorem RowR.fr {M : Nat → Prop} (h : RowR r D w A c l) (hb : Fr M w w') (hm : ∀ k, D k → ¬ M k) : RowR r D w' A c l := h.keep hb.size (fun k hk hl => ⟨hk, hb.block k hl (hm k hk)⟩)
theorem RowR.prefix_ (h : RowR r D w A c l) (n : Nat) : RowR r D w A c (l.take n) := by
  refine ⟨by simp; have := h.1; omega, h.2.1, fun h0 => ?_⟩
  obtain ⟨b, off, h1, h2, h3, h4⟩ := h.2.2 (by simp at h0; omega)
  exact ⟨b, off, h1, h2, h3, fun k hk => by rw [List.getElem_take]; exact h4 k (by simp at hk; omega)⟩
end
/-- Cells alone. -/
def RepT.flat {α : Type} (size : Nat) (cells : α → List Value) (h : ∀ a, (cells a).length = size) : RepT α :=
  ⟨size, fun _ _ a cs => cs = cells a, by rintro _ _ _ _ rfl; exact h _, by rintro _ _ _ _ _ _ _ _ h; exact h⟩
theorem RowR.rd {α : Type} {size : Nat} {cells : α → List Value} {hs : ∀ a, (cells a).length = size} {D : Nat → Prop} {w : World} {A : Option Addr} {c : Nat} {l : List α} (h : RowR (RepT.flat size cells hs) D w A c l) : RowRd w size cells A c l := by
  refine ⟨h.1, h.2.1, fun h0 => ?_⟩
  obtain ⟨b, off, h1, h2, h3, h4⟩ := h.2.2 h0
  refine ⟨b, off, h1, h3, fun k hk j u hu => ?_⟩
  obtain ⟨cs, h5, h6⟩ := h4 k hk
  have h5' : cs = cells l[k] := h5
  exact h6 j u (by rw [h5']; exact hu)
theorem RowR.ain {α : Type} {r : RepT α} {D : Nat → Prop} {w : World} {A : Option Addr} {c : Nat} {l : List α} (h : RowR r D w A c l) (h0 : 0 < l.length) : AIn A D := by
  obtain ⟨b, off, rfl, h2, _⟩ := h.2.2 h0
  intro a ha; cases ha; exact h2
theorem RowR.of_rd {α : Type} {size : Nat} {cells : α → List Value} {hs : ∀ a, (cells a).length = size} {D : Nat → Prop} {w : World} {A : Option Addr} {c : Nat} {l : List α} (h : RowRd w size cells A c l) (hA : AIn A D) : RowR (RepT.flat size cells hs) D w A c l := by
  refine ⟨h.1, h.2.1, fun h0 => ?_⟩
  obtain ⟨b, off, h1, h2, h3⟩ := h.2.2 h0
  exact ⟨b, off, h1, hA _ h1, h2, fun k hk => ⟨_, rfl, h3 k hk⟩⟩
/-- A slice of such. -/
def RepT.list {α : Type} (r : RepT α) : RepT (List α) :=
  ⟨1, fun D w l cs => ∃ A c, cs = [.slice A l.length c] ∧ RowR r D w A c l, by rintro _ _ _ _ ⟨_, _, rfl, _⟩; rfl, by
    rintro _ _ _ _ _ _ hs hk ⟨A, c, h1, h2⟩; exact ⟨A, c, h1, h2.keep hs hk⟩⟩

/-! ### arguments opened -/
/-- What reads as a value of type t stands for an α. -/
def Opens {α : Type} (P : Program) (t : TypeId) (r : RepT α) : Prop :=
  P.cellsOf t = r.size ∧ ∀ (H : Type) (enc : TypeId × Value → H) (w : World) (base : Nat) (spare : Nat → Bool) (held : Bool) (n : Nat) (cs : List Value) (x : DataW H × List MemPlace),
    DataW.trod enc P w base spare held n t cs = some x → ∃ a : α, r.rep (· < w.heap.size) w a cs
theorem opens_of_reads {α : Type} {P : Program} {t : TypeId} {size : Nat} {cells : α → List Value} (hs : ∀ a, (cells a).length = size) (h : Reads P t size cells) : Opens P t (RepT.flat size cells hs) :=
  ⟨h.1, fun H enc w base spare held n cs x hx => h.2 H enc w base spare held n cs x hx⟩
theorem row_of_trod {H : Type} {enc : TypeId × Value → H} {P : Program} {w : World} {base : Nat} {spare : Nat → Bool} {held : Bool} {α : Type} {r : RepT α} {t e : TypeId} {fuel : Nat} {cs : List Value} {x : DataW H × List MemPlace}
    (ht : P.underlying t = some (.slice e)) (h0 : 0 < r.size) (hr : P.cellsOf e = r.size) (hE : ∀ n cs x, DataW.trod enc P w base spare held n e cs = some x → ∃ a : α, r.rep (· < w.heap.size) w a cs)
    (hf : DataW.trod enc P w base spare held fuel t cs = some x) : ∃ A c, ∃ l : List α, cs = [.slice A l.length c] ∧ RowR r (· < w.heap.size) w A c l := by
  rcases open_slice ht hf with ⟨h1, _⟩ | ⟨a, len, cap, m, n, Dd, Pl, h1, _, hl, hm, hmm, _, hx⟩
  · exact ⟨none, 0, [], h1, RowR.nil _ _ _⟩
  · have hlm : len ≤ m := by rw [hmm]; split <;> omega
    obtain ⟨l, hll, hq⟩ := list_of (α := α) (Q := fun i x => ∃ cs', r.rep (· < w.heap.size) w x cs' ∧ ∀ j u, cs'[j]? = some u → w.cell? ((a.add (i * r.size)).add j) = some u) len (fun i hi => by
      obtain ⟨cs', c1, c2⟩ := hx i (by omega)
      obtain ⟨x, hrep⟩ := hE n cs' _ c2
      obtain ⟨_, hlen, hcell⟩ := World.cells?_some c1
      rw [hr] at hcell hlen
      exact ⟨x, cs', hrep, fun j u hu => (hcell j (by rw [← hlen]; exact (List.getElem?_eq_some_iff.1 hu).1)).trans hu⟩)
    subst hll
    refine ⟨some a, cap, l, h1, hl, hm, fun hpos => ?_⟩
    obtain ⟨cs', c1, c2⟩ := hx 0 (by omega)
    obtain ⟨_, hlen, hcell⟩ := World.cells?_some c1
    rw [hr] at hlen hcell
    have hspot : a.spot = none := by
      have := hcell 0 h0
      rw [List.getElem?_eq_getElem (by omega)] at this
      have e2 : (a.add (0 * r.size)).add 0 = a := by simp [Addr.add]
      rw [e2] at this
      exact World.cell?_spot this
    obtain ⟨b, off, spot⟩ := a
    simp only at hspot
    subst hspot
    have hbl : b < w.heap.size := by
      have := hcell 0 h0
      rw [List.getElem?_eq_getElem (by omega)] at this
      have e2 : ((⟨b, off, none⟩ : Addr).add (0 * r.size)).add 0 = ⟨b, off, none⟩ := by simp [Addr.add]
      rw [e2] at this
      exact World.block_lt_of_cell? w _ this
    refine ⟨b, off, rfl, hbl, hbl, fun k hk => ?_⟩
    obtain ⟨cs2, g1, g2⟩ := hq k hk
    refine ⟨cs2, g1, fun j u hu => ?_⟩
    have := g2 j u hu
    rwa [add_plain, add_plain] at this
theorem opens_slice {α : Type} {P : Program} {r : RepT α} {t e : TypeId} (ht : P.underlying t = some (.slice e)) (hc : P.cellsOf t = 1) (h0 : 0 < r.size) (hr : Opens P e r) : Opens P t r.list :=
  ⟨hc, fun H enc w base spare held n cs x h => by
    obtain ⟨A, c, l, h1, h2⟩ := row_of_trod ht h0 hr.1 (fun n cs x h => hr.2 H enc w base spare held n cs x h) h
    exact ⟨l, A, c, h1, h2⟩⟩
/-- A struct's field. -/
theorem trod_field {H : Type} {enc : TypeId × Value → H} {P : Program} {w : World} {base : Nat} {spare : Nat → Bool} {held : Bool} {t : TypeId} {fs : Array Field} {n : Nat} {cs : List Value} {x : DataW H × List MemPlace}
    (ht : P.underlying t = some (.struct fs)) (h : DataW.trod enc P w base spare held n t cs = some x) (i : Nat) {f : Field} (hf : fs[i]? = some f) (ty off sz : Nat) (e1 : f.type = ty) (e2 : f.offset = off) (e3 : P.cellsOf ty = sz) :
    ∃ m y, DataW.trod enc P w base spare held m ty ((cs.drop off).take sz) = some y := by
  obtain ⟨xs, n2, _, _, _, hlen, hx⟩ := DataW.trod_struct ht h
  have h1 := hx i f hf
  subst e1; subst e2; subst e3
  have hi : i < xs.length := by
    have := (Array.getElem?_eq_some_iff.1 hf).1
    omega
  rw [List.getElem?_eq_getElem hi] at h1
  exact ⟨n2, _, h1⟩
theorem trod_len {H : Type} {enc : TypeId × Value → H} {P : Program} {w : World} {base : Nat} {spare : Nat → Bool} {held : Bool} {t : TypeId} {fs : Array Field} {n : Nat} {cs : List Value} {x : DataW H × List MemPlace}
    (ht : P.underlying t = some (.struct fs)) (h : DataW.trod enc P w base spare held n t cs = some x) : cs.length = P.cellsOf t := by
  obtain ⟨_, _, _, _, hl, _⟩ := DataW.trod_struct ht h
  exact hl
/-- An argument that is a slice. -/
theorem open_rowR {H : Type} {enc : TypeId × Value → H} {P : Program} {w : World} {rc : Reach} {b0 base : Nat} {spare : Nat → Bool} {held : Bool} {α : Type} {r : RepT α} {t e : TypeId} {v : Value} {d : DataW H} {ps : List MemPlace}
    (ht : P.underlying t = some (.slice e)) (h0 : 0 < r.size) (hr : Opens P e r) (hval : Value.okWide P w rc b0 t v) (h : DataW.Trod enc P w base spare held t v d ps) :
    ∃ A c, ∃ l : List α, v = .slice A l.length c ∧ RowR r (· < w.heap.size) w A c l := by
  obtain ⟨A, len, cap, rfl⟩ := okWide_slice ht hval
  obtain ⟨fuel, hf⟩ := h
  have hcs : (Value.slice A len cap).cells.toList = [.slice A len cap] := by simp [Value.cells]
  rw [hcs] at hf
  obtain ⟨A', c', l, h1, h2⟩ := row_of_trod ht h0 hr.1 (fun n cs x h => hr.2 H enc w base spare held n cs x h) hf
  simp only [List.cons.injEq, and_true] at h1
  exact ⟨A', c', l, h1, h2⟩
end Go.Proofs.Ythhhhjllpejpgaa
