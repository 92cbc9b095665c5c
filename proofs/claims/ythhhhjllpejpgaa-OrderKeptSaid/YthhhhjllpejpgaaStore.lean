/-
  A whole element stored into an owned row at once, whatever the number of its cells; a whole element read. Over any program.
-/
import Derived.Test.YthhhhjllpejpgaaMem
import Derived.Deep.MidRow
namespace Go.Proofs.Ythhhhjllpejpgaa
open Go.RowKit
theorem Fr.setCells {M : Nat → Prop} {a : World} {g : Nat} : ∀ (vs : List Value) (o : Nat) {b : World}, Fr M a b → (M g ∨ a.heap.size ≤ g) → Fr M a (b.setCells g o vs)
  | [], _, _, h, _ => h
  | v :: vs, o, _, h, hg => Fr.setCells vs (o + 1) (h.setCell (p := ⟨g, o, none⟩) hg v) hg
theorem ownsRow_setCells {g : Nat} {e : TypeId} {size n cap : Nat} : ∀ (vs : List Value) (o : Nat) {w : World} {xs : List Value}, w.ownsRow 0 e size (.slice (some ⟨g, 0, none⟩) n cap) n xs → (w.setCells g o vs).ownsRow 0 e size (.slice (some ⟨g, 0, none⟩) n cap) n ((vs.zipIdx o).foldl (fun l (v, j) => l.set j v) xs)
  | [], _, _, _, h => h
  | v :: vs, o, _, _, h => by
    rw [List.zipIdx_cons, List.foldl_cons]
    exact ownsRow_setCells vs (o + 1) ((h.stored o v).1)
theorem zip_shift : ∀ (vs : List Value) (o s : Nat) (xs : List Value), (vs.zipIdx (o + s)).foldl (fun l (v, j) => l.set j v) xs = (vs.zipIdx s).foldl (fun l (v, j) => l.set (o + j) v) xs
  | [], _, _, _ => rfl
  | v :: vs, o, s, xs => by
    rw [List.zipIdx_cons, List.zipIdx_cons, List.foldl_cons, List.foldl_cons]
    exact zip_shift vs o (s + 1) _
/-- The row behind the store. -/
theorem ownsRow_element {α : Type} {cells : α → List Value} {w : World} {g : Nat} {e : TypeId} {size n cap : Nat} (hsz : ∀ x, (cells x).length = size) (h0 : 0 < size) {l : List α} (h : w.ownsRow 0 e size (.slice (some ⟨g, 0, none⟩) n cap) n (l.flatMap cells)) (k : Nat) (hk : k < l.length) (y : α) :
    (w.setCells g (k * size) (cells y)).ownsRow 0 e size (.slice (some ⟨g, 0, none⟩) n cap) n ((l.set k y).flatMap cells) := by
  have h1 := ownsRow_setCells (w := w) (cells y) (k * size) h
  have h2 := zip_shift (cells y) (k * size) 0 (l.flatMap cells)
  rw [Nat.add_zero] at h2
  rw [h2] at h1
  have h3 := flat_set hsz h0 l k hk y
  unfold setAll at h3
  rw [h3] at h1
  exact h1
/-- At a step of a walk through a region. -/
theorem step_store_el {P : Program} {ops : Array Oper} {o : Oper} {a : Act} {w : World} {K : Act → World → Prop} {Q : Exit → Act → World → Prop} {E : Prop} (hgd : o.guard = none) (ty : TypeId) (x y : Operand) (ho : o.op = .store ty x y)
    (b off : Nat) (cells : Array Value) (hx : a.eval x = .pointer (some ⟨b, off, none⟩)) (hy : a.eval y = .agg cells)
    (ht : w.there b off cells.size) (hi : (P.info? ty).map (·.size) = some cells.size) (h1 : cells.all (·.oneCell') = true)
    (h : K (a.put o.dst undef) (w.setCells b off cells.toList)) : if Region.wanted o (yielded ops a.tmps) = true then Oper.wp P o a w K Q else E := by
  rw [if_pos (by simp [Region.wanted, hgd])]
  exact wp_store_mid ty x y ho b off cells hx hy ht hi h1 h
theorem Blk.farCells {g' : Nat} {t : TypeId} {cs : Array Value} {g : Nat} : ∀ (vs : List Value) (o : Nat) {w : World}, Blk w g' t cs → g' ≠ g → Blk (w.setCells g o vs) g' t cs
  | [], _, _, h, _ => h
  | v :: vs, o, _, h, hn => Blk.farCells vs (o + 1) (h.far (p := ⟨g, o, none⟩) hn v) hn
theorem Room.there {w : World} {g : Nat} {e : TypeId} {m : Nat} (h : Room w g e m) {o n : Nat} (hn : o + n ≤ m) : w.there g o n := fun j hj => by
  obtain ⟨u, hu⟩ := h.cell (i := o + j) (by omega)
  exact ⟨by rw [hu]; rfl, h.frozen _⟩
theorem Blk.range {w : World} {g : Nat} {t : TypeId} {cs : Array Value} (h : Blk w g t cs) : w.rangeAt g 0 cs.toList := fun j v hv => by
  rw [Nat.zero_add, h.cell]; simpa using hv
theorem Blk.there {w : World} {g : Nat} {t : TypeId} {cs : Array Value} (h : Blk w g t cs) : w.there g 0 cs.size := fun j hj => by
  rw [Nat.zero_add]
  exact ⟨by rw [h.cell, Array.getElem?_eq_getElem hj]; rfl, h.frozen j⟩
theorem Below.setCells' {B : Nat} {a : World} {g : Nat} : ∀ (vs : List Value) (o : Nat) {b : World}, Below B a b → B ≤ g → Below B a (b.setCells g o vs)
  | [], _, _, h, _ => h
  | v :: vs, o, _, h, hg => Below.setCells' vs (o + 1) (h.setCell (show B ≤ (⟨g, o, none⟩ : Addr).block from hg) v) hg
/-- A result that lies in memory, at once. -/
theorem results_cell_tmp {P : Program} {fn : Func} {t s : Tmp} {T : TypeId} (h : fn.results = #[.cell t T, .tmp s]) (tmps : Array Value) (w : World) (g : Nat) (cs : List Value) (d : TypeDesc) (ht : tmps.getD t undef = .pointer (some ⟨g, 0, none⟩)) (hc : w.rangeAt g 0 cs)
    (hu : P.underlying T = some d) (hd : d.isRow = true) (hi : (P.info? T).map (·.size) = some cs.length) : (results fn tmps).run P w = .ok (.tuple #[.agg cs.toArray, tmps.getD s undef]) w := by
  have hl := run_loadVar_mid (P := P) w g 0 T cs d hc hu hd hi
  have ht' : tmps[t]?.getD undef = .pointer (some ⟨g, 0, none⟩) := by simpa using ht
  simp [results, h, ht', Sem.run_bind, asAddr, hl]
theorem results_cell {P : Program} {fn : Func} {t : Tmp} {T : TypeId} (h : fn.results = #[.cell t T]) (tmps : Array Value) (w : World) (g : Nat) (cs : List Value) (d : TypeDesc) (ht : tmps.getD t undef = .pointer (some ⟨g, 0, none⟩)) (hc : w.rangeAt g 0 cs)
    (hu : P.underlying T = some d) (hd : d.isRow = true) (hi : (P.info? T).map (·.size) = some cs.length) : (results fn tmps).run P w = .ok (.agg cs.toArray) w := by
  have hl := run_loadVar_mid (P := P) w g 0 T cs d hc hu hd hi
  have ht' : tmps[t]?.getD undef = .pointer (some ⟨g, 0, none⟩) := by simpa using ht
  simp [results, h, ht', Sem.run_bind, asAddr, hl]
theorem RowRd.range {α : Type} {w : World} {size c : Nat} {cells : α → List Value} {A : Option Addr} {l : List α} (h : RowRd w size cells A c l) {k : Nat} (hk : k < l.length) : ∃ b off, A = some ⟨b, off, none⟩ ∧ b < w.heap.size ∧ w.rangeAt b (off + k * size) (cells l[k]) := by
  obtain ⟨b, off, h1, h2, h3⟩ := h.at_ hk
  exact ⟨b, off, h1, h2, fun j v hv => h3 j v hv⟩
theorem rangeAt_below {w w' : World} {B g o : Nat} {cs : List Value} (h : w.rangeAt g o cs) (hb : Below B w w') (hg : g < B) : w'.rangeAt g o cs := fun j v hv => (hb.cell (p := ⟨g, o + j, none⟩) hg).trans (h j v hv)
end Go.Proofs.Ythhhhjllpejpgaa
