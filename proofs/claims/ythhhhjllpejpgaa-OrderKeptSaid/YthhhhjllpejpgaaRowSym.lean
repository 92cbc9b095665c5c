/-
  Arguments of symbols, opened.
-/
import Derived.Test.YthhhhjllpejpgaaOpen
import Derived.Test.YthhhhjllpejpgaaSetLeaf
namespace Go.Proofs.Ythhhhjllpejpgaa
open Go.RowKit Go.ChangeShapes Go.WideShapes Go.Deep
theorem reads_Sym : Reads Try.prog 27 3 Sym.cells :=
  ⟨by kernel_rfl, fun H enc w base spare held n cs x h => by
    obtain ⟨y0, y1, y2, n', _, hl, h0, h1, h2⟩ := trod_struct3 Try.underlying27 h
    have hl3 : cs.length = 3 := hl.trans (by kernel_rfl)
    have c3 : Try.prog.cellsOf 3 = 1 := by kernel_rfl
    have c9 : Try.prog.cellsOf 9 = 1 := by kernel_rfl
    simp only [c3, c9] at h0 h1 h2
    match cs, hl3 with
    | [v0, v1, v2], _ =>
      simp at h0 h1 h2
      obtain ⟨a, e0, _⟩ := DataW.trod_int Try.underlying3 h0
      obtain ⟨b, e1, _⟩ := DataW.trod_string Try.underlying9 h1
      obtain ⟨c, e2, _⟩ := DataW.trod_int Try.underlying3 h2
      simp at e0 e1 e2
      subst e0; subst e1; subst e2
      exact ⟨⟨a, b, c⟩, rfl⟩⟩
end Go.Proofs.Ythhhhjllpejpgaa
