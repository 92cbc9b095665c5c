/-
  Arguments of elements, opened.
-/
import Derived.Test.YthhhhjllpejpgaaRep
import Derived.Test.YthhhhjllpejpgaaRowSym
import Derived.Test.YthhhhjllpejpgaaLeafElem
namespace Go.Proofs.Ythhhhjllpejpgaa
open Go.RowKit Go.ChangeShapes Go.WideShapes Go.Deep
set_option maxRecDepth 100000 in
theorem reads_Elem : Reads Try.prog 72 12 Elem.cells :=
  ⟨by kernel_rfl, fun H enc w base spare held n cs x h => by
    have hl : cs.length = 12 := (trod_len Try.underlying72 h).trans (by kernel_rfl)
    obtain ⟨m0, y0, h0⟩ := trod_field Try.underlying72 h 0 rfl 27 0 3 rfl rfl (by kernel_rfl)
    obtain ⟨m1, y1, h1⟩ := trod_field Try.underlying72 h 1 rfl 27 3 3 rfl rfl (by kernel_rfl)
    obtain ⟨m2, y2, h2⟩ := trod_field Try.underlying72 h 2 rfl 27 6 3 rfl rfl (by kernel_rfl)
    obtain ⟨m3, y3, h3⟩ := trod_field Try.underlying72 h 3 rfl 4 9 1 rfl rfl (by kernel_rfl)
    obtain ⟨m4, y4, h4⟩ := trod_field Try.underlying72 h 4 rfl 4 10 1 rfl rfl (by kernel_rfl)
    obtain ⟨m5, y5, h5⟩ := trod_field Try.underlying72 h 5 rfl 3 11 1 rfl rfl (by kernel_rfl)
    match cs, hl with
    | [v0, v1, v2, v3, v4, v5, v6, v7, v8, v9, v10, v11], _ =>
      simp at h0 h1 h2 h3 h4 h5
      obtain ⟨a0, e0⟩ := reads_Sym.2 H enc w base spare held _ _ _ h0
      obtain ⟨a1, e1⟩ := reads_Sym.2 H enc w base spare held _ _ _ h1
      obtain ⟨a2, e2⟩ := reads_Sym.2 H enc w base spare held _ _ _ h2
      obtain ⟨a3, e3, _⟩ := DataW.trod_bool Try.underlying4 h3
      obtain ⟨a4, e4, _⟩ := DataW.trod_bool Try.underlying4 h4
      obtain ⟨a5, e5, _⟩ := DataW.trod_int Try.underlying3 h5
      simp [Sym.cells] at e0 e1 e2 e3 e4 e5
      obtain ⟨rfl, rfl, rfl⟩ := e0
      obtain ⟨rfl, rfl, rfl⟩ := e1
      obtain ⟨rfl, rfl, rfl⟩ := e2
      subst e3; subst e4; subst e5
      exact ⟨⟨a0, a1, a2, a3, a4, a5⟩, rfl⟩⟩
end Go.Proofs.Ythhhhjllpejpgaa
