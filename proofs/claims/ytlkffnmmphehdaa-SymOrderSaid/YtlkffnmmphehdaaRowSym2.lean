/-
  An argument that is one symbol, opened.
-/
import Derived.Test.YtlkffnmmphehdaaRowSym
namespace Go.Proofs.Ytlkffnmmphehdaa
open Go.RowKit Go.ChangeShapes Go.WideShapes Go.Deep
set_option maxRecDepth 100000 in
theorem open_sym {H : Type} {enc : TypeId × Value → H} {w : World} {r : Reach} {b0 base : Nat} {spare : Nat → Bool} {held : Bool} {v : Value} {d : DataW H} {ps : List MemPlace}
    (hval : Value.okWide Try.prog w r b0 23 v) (h : DataW.Trod enc Try.prog w base spare held 23 v d ps) : ∃ a : Sym, v = .agg #[.int .i64 a.kind, .string a.text, .int .i64 a.n] := by
  obtain ⟨cs, rfl, _⟩ := okWide_struct Try.underlying23 hval
  obtain ⟨fuel, hf⟩ := h
  obtain ⟨a, ha⟩ := reads_Sym.2 H enc w base spare held fuel _ _ hf
  refine ⟨a, ?_⟩
  simp [Value.cells, Sym.cells] at ha
  have : cs = #[.int .i64 a.kind, .string a.text, .int .i64 a.n] := by rw [← Array.toList_inj]; simpa using ha
  rw [this]
end Go.Proofs.Ytlkffnmmphehdaa
