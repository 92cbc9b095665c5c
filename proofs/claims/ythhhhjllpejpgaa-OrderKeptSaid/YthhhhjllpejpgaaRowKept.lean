/-
  For every input OrderKept answers true, and leaves its arguments and all that was there as they were. No conditions.
-/
import Derived.Test.YthhhhjllpejpgaaLawKept
import Derived.Test.YthhhhjllpejpgaaRowElem
namespace Go.Proofs.Ythhhhjllpejpgaa
open Go.ChangeShapes Go.WideShapes Go.ChangeAt Go.RowKit Go.Deep

theorem own_kept : ownKnob Try.prog.godebug = none := by kernel_rfl
theorem laid_kept : laidOutB Try.prog = true := by kernel_rfl
set_option maxRecDepth 100000 in
theorem kept_lifted (os : Os) (started : os.Started) (H : Type) (enc : TypeId × Value → H) :
    ReturnsInHanded {} Try.checked os 8 .any (Rows.orderKeptSpec.pre6 enc Try.prog Try.f8 Rows.orderKeptRow.domain false) (Rows.orderKeptSpec.post enc Try.prog Try.f8 false true false false) := by
  refine returnsInHanded_of_change (C := Try.checked) own_kept started (by kernel_rfl) Try.func8
    (ChangeSpec.witness6 (enc := enc) (C := Try.checked) false ⟨#[], #[.slice none 0 0, .slice none 0 0], []⟩ 8 (by kernel_rfl) (by kernel_rfl) (by kernel_rfl) (by kernel_rfl)) ?_
  intro W base args ds gs before hval0 hW hcnd _
  have hval : ∀ (j : Nat) t v, Try.f8.params[j]? = some t → args[j]? = some v → Value.okWide Try.prog W .any base t v := hval0
  have hW' := hW
  obtain ⟨p, q, hA0, hV, rfl, hfz, hnd⟩ := hW
  have hA : DataW.TrodAll enc Try.prog W 0 (fun _ => true) true Try.f8.params.toList args.toList ds p := hA0
  rw [Try.params8] at hA hval
  obtain ⟨v0, v1, d0, d1, p0, p1, rfl, rfl, rfl, h0, h1⟩ := trodAll_two hA
  obtain ⟨rfl, rfl⟩ := trodVars_none hV
  obtain ⟨A0, c0, l0, rfl, r0⟩ := open_row Try.underlying68 (by omega) reads_Elem (hval 0 68 v0 rfl rfl) h0
  obtain ⟨A1, c1, l1, rfl, r1⟩ := open_row Try.underlying68 (by omega) reads_Elem (hval 1 68 v1 rfl rfl) h1
  clear hA0 hval0
  refine (kept_walk A0 A1 c0 c1 l0 l1 W r0 r1).mono fun e W' ⟨he, hb⟩ => ?_
  subst he
  exact ⟨_, rfl, post_true (tb := 4) laid_kept rfl hW' (by kernel_rfl) Try.underlying4 (fun t ht => by
    have ht' : t ∈ [68, 68] := by
      have e : Try.f8.params.toList = [68, 68] := by rw [Try.params8]
      rwa [e] at ht
    simp only [List.mem_cons, List.not_mem_nil, or_false] at ht'
    rcases ht' with rfl | rfl <;> exact ⟨by kernel_rfl, of_decide_eq_true (by kernel_rfl)⟩) rfl rfl rfl hb⟩

theorem kept_holds : Rows.OrderKeptSaid :=
  OpenClaim.holds_of_wide 8 Try.f8 rfl rfl rfl rfl rfl rfl rfl ⟨rfl, rfl, rfl, rfl, rfl⟩ rfl rfl rfl rfl rfl (by kernel_rfl) Try.func8 (by kernel_rfl)
    (of_decide_eq_true (by kernel_rfl)) (by unfold Func.isWrapper; first | (rw [if_pos (by decide +kernel)]; kernel_rfl) | (rw [if_neg (by decide +kernel)]; exact ⟨rfl, rfl⟩))
    (fun os started H enc _ => kept_lifted os started H enc)
end Go.Proofs.Ythhhhjllpejpgaa
