/-
  For every input OrderLaws answers true, and leaves its arguments and all that was there as they were. No conditions.
-/
import Derived.Test.YthhhhjllpejpgaaLawLaws
namespace Go.Proofs.Ythhhhjllpejpgaa
open Go.ChangeShapes Go.WideShapes Go.ChangeAt Go.RowKit Go.Deep

theorem own_laws : ownKnob Try.prog.godebug = none := by kernel_rfl
theorem laid_laws : laidOutB Try.prog = true := by kernel_rfl
set_option maxRecDepth 100000 in
theorem laws_lifted (os : Os) (started : os.Started) (H : Type) (enc : TypeId × Value → H) :
    ReturnsInHanded {} Try.checked os 10 .any (Rows.orderLawsSpec.pre6 enc Try.prog Try.f10 Rows.orderLawsRow.domain false) (Rows.orderLawsSpec.post enc Try.prog Try.f10 false true false false) := by
  refine returnsInHanded_of_change (C := Try.checked) own_laws started (by kernel_rfl) Try.func10
    (ChangeSpec.witness6 (enc := enc) (C := Try.checked) false ⟨#[], #[.slice none 0 0, .slice none 0 0, .slice none 0 0], []⟩ 8 (by kernel_rfl) (by kernel_rfl) (by kernel_rfl) (by kernel_rfl)) ?_
  intro W base args ds gs before hval0 hW hcnd _
  have hval : ∀ (j : Nat) t v, Try.f10.params[j]? = some t → args[j]? = some v → Value.okWide Try.prog W .any base t v := hval0
  have hW' := hW
  obtain ⟨p, q, hA0, hV, rfl, hfz, hnd⟩ := hW
  have hA : DataW.TrodAll enc Try.prog W 0 (fun _ => true) true Try.f10.params.toList args.toList ds p := hA0
  rw [Try.params10] at hA hval
  obtain ⟨v0, v1, v2, d0, d1, d2, p0, p1, p2, rfl, rfl, rfl, h0, h1, h2⟩ := trodAll_three hA
  obtain ⟨rfl, rfl⟩ := trodVars_none hV
  obtain ⟨A0, c0, l0, rfl, r0⟩ := open_row Try.underlying22 (by omega) reads_Sym (hval 0 22 v0 rfl rfl) h0
  obtain ⟨A1, c1, l1, rfl, r1⟩ := open_row Try.underlying22 (by omega) reads_Sym (hval 1 22 v1 rfl rfl) h1
  obtain ⟨A2, c2, l2, rfl, r2⟩ := open_row Try.underlying22 (by omega) reads_Sym (hval 2 22 v2 rfl rfl) h2
  clear hA0 hval0
  refine (laws_walk A0 A1 A2 c0 c1 c2 l0 l1 l2 W r0 r1 r2).mono fun e W' ⟨he, hb⟩ => ?_
  subst he
  exact ⟨_, rfl, post_true (tb := 4) laid_laws rfl hW' (by kernel_rfl) Try.underlying4 (fun t ht => by
    have ht' : t ∈ [22, 22, 22] := by
      have e : Try.f10.params.toList = [22, 22, 22] := by rw [Try.params10]
      rwa [e] at ht
    simp only [List.mem_cons, List.not_mem_nil, or_false] at ht'
    rcases ht' with rfl | rfl | rfl <;> exact ⟨by kernel_rfl, of_decide_eq_true (by kernel_rfl)⟩) rfl rfl rfl hb⟩

theorem laws_holds : Rows.OrderLawsSaid :=
  OpenClaim.holds_of_wide 10 Try.f10 rfl rfl rfl rfl rfl rfl rfl ⟨rfl, rfl, rfl, rfl, rfl⟩ rfl rfl rfl rfl rfl (by kernel_rfl) Try.func10 (by kernel_rfl)
    (of_decide_eq_true (by kernel_rfl)) (by unfold Func.isWrapper; first | (rw [if_pos (by decide +kernel)]; kernel_rfl) | (rw [if_neg (by decide +kernel)]; exact ⟨rfl, rfl⟩))
    (fun os started H enc _ => laws_lifted os started H enc)
end Go.Proofs.Ythhhhjllpejpgaa
