/-
  For every input GoalDeep answers true, and leaves its arguments and all that was there as they were. No conditions.
-/
import Derived.Test.YthogokcbbkjcdaaMh

namespace Go.Proofs.Ythogokcbbkjcdaa
open Go.ChangeShapes Go.WideShapes Go.ChangeAt Go.RowKit Go.Deep

theorem own_deep : ownKnob Try.prog.godebug = none := by kernel_rfl
theorem laid_deep : laidOutB Try.prog = true := by kernel_rfl
set_option maxRecDepth 100000 in
theorem deep_lifted (os : Os) (started : os.Started) (H : Type) (enc : TypeId × Value → H) :
    ReturnsInHanded {} Try.checked os 3 .any (Rows.goalDeepSpec.pre6 enc Try.prog Try.f3 Rows.goalDeepRow.domain false) (Rows.goalDeepSpec.post enc Try.prog Try.f3 false true false false) := by
  refine returnsInHanded_of_change (C := Try.checked) own_deep started (by kernel_rfl) Try.func3
    (ChangeSpec.witness6 (enc := enc) (C := Try.checked) false ⟨#[], #[.int .i64 0, .slice none 0 0], []⟩ 8 (by kernel_rfl) (by kernel_rfl) (by kernel_rfl) (by kernel_rfl)) ?_
  intro W base args ds gs before hval0 hW hcnd _
  have hval : ∀ (j : Nat) t v, Try.f3.params[j]? = some t → args[j]? = some v → Value.okWide Try.prog W .any base t v := hval0
  have hW' := hW
  obtain ⟨p, q, hA0, hV, rfl, hfz, hnd⟩ := hW
  have hA : DataW.TrodAll enc Try.prog W 0 (fun _ => true) true Try.f3.params.toList args.toList ds p := hA0
  rw [Try.params3] at hA hval
  obtain ⟨v0, v1, d0, d1, p0, p1, rfl, rfl, rfl, h0, h1⟩ := trodAll_two hA
  obtain ⟨rfl, rfl⟩ := trodVars_none hV
  obtain ⟨n0, rfl, _, _, _⟩ := open_int Try.underlying3 (hval 0 3 v0 rfl rfl) h0
  obtain ⟨A1, c1, l1, rfl, r1⟩ := open_row Try.underlying22 (by omega) (reads_int Try.underlying3 (by kernel_rfl)) (hval 1 22 v1 rfl rfl) h1
  clear hA0 hval0
  refine (deep_walk n0 A1 c1 l1 W r1).mono fun e W' ⟨he, hb⟩ => ?_
  subst he
  exact ⟨_, rfl, post_true (tb := 4) laid_deep rfl hW' (by kernel_rfl) Try.underlying4 (fun t ht => by
    have ht' : t ∈ [3, 22] := by
      have e : Try.f3.params.toList = [3, 22] := by rw [Try.params3]
      rwa [e] at ht
    simp only [List.mem_cons, List.not_mem_nil, or_false] at ht'
    rcases ht' with rfl | rfl <;> exact ⟨by kernel_rfl, of_decide_eq_true (by kernel_rfl)⟩) rfl rfl rfl hb⟩

theorem deep_holds : Rows.GoalDeepSaid :=
  OpenClaim.holds_of_wide 3 Try.f3 rfl rfl rfl rfl rfl rfl rfl ⟨rfl, rfl, rfl, rfl, rfl⟩ rfl rfl rfl rfl rfl (by kernel_rfl) Try.func3 (by kernel_rfl)
    (of_decide_eq_true (by kernel_rfl)) (by unfold Func.isWrapper; first | (rw [if_pos (by decide +kernel)]; kernel_rfl) | (rw [if_neg (by decide +kernel)]; exact ⟨rfl, rfl⟩))
    (fun os started H enc _ => deep_lifted os started H enc)
end Go.Proofs.Ythogokcbbkjcdaa
