/-
  For every input ActNews answers true, and leaves its arguments and all that was there as they were. No conditions.
-/
import Derived.Test.YtpndmjabjjbefaaGreatBa
import Derived.Test.YtpndmjabjjbefaaGreatBb
import Derived.Test.YtpndmjabjjbefaaGreatBc
import Derived.Test.YtpndmjabjjbefaaGreatBd
import Derived.Test.YtpndmjabjjbefaaGreatBe
import Derived.Test.YtpndmjabjjbefaaGreatBf
import Derived.Test.YtpndmjabjjbefaaGreatBg
import Derived.Test.YtpndmjabjjbefaaGreatBh
import Derived.Test.YtpndmjabjjbefaaGreatBi
import Derived.Test.YtpndmjabjjbefaaGreatBj
import Derived.WalkKit
import Derived.WalkSpells
import Derived.WalkLawsBesides
import Derived.Lib.Hide
import Derived.Deep.QuietTactic
import Derived.BigQuiet
import Derived.Deep.RegionHeld3
import Derived.Deep.AppendLies
import Derived.Maps.AppendAt
import Derived.StillTailTactics
import Derived.Maps.RangeWalk
import Derived.ProofKit
import Derived.Carry
import Derived.ChangeSame
import Derived.Deep.Slices
import Derived.Deep.Strs
import Derived.OrdersHeld
import Derived.StillTail
import Derived.RangeFuncNested
import Derived.RangeFuncBound
import Derived.RangeFuncCalls
import Derived.RangeFuncLeaves
import Derived.OrdersIn
import Derived.OwnWalkIn
import Derived.TacticsInMore
import Derived.LoopNIn
import Derived.LoopIn
import Derived.Shelf.Abstract
import Derived.Test.YtpndmjabjjbefaaGreatRows
import Derived.Lib.Strings
import Derived.Deep.Cut
import Derived.Lib.SlBytesRow
import Derived.Deep.MidRow
import Derived.OwnWalk
namespace Go.Proofs.YtpndmjabjjbefaaGreat
open Go.ChangeShapes Go.WideShapes Go.ChangeAt Go.RowKit Go.Deep
theorem own_news : ownKnob Tryz.prog.godebug = none := by kernel_rfl
theorem laid_news : laidOutB Tryz.prog = true := by kernel_rfl
set_option maxRecDepth 100000 in
theorem news_lifted (os : Os) (started : os.Started) (H : Type) (enc : TypeId × Value → H) :
 ReturnsInHanded {} Tryz.checked os 5 .any (Rows.actNewsSpec.pre6 enc Tryz.prog Tryz.f5 Rows.actNewsRow.domain false) (Rows.actNewsSpec.post enc Tryz.prog Tryz.f5 false true false false) := by
 refine returnsInHanded_of_change (C := Tryz.checked) own_news started (by kernel_rfl) Tryz.func5
  (ChangeSpec.witness6 (enc := enc) (C := Tryz.checked) false ⟨#[], #[.agg #[.string ⟨#[]⟩, .slice none 0 0, .slice none 0 0], .slice none 0 0, .int .i64 0], []⟩ 8 (by kernel_rfl) (by kernel_rfl) (by kernel_rfl) (by kernel_rfl)) ?_
 intro W base args ds gs before hval0 hW hcnd _
 have hval : ∀ (j : Nat) t v, Tryz.f5.params[j]? = some t → args[j]? = some v → Value.okWide Tryz.prog W .any base t v := hval0
 have hW' := hW
 obtain ⟨p, q, hA0, hV, rfl, hfz, hnd⟩ := hW
 have hA : DataW.TrodAll enc Tryz.prog W 0 (fun _ => true) true Tryz.f5.params.toList args.toList ds p := hA0
 rw [Tryz.params5] at hA hval
 obtain ⟨v0, v1, v2, d0, d1, d2, p0, p1, p2, rfl, rfl, rfl, h0, h1, h2⟩ := trodAll_three hA
 obtain ⟨rfl, rfl⟩ := trodVars_none hV
 obtain ⟨m0, x0, B0, b0, C0, e0, rfl, rc0, ra0⟩ := open_ProdT (hval 0 42 v0 rfl rfl) h0
 obtain ⟨A1, c1, l1, rfl, r1⟩ := open_rowR Tryz.underlying28 (by decide) opens_BindT (hval 1 28 v1 rfl rfl) h1
 obtain ⟨n2, rfl, _, _, _⟩ := open_int Tryz.underlying3 (hval 2 3 v2 rfl rfl) h2
 clear hA0 hval0
 refine (news_walk m0 x0 B0 C0 A1 b0 e0 c1 l1 n2 W rc0 ra0 r1).mono fun e W' ⟨he, hb⟩ => ?_
 subst he
 exact ⟨_, rfl, post_true (tb := 4) laid_news rfl hW' (by kernel_rfl) Tryz.underlying4 (fun t ht => by
  have ht' : t ∈ [42, 28, 3] := by
   have e : Tryz.f5.params.toList = [42, 28, 3] := by rw [Tryz.params5]
   rwa [e] at ht
  simp only [List.mem_cons, List.not_mem_nil, or_false] at ht'
  rcases ht' with rfl | rfl | rfl <;> exact ⟨by kernel_rfl, of_decide_eq_true (by kernel_rfl)⟩) rfl rfl rfl hb⟩
theorem news_holds : Rows.ActNewsSaid :=
 OpenClaim.holds_of_wide 5 Tryz.f5 rfl rfl rfl rfl rfl rfl rfl ⟨rfl, rfl, rfl, rfl, rfl⟩ rfl rfl rfl rfl rfl (by kernel_rfl) Tryz.func5 (by kernel_rfl)
  (of_decide_eq_true (by kernel_rfl)) (by unfold Func.isWrapper; first | (rw [if_pos (by decide +kernel)]; kernel_rfl) | (rw [if_neg (by decide +kernel)]; exact ⟨rfl, rfl⟩))
  (fun os started H enc _ => news_lifted os started H enc)
end Go.Proofs.YtpndmjabjjbefaaGreat
