/-
  For every input CanonAgain answers true, and leaves its arguments and all that was there as they were. No conditions.
-/
import Derived.Test.YtffemfglngikbaaBa
import Derived.Test.YtffemfglngikbaaBb
import Derived.Test.YtffemfglngikbaaBc
import Derived.Test.YtffemfglngikbaaBd
import Derived.Test.YtffemfglngikbaaBe
import Derived.Test.YtffemfglngikbaaBf
import Derived.Test.YtffemfglngikbaaBg
import Derived.Test.YtffemfglngikbaaBh
import Derived.Test.YtffemfglngikbaaBi
import Derived.Test.YtffemfglngikbaaBj
import Derived.Test.YtffemfglngikbaaBk
import Derived.WalkKit
import Derived.WalkSpells
import Derived.WalkLawsBesides
import Derived.Lib.Hide
import Derived.Deep.QuietTactic
import Derived.BigQuiet
import Derived.Deep.RegionHeld3
import Derived.Deep.AppendLies
import Derived.Maps.AppendAt
import Derived.StillTailTactics
import Derived.Maps.RangeWalk
import Derived.ProofKit
import Derived.Carry
import Derived.ChangeSame
import Derived.Deep.Slices
import Derived.Deep.Strs
import Derived.OrdersHeld
import Derived.StillTail
import Derived.RangeFuncNested
import Derived.RangeFuncBound
import Derived.RangeFuncCalls
import Derived.RangeFuncLeaves
import Derived.OrdersIn
import Derived.OwnWalkIn
import Derived.TacticsInMore
import Derived.LoopNIn
import Derived.LoopIn
import Derived.Shelf.Abstract
import Derived.Test.YtffemfglngikbaaRows
import Derived.Lib.Strings
import Derived.Deep.MidRow
import Derived.Deep.Cut
import Derived.Lib.SlBytesRow
import Derived.Laws.EntriesVeiled
namespace Go.Proofs.Ytffemfglngikbaa
open Go.ChangeShapes Go.WideShapes Go.ChangeAt Go.RowKit Go.Deep
theorem own_again : ownKnob Try.prog.godebug = none := by kernel_rfl
theorem laid_again : laidOutB Try.prog = true := by kernel_rfl
set_option maxRecDepth 100000 in
theorem again_lifted (os : Os) (started : os.Started) (H : Type) (enc : TypeId × Value → H) :
 ReturnsInHanded {} Try.checked os 5 .any (Rows.canonAgainSpec.pre6 enc Try.prog Try.f5 Rows.canonAgainRow.domain false) (Rows.canonAgainSpec.post enc Try.prog Try.f5 false true false false) := by
 refine returnsInHanded_of_change (C := Try.checked) own_again started (by kernel_rfl) Try.func5
  (ChangeSpec.witness6 (enc := enc) (C := Try.checked) false ⟨#[], #[.agg #[.string ⟨#[]⟩, .slice none 0 0, .slice none 0 0]], []⟩ 8 (by kernel_rfl) (by kernel_rfl) (by kernel_rfl) (by kernel_rfl)) ?_
 intro W base args ds gs before hval0 hW hcnd _
 have hval : ∀ (j : Nat) t v, Try.f5.params[j]? = some t → args[j]? = some v → Value.okWide Try.prog W .any base t v := hval0
 have hW' := hW
 obtain ⟨p, q, hA0, hV, rfl, hfz, hnd⟩ := hW
 have hA : DataW.TrodAll enc Try.prog W 0 (fun _ => true) true Try.f5.params.toList args.toList ds p := hA0
 rw [Try.params5] at hA hval
 obtain ⟨v0, d0, rfl, rfl, h0⟩ := trodAll_one hA
 obtain ⟨rfl, rfl⟩ := trodVars_none hV
 obtain ⟨m0, x0, B0, b0, C0, e0, rfl, rc0, ra0⟩ := open_ProdT (hval 0 25 v0 rfl rfl) h0
 clear hA0 hval0
 refine (again_walk m0 x0 B0 b0 C0 e0 W rc0 ra0).mono fun e W' ⟨he, hb⟩ => ?_
 subst he
 exact ⟨_, rfl, post_true (tb := 4) laid_again rfl hW' (by kernel_rfl) Try.underlying4 (fun t ht => by
  have ht' : t ∈ [25] := by
   have e : Try.f5.params.toList = [25] := by rw [Try.params5]
   rwa [e] at ht
  simp only [List.mem_cons, List.not_mem_nil, or_false] at ht'
  rcases ht' with rfl <;> exact ⟨by kernel_rfl, of_decide_eq_true (by kernel_rfl)⟩) rfl rfl rfl hb⟩
theorem again_holds : Rows.CanonAgainSaid :=
 OpenClaim.holds_of_wide 5 Try.f5 rfl rfl rfl rfl rfl rfl rfl ⟨rfl, rfl, rfl, rfl, rfl⟩ rfl rfl rfl rfl rfl (by kernel_rfl) Try.func5 (by kernel_rfl)
  (of_decide_eq_true (by kernel_rfl)) (by unfold Func.isWrapper; first | (rw [if_pos (by decide +kernel)]; kernel_rfl) | (rw [if_neg (by decide +kernel)]; exact ⟨rfl, rfl⟩))
  (fun os started H enc _ => again_lifted os started H enc)
end Go.Proofs.Ytffemfglngikbaa
