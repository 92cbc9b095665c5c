/-
  For every input CanonNames answers true, and leaves its arguments and all that was there as they were. No conditions.
-/
import Derived.Test.YtffemfglngikbaaGreatBa
import Derived.Test.YtffemfglngikbaaGreatBb
import Derived.Test.YtffemfglngikbaaGreatBc
import Derived.Test.YtffemfglngikbaaGreatBd
import Derived.Test.YtffemfglngikbaaGreatBe
import Derived.Test.YtffemfglngikbaaGreatBf
import Derived.Test.YtffemfglngikbaaGreatBg
import Derived.Test.YtffemfglngikbaaGreatBh
import Derived.Test.YtffemfglngikbaaGreatBi
import Derived.Test.YtffemfglngikbaaGreatBj
import Derived.Test.YtffemfglngikbaaGreatBk
import Derived.Test.YtffemfglngikbaaGreatBl
import Derived.Test.YtffemfglngikbaaGreatBm
import Derived.Test.YtffemfglngikbaaGreatBn
import Derived.Test.YtffemfglngikbaaGreatBo
import Derived.Test.YtffemfglngikbaaGreatBp
import Derived.Test.YtffemfglngikbaaGreatBq
import Derived.Test.YtffemfglngikbaaGreatBr
import Derived.Test.YtffemfglngikbaaGreatBs
import Derived.Test.YtffemfglngikbaaGreatBt
import Derived.Test.YtffemfglngikbaaGreatBu
import Derived.Test.YtffemfglngikbaaGreatBv
import Derived.WalkKit
import Derived.WalkSpells
import Derived.WalkLawsBesides
import Derived.Lib.Hide
import Derived.Deep.QuietTactic
import Derived.BigQuiet
import Derived.Deep.RegionHeld3
import Derived.Deep.AppendLies
import Derived.Maps.AppendAt
import Derived.StillTailTactics
import Derived.Maps.RangeWalk
import Derived.OrdersHeld
import Derived.StillTail
import Derived.RangeFuncNested
import Derived.RangeFuncBound
import Derived.RangeFuncCalls
import Derived.RangeFuncLeaves
import Derived.OrdersIn
import Derived.OwnWalkIn
import Derived.TacticsInMore
import Derived.LoopNIn
import Derived.LoopIn
import Derived.Shelf.Abstract
import Derived.Lib.Strings
import Derived.Test.YtffemfglngikbaaGreatRows
import Derived.ProofKit
import Derived.Carry
import Derived.ChangeSame
import Derived.Deep.Slices
import Derived.Deep.Strs
import Derived.Deep.MidRow
import Derived.Deep.Cut
import Derived.Lib.SlBytesRow
import Derived.Laws.EntriesVeiled
import Derived.IntWalk
namespace Go.Proofs.YtffemfglngikbaaGreat
open Go.ChangeShapes Go.WideShapes Go.ChangeAt Go.RowKit Go.Deep
theorem own_namesc : ownKnob Tryz.prog.godebug = none := by kernel_rfl
theorem laid_namesc : laidOutB Tryz.prog = true := by kernel_rfl
set_option maxRecDepth 100000 in
theorem namesc_lifted (os : Os) (started : os.Started) (H : Type) (enc : TypeId × Value → H) :
 ReturnsInHanded {} Tryz.checked os 8 .any (Rows.canonNamesSpec.pre6 enc Tryz.prog Tryz.f8 Rows.canonNamesRow.domain false) (Rows.canonNamesSpec.post enc Tryz.prog Tryz.f8 false true false false) := by
 refine returnsInHanded_of_change (C := Tryz.checked) own_namesc started (by kernel_rfl) Tryz.func8
  (ChangeSpec.witness6 (enc := enc) (C := Tryz.checked) false ⟨#[], #[.agg #[.string ⟨#[]⟩, .slice none 0 0, .slice none 0 0], .int .i64 0], []⟩ 8 (by kernel_rfl) (by kernel_rfl) (by kernel_rfl) (by kernel_rfl)) ?_
 intro W base args ds gs before hval0 hW hcnd _
 have hval : ∀ (j : Nat) t v, Tryz.f8.params[j]? = some t → args[j]? = some v → Value.okWide Tryz.prog W .any base t v := hval0
 have hW' := hW
 obtain ⟨p, q, hA0, hV, rfl, hfz, hnd⟩ := hW
 have hA : DataW.TrodAll enc Tryz.prog W 0 (fun _ => true) true Tryz.f8.params.toList args.toList ds p := hA0
 rw [Tryz.params8] at hA hval
 obtain ⟨v0, v1, d0, d1, p0, p1, rfl, rfl, rfl, h0, h1⟩ := trodAll_two hA
 obtain ⟨rfl, rfl⟩ := trodVars_none hV
 obtain ⟨m0, x0, B0, b0, C0, e0, rfl, rc0, ra0⟩ := open_ProdT (hval 0 25 v0 rfl rfl) h0
 obtain ⟨n1, rfl, _, _, _⟩ := open_int Tryz.underlying3 (hval 1 3 v1 rfl rfl) h1
 clear hA0 hval0
 refine (namesc_walk m0 x0 B0 b0 C0 e0 n1 W rc0 ra0).mono fun e W' ⟨he, hb⟩ => ?_
 subst he
 exact ⟨_, rfl, post_true (tb := 4) laid_namesc rfl hW' (by kernel_rfl) Tryz.underlying4 (fun t ht => by
  have ht' : t ∈ [25, 3] := by
   have e : Tryz.f8.params.toList = [25, 3] := by rw [Tryz.params8]
   rwa [e] at ht
  simp only [List.mem_cons, List.not_mem_nil, or_false] at ht'
  rcases ht' with rfl | rfl <;> exact ⟨by kernel_rfl, of_decide_eq_true (by kernel_rfl)⟩) rfl rfl rfl hb⟩
theorem namesc_holds : Rows.CanonNamesSaid :=
 OpenClaim.holds_of_wide 8 Tryz.f8 rfl rfl rfl rfl rfl rfl rfl ⟨rfl, rfl, rfl, rfl, rfl⟩ rfl rfl rfl rfl rfl (by kernel_rfl) Tryz.func8 (by kernel_rfl)
  (of_decide_eq_true (by kernel_rfl)) (by unfold Func.isWrapper; first | (rw [if_pos (by decide +kernel)]; kernel_rfl) | (rw [if_neg (by decide +kernel)]; exact ⟨rfl, rfl⟩))
  (fun os started H enc _ => namesc_lifted os started H enc)
end Go.Proofs.YtffemfglngikbaaGreat
