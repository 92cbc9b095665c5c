/-
  For every input CanonSames answers true, and leaves its arguments and all that was there as they were. No conditions.
-/
import Derived.Test.YtffemfglngikbaaGreatDa
import Derived.Test.YtffemfglngikbaaGreatDb
import Derived.Test.YtffemfglngikbaaGreatDc
import Derived.Test.YtffemfglngikbaaGreatDd
import Derived.Test.YtffemfglngikbaaGreatDe
import Derived.Test.YtffemfglngikbaaGreatDf
import Derived.Test.YtffemfglngikbaaGreatDg
import Derived.Test.YtffemfglngikbaaGreatDh
import Derived.Test.YtffemfglngikbaaGreatDi
import Derived.Test.YtffemfglngikbaaGreatDj
import Derived.Test.YtffemfglngikbaaGreatDk
import Derived.Test.YtffemfglngikbaaGreatDl
import Derived.Test.YtffemfglngikbaaGreatDm
import Derived.Test.YtffemfglngikbaaGreatDn
import Derived.Test.YtffemfglngikbaaGreatDo
import Derived.WalkKit
import Derived.WalkSpells
import Derived.WalkLawsBesides
import Derived.Lib.Hide
import Derived.Deep.QuietTactic
import Derived.BigQuiet
import Derived.Deep.RegionHeld3
import Derived.Deep.AppendLies
import Derived.Maps.AppendAt
import Derived.StillTailTactics
import Derived.Maps.RangeWalk
import Derived.ProofKit
import Derived.Carry
import Derived.ChangeSame
import Derived.Deep.Slices
import Derived.Deep.Strs
import Derived.OrdersHeld
import Derived.StillTail
import Derived.RangeFuncNested
import Derived.RangeFuncBound
import Derived.RangeFuncCalls
import Derived.RangeFuncLeaves
import Derived.OrdersIn
import Derived.OwnWalkIn
import Derived.TacticsInMore
import Derived.LoopNIn
import Derived.LoopIn
import Derived.Shelf.Abstract
import Derived.Test.YtffemfglngikbaaGreatRows
import Derived.Lib.Strings
import Derived.Deep.Cut
import Derived.Lib.SlBytesRow
import Derived.Deep.MidRow
import Derived.Laws.EntriesVeiled
import Derived.IntWalk
namespace Go.Proofs.YtffemfglngikbaaGreat
open Go.ChangeShapes Go.WideShapes Go.ChangeAt Go.RowKit Go.Deep
theorem own_samesc:ownKnob Tryz.prog.godebug=none:=by kernel_rfl
theorem laid_samesc:laidOutB Tryz.prog=true:=by kernel_rfl
set_option maxRecDepth 100000 in
theorem samesc_lifted (os:Os) (started:os.Started) (H:Type) (enc:TypeId×Value→H) :
 ReturnsInHanded {} Tryz.checked os 7 .any (Rows.canonSamesSpec.pre6 enc Tryz.prog Tryz.f7 Rows.canonSamesRow.domain false) (Rows.canonSamesSpec.post enc Tryz.prog Tryz.f7 false true false false):=by
 refine returnsInHanded_of_change (C:=Tryz.checked) own_samesc started (by kernel_rfl) Tryz.func7
  (ChangeSpec.witness6 (enc:=enc) (C:=Tryz.checked) false ⟨#[],#[.agg #[.string ⟨#[]⟩,.slice none 0 0,.slice none 0 0],.agg #[.string ⟨#[]⟩,.slice none 0 0,.slice none 0 0]],[]⟩ 8 (by kernel_rfl) (by kernel_rfl) (by kernel_rfl) (by kernel_rfl)) ?_
 intro W base args ds gs before hval0 hW hcnd _
 have hval : ∀(j:Nat) t v,Tryz.f7.params[j]? = some t→args[j]? = some v→Value.okWide Tryz.prog W .any base t v:=hval0
 have hW':=hW
 obtain ⟨p,q,hA0,hV,rfl,hfz,hnd⟩:=hW
 have hA:DataW.TrodAll enc Tryz.prog W 0 (fun _=>true) true Tryz.f7.params.toList args.toList ds p:=hA0
 rw [Tryz.params7] at hA hval
 obtain ⟨v0,v1,d0,d1,p0,p1,rfl,rfl,rfl,h0,h1⟩:=trodAll_two hA
 obtain ⟨rfl,rfl⟩:=trodVars_none hV
 obtain ⟨m0,x0,B0,b0,C0,e0,rfl,rc0,ra0⟩:=open_ProdT (hval 0 25 v0 rfl rfl) h0
 obtain ⟨m1,x1,B1,b1,C1,e1,rfl,rc1,ra1⟩:=open_ProdT (hval 1 25 v1 rfl rfl) h1
 clear hA0 hval0
 refine (samesc_walk m0 m1 x0 x1 B0 b0 C0 e0 B1 b1 C1 e1 W rc0 ra0 rc1 ra1).mono fun e W' ⟨he,hb⟩=>?_
 subst he
 exact ⟨_,rfl,post_true (tb:=4) laid_samesc rfl hW' (by kernel_rfl) Tryz.underlying4 (fun t ht=>by
  have ht':t∈[25,25]:=by
   have e:Tryz.f7.params.toList = [25,25]:=by rw [Tryz.params7]
   rwa [e] at ht
  simp only [List.mem_cons,List.not_mem_nil,or_false] at ht'
  rcases ht' with rfl | rfl<;>exact ⟨by kernel_rfl,of_decide_eq_true (by kernel_rfl)⟩) rfl rfl rfl hb⟩
theorem samesc_holds:Rows.CanonSamesSaid:=
 OpenClaim.holds_of_wide 7 Tryz.f7 rfl rfl rfl rfl rfl rfl rfl ⟨rfl,rfl,rfl,rfl,rfl⟩ rfl rfl rfl rfl rfl (by kernel_rfl) Tryz.func7 (by kernel_rfl)
  (of_decide_eq_true (by kernel_rfl)) (by unfold Func.isWrapper;first | (rw [if_pos (by decide +kernel)];kernel_rfl) | (rw [if_neg (by decide +kernel)];exact ⟨rfl,rfl⟩))
  (fun os started H enc _=>samesc_lifted os started H enc)
end Go.Proofs.YtffemfglngikbaaGreat
