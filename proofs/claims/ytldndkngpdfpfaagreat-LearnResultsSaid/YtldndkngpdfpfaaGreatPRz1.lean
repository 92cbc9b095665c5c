/-
  For every input LearnResults answers true, and leaves its arguments and all that was there as they were. No conditions.
-/
import Derived.Test.YtldndkngpdfpfaaGreatPRz0
namespace Go.Proofs.YtldndkngpdfpfaaGreat
open Lib (hid)
set_option maxRecDepth 100000
set_option maxHeartbeats 32000000
section
open Go.ChangeShapes Go.WideShapes Go.ChangeAt Go.RowKit Go.Deep
theorem Zn4:ownKnob Tryz.prog.godebug=none:=by kernel_rfl
theorem Zej:laidOutB Tryz.prog=true:=by kernel_rfl
theorem Zfr (os:Os) (started:os.Started) (H:Type) (enc:TypeId×Value→H) :
 ReturnsInHanded {} Tryz.checked os 11 .any (Rows.learnResultsSpec.pre6 enc Tryz.prog Tryz.f11 Rows.learnResultsRow.domain false) (Rows.learnResultsSpec.post enc Tryz.prog Tryz.f11 false true false false):=by
 refine returnsInHanded_of_change (C:=Tryz.checked) Zn4 started (by kernel_rfl) Tryz.func11
  (ChangeSpec.witness6 (enc:=enc) (C:=Tryz.checked) false ⟨#[],#[.int .i64 0,.slice none 0 0,.slice none 0 0,.slice none 0 0],[]⟩ 8 (by kernel_rfl) (by kernel_rfl) (by kernel_rfl) (by kernel_rfl)) ?_
 intro W base args ds gs before hval0 hW hcnd _;have hval : ∀(j:Nat) t v,Tryz.f11.params[j]? = some t→args[j]? = some v→Value.okWide Tryz.prog W .any base t v:=hval0;have hW':=hW;obtain ⟨p,q,hA0,hV,rfl,hfz,hnd⟩:=hW;have hA:DataW.TrodAll enc Tryz.prog W 0 (fun _=>true) true Tryz.f11.params.toList args.toList ds p:=hA0;rw [Tryz.params11] at hA hval;obtain ⟨v0,v1,v2,v3,d0,d1,d2,d3,p0,p1,p2,p3,rfl,rfl,rfl,h0,h1,h2,h3⟩:=trodAll_four hA;obtain ⟨rfl,rfl⟩:=trodVars_none hV;obtain ⟨n0,rfl,_,_,_⟩:=open_int Tryz.underlying3 (hval 0 3 v0 rfl rfl) h0;obtain ⟨A1,c1,l1,rfl,r1⟩:=Z8t Tryz.underlying29 (by decide) Z8u (hval 1 29 v1 rfl rfl) h1;obtain ⟨A2,c2,l2,rfl,r2⟩:=Z8t Tryz.underlying102 (by decide) Zfz (hval 2 102 v2 rfl rfl) h2;obtain ⟨A3,c3,l3,rfl,r3⟩:=Z8t Tryz.underlying29 (by decide) Z8u (hval 3 29 v3 rfl rfl) h3;clear hA0 hval0;refine (Zku n0 l1 A1 c1 l2 A2 c2 l3 A3 c3 W r1.rd r2.rd r3.rd).mono fun e W' ⟨he,hb⟩=>?_;subst he
 exact ⟨_,rfl,Zim (tb:=4) Zej rfl hW' (by kernel_rfl) Tryz.underlying4 (fun t ht=>by
  have ht':t∈[3,29,102,29]:=by
   (have e:Tryz.f11.params.toList = [3,29,102,29]:=by rw [Tryz.params11]);rwa [e] at ht
  simp only [Zov,Zp1,or_false] at ht'
  rcases ht' with rfl | rfl | rfl | rfl<;>exact ⟨by kernel_rfl,Zpt (by kernel_rfl)⟩) rfl rfl rfl hb⟩
theorem Zi6:Tryz.pinned.checked.prog.funcNamed Rows.learnResultsRow.func=some 11:=by kernel_rfl
theorem Z1s {a b:Bool} (h:a=true) (k:b=true):(a && b)=true:=by rw [h,k];rfl
theorem Znp:mapsRowed Tryz.pinned.checked.prog=true:=by kernel_rfl
theorem Znq:(Rows.learnResultsRow.inPlace == Tryz.pinned.checked.prog.inPlace 11)=true:=by kernel_rfl
theorem Zmh:(Rows.learnResultsRow.unfollowed == Tryz.pinned.checked.prog.unfollowed 11)=true:=by kernel_rfl
theorem Zmi:(Rows.learnResultsRow.recurses == Tryz.pinned.checked.prog.recurses 11)=true:=by kernel_rfl
theorem Zmj:(Rows.learnResultsRow.named == Tryz.pinned.checked.prog.varsNamed 11)=true:=by kernel_rfl
theorem Zmk:(Rows.learnResultsRow.plainKeys == Tryz.pinned.checked.prog.plainKeys)=true:=by kernel_rfl
theorem Zml:Tryz.pinned.checked.prog.stopsHeard=true:=by kernel_rfl
theorem Zmm:Tryz.pinned.checked.prog.mayEnter=true:=by kernel_rfl
theorem Zmn:(Rows.learnResultsRow.lifted == Tryz.pinned.checked.prog.liftsFinal)=true:=by kernel_rfl
theorem Zmo:(Tryz.pinned.checked.prog.make == some Rows.learnResultsRow.make)=true:=by kernel_rfl
theorem Zfq:joinedFacts Tryz.pinned.checked.prog 11 Tryz.f11 Rows.learnResultsSpec Rows.learnResultsRow=true:=by
 unfold joinedFacts;exact (Z1s (Z1s (Z1s (Z1s (Z1s (Z1s (Z1s (Z1s (Z1s (Z1s (Z1s (Z1s (Z1s (Z1s (Z1s (Z1s (Z1s (Z1s (Z1s (Z1s (Z1s (Z1s (Z1s (Z1s (Z1s (Z1s (Z1s (Z1s (Z1s (Z1s (Z1s (by kernel_rfl) Zej) Znp) (by kernel_rfl)) (by kernel_rfl)) (by kernel_rfl)) (by kernel_rfl)) (by kernel_rfl)) (by kernel_rfl)) Znq) Zmh) Zmi) Zmj) (by kernel_rfl)) (by kernel_rfl)) (by kernel_rfl)) (by kernel_rfl)) (by kernel_rfl)) (by kernel_rfl)) (by kernel_rfl)) (by kernel_rfl)) (by kernel_rfl)) Zmk) (by kernel_rfl)) Zml) Zmm) Zmn) Zmo) (by kernel_rfl)) (by kernel_rfl)) (by kernel_rfl)) (by kernel_rfl))
theorem Zkt:Tryz.f11.isInstance Tryz.pinned.checked.prog Rows.learnResultsRow.origin Rows.learnResultsRow.targs:=Zpt (by kernel_rfl)
theorem Zkv:Tryz.f11.isWrapper Tryz.pinned.checked.prog Rows.learnResultsRow.wrapper Rows.learnResultsRow.mainSum:=by unfold Func.isWrapper;first | (rw [if_pos (by decide +kernel)];kernel_rfl) | (rw [if_neg (by decide +kernel)];exact ⟨rfl,rfl⟩)
theorem lrs_holds:Rows.LearnResultsSaid:=
 OpenClaim.holds_of_wide 11 Tryz.f11 rfl rfl rfl rfl rfl rfl rfl ⟨rfl,rfl,rfl,rfl,rfl⟩ rfl rfl rfl rfl rfl Zi6 Tryz.func11 Zfq
  Zkt Zkv
  (fun os started H enc _=>Zfr os started H enc)
end
end Go.Proofs.YtldndkngpdfpfaaGreat
