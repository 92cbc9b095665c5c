/-
  For every input VaryRenamed answers true, and leaves its arguments and all that was there as they were. No conditions.
-/
import Derived.Test.YtldndkngpdfpfaaGreatPEv
namespace Go.Proofs.YtldndkngpdfpfaaGreat
open Lib (hid)
set_option maxRecDepth 100000
set_option maxHeartbeats 32000000
section
open Go.ChangeShapes Go.WideShapes Go.ChangeAt Go.RowKit Go.Deep
theorem Zfo:ownKnob Tryz.prog.godebug=none:=by kernel_rfl
theorem Z8u:laidOutB Tryz.prog=true:=by kernel_rfl
theorem Zam (os:Os) (started:os.Started) (H:Type) (enc:TypeId×Value→H) :
 ReturnsInHanded {} Tryz.checked os 5 .any (Rows.varyRenamedSpec.pre6 enc Tryz.prog Tryz.f5 Rows.varyRenamedRow.domain false) (Rows.varyRenamedSpec.post enc Tryz.prog Tryz.f5 false true false false):=by
 refine returnsInHanded_of_change (C:=Tryz.checked) Zfo started (by kernel_rfl) Tryz.func5
  (ChangeSpec.witness6 (enc:=enc) (C:=Tryz.checked) false ⟨#[],#[.slice none 0 0,.slice none 0 0,.slice none 0 0,.int .i64 0],[]⟩ 8 (by kernel_rfl) (by kernel_rfl) (by kernel_rfl) (by kernel_rfl)) ?_
 intro W base args ds gs before hval0 hW hcnd _;have hval : ∀(j:Nat) t v,Tryz.f5.params[j]? = some t→args[j]? = some v→Value.okWide Tryz.prog W .any base t v:=hval0;have hW':=hW;obtain ⟨p,q,hA0,hV,rfl,hfz,hnd⟩:=hW;have hA:DataW.TrodAll enc Tryz.prog W 0 (fun _=>true) true Tryz.f5.params.toList args.toList ds p:=hA0;rw [Tryz.params5] at hA hval;obtain ⟨v0,v1,v2,v3,d0,d1,d2,d3,p0,p1,p2,p3,rfl,rfl,rfl,h0,h1,h2,h3⟩:=trodAll_four hA;obtain ⟨rfl,rfl⟩:=trodVars_none hV;obtain ⟨A0,c0,l0,rfl,r0⟩:=Z6k Tryz.underlying27 (by decide) Z91 (hval 0 27 v0 rfl rfl) h0;obtain ⟨A1,c1,l1,rfl,r1⟩:=Z6k Tryz.underlying28 (by decide) Z90 (hval 1 28 v1 rfl rfl) h1;obtain ⟨A2,c2,l2,rfl,r2⟩:=Z6k Tryz.underlying29 (by decide) Za5 (hval 2 29 v2 rfl rfl) h2;obtain ⟨n3,rfl,_,_,_⟩:=open_int Tryz.underlying3 (hval 3 3 v3 rfl rfl) h3;clear hA0 hval0;refine (Zeh l0 A0 c0 l1 A1 c1 l2 A2 c2 n3 W r0.rd r1.rd r2.rd).mono fun e W' ⟨he,hb⟩=>?_;subst he
 exact ⟨_,rfl,Zdv (tb:=4) Z8u rfl hW' (by kernel_rfl) Tryz.underlying4 (fun t ht=>by
  have ht':t∈[27,28,29,3]:=by
   (have e:Tryz.f5.params.toList = [27,28,29,3]:=by rw [Tryz.params5]);rwa [e] at ht
  simp only [Zil,Zio,or_false] at ht'
  rcases ht' with rfl | rfl | rfl | rfl<;>exact ⟨by kernel_rfl,Zjf (by kernel_rfl)⟩) rfl rfl rfl hb⟩
theorem Zc5:Tryz.pinned.checked.prog.funcNamed Rows.varyRenamedRow.func=some 5:=by kernel_rfl
theorem Z1i {a b:Bool} (h:a=true) (k:b=true):(a && b)=true:=by rw [h,k];rfl
theorem Zhh:mapsRowed Tryz.pinned.checked.prog=true:=by kernel_rfl
theorem Zhi:(Rows.varyRenamedRow.inPlace == Tryz.pinned.checked.prog.inPlace 5)=true:=by kernel_rfl
theorem Zg9:(Rows.varyRenamedRow.unfollowed == Tryz.pinned.checked.prog.unfollowed 5)=true:=by kernel_rfl
theorem Zga:(Rows.varyRenamedRow.recurses == Tryz.pinned.checked.prog.recurses 5)=true:=by kernel_rfl
theorem Zgb:(Rows.varyRenamedRow.named == Tryz.pinned.checked.prog.varsNamed 5)=true:=by kernel_rfl
theorem Zgc:(Rows.varyRenamedRow.plainKeys == Tryz.pinned.checked.prog.plainKeys)=true:=by kernel_rfl
theorem Zgd:Tryz.pinned.checked.prog.stopsHeard=true:=by kernel_rfl
theorem Zge:Tryz.pinned.checked.prog.mayEnter=true:=by kernel_rfl
theorem Zgf:(Rows.varyRenamedRow.lifted == Tryz.pinned.checked.prog.liftsFinal)=true:=by kernel_rfl
theorem Zgg:(Tryz.pinned.checked.prog.make == some Rows.varyRenamedRow.make)=true:=by kernel_rfl
theorem Zal:joinedFacts Tryz.pinned.checked.prog 5 Tryz.f5 Rows.varyRenamedSpec Rows.varyRenamedRow=true:=by
 unfold joinedFacts;exact (Z1i (Z1i (Z1i (Z1i (Z1i (Z1i (Z1i (Z1i (Z1i (Z1i (Z1i (Z1i (Z1i (Z1i (Z1i (Z1i (Z1i (Z1i (Z1i (Z1i (Z1i (Z1i (Z1i (Z1i (Z1i (Z1i (Z1i (Z1i (Z1i (Z1i (Z1i (by kernel_rfl) Z8u) Zhh) (by kernel_rfl)) (by kernel_rfl)) (by kernel_rfl)) (by kernel_rfl)) (by kernel_rfl)) (by kernel_rfl)) Zhi) Zg9) Zga) Zgb) (by kernel_rfl)) (by kernel_rfl)) (by kernel_rfl)) (by kernel_rfl)) (by kernel_rfl)) (by kernel_rfl)) (by kernel_rfl)) (by kernel_rfl)) (by kernel_rfl)) Zgc) (by kernel_rfl)) Zgd) Zge) Zgf) Zgg) (by kernel_rfl)) (by kernel_rfl)) (by kernel_rfl)) (by kernel_rfl))
theorem Zeg:Tryz.f5.isInstance Tryz.pinned.checked.prog Rows.varyRenamedRow.origin Rows.varyRenamedRow.targs:=Zjf (by kernel_rfl)
theorem Zei:Tryz.f5.isWrapper Tryz.pinned.checked.prog Rows.varyRenamedRow.wrapper Rows.varyRenamedRow.mainSum:=by unfold Func.isWrapper;first | (rw [if_pos (by decide +kernel)];kernel_rfl) | (rw [if_neg (by decide +kernel)];exact ⟨rfl,rfl⟩)
theorem vren_holds:Rows.VaryRenamedSaid:=
 OpenClaim.holds_of_wide 5 Tryz.f5 rfl rfl rfl rfl rfl rfl rfl ⟨rfl,rfl,rfl,rfl,rfl⟩ rfl rfl rfl rfl rfl Zc5 Tryz.func5 Zal
  Zeg Zei
  (fun os started H enc _=>Zam os started H enc)
end
end Go.Proofs.YtldndkngpdfpfaaGreat
