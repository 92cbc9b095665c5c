/-
  For every input VaryFits answers true, and leaves its arguments and all that was there as they were. No conditions.
-/
import Derived.Test.YtldndkngpdfpfaaGreatPGw
namespace Go.Proofs.YtldndkngpdfpfaaGreat
open Lib (hid)
set_option maxRecDepth 100000
set_option maxHeartbeats 32000000
section
open Go.ChangeShapes Go.WideShapes Go.ChangeAt Go.RowKit Go.Deep
theorem Zdx:ownKnob Tryz.prog.godebug=none:=by kernel_rfl
theorem Z7j:laidOutB Tryz.prog=true:=by kernel_rfl
theorem Z9k (os:Os) (started:os.Started) (H:Type) (enc:TypeId×Value→H) :
 ReturnsInHanded {} Tryz.checked os 4 .any (Rows.varyFitsSpec.pre6 enc Tryz.prog Tryz.f4 Rows.varyFitsRow.domain false) (Rows.varyFitsSpec.post enc Tryz.prog Tryz.f4 false true false false):=by
 refine returnsInHanded_of_change (C:=Tryz.checked) Zdx started (by kernel_rfl) Tryz.func4
  (ChangeSpec.witness6 (enc:=enc) (C:=Tryz.checked) false ⟨#[],#[.slice none 0 0,.slice none 0 0,.slice none 0 0],[]⟩ 8 (by kernel_rfl) (by kernel_rfl) (by kernel_rfl) (by kernel_rfl)) ?_
 intro W base args ds gs before hval0 hW hcnd _;have hval : ∀(j:Nat) t v,Tryz.f4.params[j]? = some t→args[j]? = some v→Value.okWide Tryz.prog W .any base t v:=hval0;have hW':=hW;obtain ⟨p,q,hA0,hV,rfl,hfz,hnd⟩:=hW;have hA:DataW.TrodAll enc Tryz.prog W 0 (fun _=>true) true Tryz.f4.params.toList args.toList ds p:=hA0;rw [Tryz.params4] at hA hval;obtain ⟨v0,v1,v2,d0,d1,d2,p0,p1,p2,rfl,rfl,rfl,h0,h1,h2⟩:=trodAll_three hA;obtain ⟨rfl,rfl⟩:=trodVars_none hV;obtain ⟨A0,c0,l0,rfl,r0⟩:=Z6m Tryz.underlying27 (by decide) Z93 (hval 0 27 v0 rfl rfl) h0;obtain ⟨A1,c1,l1,rfl,r1⟩:=Z6m Tryz.underlying28 (by decide) Z92 (hval 1 28 v1 rfl rfl) h1;obtain ⟨A2,c2,l2,rfl,r2⟩:=Z6m Tryz.underlying29 (by decide) Za9 (hval 2 29 v2 rfl rfl) h2;clear hA0 hval0;refine (Zc9 l0 A0 c0 l1 A1 c1 l2 A2 c2 W r0.rd r1.rd r2.rd).mono fun e W' ⟨he,hb⟩=>?_;subst he
 exact ⟨_,rfl,Ze1 (tb:=4) Z7j rfl hW' (by kernel_rfl) Tryz.underlying4 (fun t ht=>by
  have ht':t∈[27,28,29]:=by
   (have e:Tryz.f4.params.toList = [27,28,29]:=by rw [Tryz.params4]);rwa [e] at ht
  simp only [Zij,Zio,or_false] at ht'
  rcases ht' with rfl | rfl | rfl<;>exact ⟨by kernel_rfl,Zjd (by kernel_rfl)⟩) rfl rfl rfl hb⟩
theorem Zam:Tryz.pinned.checked.prog.funcNamed Rows.varyFitsRow.func=some 4:=by kernel_rfl
theorem Z1i {a b:Bool} (h:a=true) (k:b=true):(a && b)=true:=by rw [h,k];rfl
theorem Zgd:mapsRowed Tryz.pinned.checked.prog=true:=by kernel_rfl
theorem Zge:(Rows.varyFitsRow.inPlace == Tryz.pinned.checked.prog.inPlace 4)=true:=by kernel_rfl
theorem Zei:(Rows.varyFitsRow.unfollowed == Tryz.pinned.checked.prog.unfollowed 4)=true:=by kernel_rfl
theorem Zej:(Rows.varyFitsRow.recurses == Tryz.pinned.checked.prog.recurses 4)=true:=by kernel_rfl
theorem Zek:(Rows.varyFitsRow.named == Tryz.pinned.checked.prog.varsNamed 4)=true:=by kernel_rfl
theorem Zel:(Rows.varyFitsRow.plainKeys == Tryz.pinned.checked.prog.plainKeys)=true:=by kernel_rfl
theorem Zem:Tryz.pinned.checked.prog.stopsHeard=true:=by kernel_rfl
theorem Zen:Tryz.pinned.checked.prog.mayEnter=true:=by kernel_rfl
theorem Zeo:(Rows.varyFitsRow.lifted == Tryz.pinned.checked.prog.liftsFinal)=true:=by kernel_rfl
theorem Zep:(Tryz.pinned.checked.prog.make == some Rows.varyFitsRow.make)=true:=by kernel_rfl
theorem Z9j:joinedFacts Tryz.pinned.checked.prog 4 Tryz.f4 Rows.varyFitsSpec Rows.varyFitsRow=true:=by
 unfold joinedFacts;exact (Z1i (Z1i (Z1i (Z1i (Z1i (Z1i (Z1i (Z1i (Z1i (Z1i (Z1i (Z1i (Z1i (Z1i (Z1i (Z1i (Z1i (Z1i (Z1i (Z1i (Z1i (Z1i (Z1i (Z1i (Z1i (Z1i (Z1i (Z1i (Z1i (Z1i (Z1i (by kernel_rfl) Z7j) Zgd) (by kernel_rfl)) (by kernel_rfl)) (by kernel_rfl)) (by kernel_rfl)) (by kernel_rfl)) (by kernel_rfl)) Zge) Zei) Zej) Zek) (by kernel_rfl)) (by kernel_rfl)) (by kernel_rfl)) (by kernel_rfl)) (by kernel_rfl)) (by kernel_rfl)) (by kernel_rfl)) (by kernel_rfl)) (by kernel_rfl)) Zel) (by kernel_rfl)) Zem) Zen) Zeo) Zep) (by kernel_rfl)) (by kernel_rfl)) (by kernel_rfl)) (by kernel_rfl))
theorem Zc8:Tryz.f4.isInstance Tryz.pinned.checked.prog Rows.varyFitsRow.origin Rows.varyFitsRow.targs:=Zjd (by kernel_rfl)
theorem Zca:Tryz.f4.isWrapper Tryz.pinned.checked.prog Rows.varyFitsRow.wrapper Rows.varyFitsRow.mainSum:=by unfold Func.isWrapper;first | (rw [if_pos (by decide +kernel)];kernel_rfl) | (rw [if_neg (by decide +kernel)];exact ⟨rfl,rfl⟩)
theorem vfits_holds:Rows.VaryFitsSaid:=
 OpenClaim.holds_of_wide 4 Tryz.f4 rfl rfl rfl rfl rfl rfl rfl ⟨rfl,rfl,rfl,rfl,rfl⟩ rfl rfl rfl rfl rfl Zam Tryz.func4 Z9j
  Zc8 Zca
  (fun os started H enc _=>Z9k os started H enc)
end
end Go.Proofs.YtldndkngpdfpfaaGreat
