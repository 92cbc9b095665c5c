/-
  For every input LearnFirst answers true, and leaves its arguments and all that was there as they were. No conditions.
-/
import Derived.Test.YtldndkngpdfpfaaGreatPFy
namespace Go.Proofs.YtldndkngpdfpfaaGreat
open Lib (hid)
set_option maxRecDepth 100000
set_option maxHeartbeats 32000000
section
open Go.ChangeShapes Go.WideShapes Go.ChangeAt Go.RowKit Go.Deep
theorem Zmv:ownKnob Tryz.prog.godebug=none:=by kernel_rfl
theorem Zee:laidOutB Tryz.prog=true:=by kernel_rfl
theorem Zff (os:Os) (started:os.Started) (H:Type) (enc:TypeId×Value→H) :
 ReturnsInHanded {} Tryz.checked os 12 .any (Rows.learnFirstSpec.pre6 enc Tryz.prog Tryz.f12 Rows.learnFirstRow.domain false) (Rows.learnFirstSpec.post enc Tryz.prog Tryz.f12 false true false false):=by
 refine returnsInHanded_of_change (C:=Tryz.checked) Zmv started (by kernel_rfl) Tryz.func12
  (ChangeSpec.witness6 (enc:=enc) (C:=Tryz.checked) false ⟨#[],#[.int .i64 0,.slice none 0 0,.slice none 0 0,.slice none 0 0],[]⟩ 8 (by kernel_rfl) (by kernel_rfl) (by kernel_rfl) (by kernel_rfl)) ?_
 intro W base args ds gs before hval0 hW hcnd _;have hval : ∀(j:Nat) t v,Tryz.f12.params[j]? = some t→args[j]? = some v→Value.okWide Tryz.prog W .any base t v:=hval0;have hW':=hW;obtain ⟨p,q,hA0,hV,rfl,hfz,hnd⟩:=hW;have hA:DataW.TrodAll enc Tryz.prog W 0 (fun _=>true) true Tryz.f12.params.toList args.toList ds p:=hA0;rw [Tryz.params12] at hA hval;obtain ⟨v0,v1,v2,v3,d0,d1,d2,d3,p0,p1,p2,p3,rfl,rfl,rfl,h0,h1,h2,h3⟩:=trodAll_four hA;obtain ⟨rfl,rfl⟩:=trodVars_none hV;obtain ⟨n0,rfl,_,_,_⟩:=open_int Tryz.underlying3 (hval 0 3 v0 rfl rfl) h0;obtain ⟨A1,c1,l1,rfl,r1⟩:=Z8o Tryz.underlying29 (by decide) Z8p (hval 1 29 v1 rfl rfl) h1;obtain ⟨A2,c2,l2,rfl,r2⟩:=Z8o Tryz.underlying102 (by decide) Zft (hval 2 102 v2 rfl rfl) h2;obtain ⟨A3,c3,l3,rfl,r3⟩:=Z8o Tryz.underlying29 (by decide) Z8p (hval 3 29 v3 rfl rfl) h3;clear hA0 hval0;refine (Zkh n0 l1 A1 c1 l2 A2 c2 l3 A3 c3 W r1.rd r2.rd r3.rd).mono fun e W' ⟨he,hb⟩=>?_;subst he
 exact ⟨_,rfl,Zid (tb:=4) Zee rfl hW' (by kernel_rfl) Tryz.underlying4 (fun t ht=>by
  have ht':t∈[3,29,102,29]:=by
   (have e:Tryz.f12.params.toList = [3,29,102,29]:=by rw [Tryz.params12]);rwa [e] at ht
  simp only [Zoj,Zoq,or_false] at ht'
  rcases ht' with rfl | rfl | rfl | rfl<;>exact ⟨by kernel_rfl,Zpi (by kernel_rfl)⟩) rfl rfl rfl hb⟩
theorem Zhv:Tryz.pinned.checked.prog.funcNamed Rows.learnFirstRow.func=some 12:=by kernel_rfl
theorem Z1r {a b:Bool} (h:a=true) (k:b=true):(a && b)=true:=by rw [h,k];rfl
theorem Zne:mapsRowed Tryz.pinned.checked.prog=true:=by kernel_rfl
theorem Znf:(Rows.learnFirstRow.inPlace == Tryz.pinned.checked.prog.inPlace 12)=true:=by kernel_rfl
theorem Zm8:(Rows.learnFirstRow.unfollowed == Tryz.pinned.checked.prog.unfollowed 12)=true:=by kernel_rfl
theorem Zm9:(Rows.learnFirstRow.recurses == Tryz.pinned.checked.prog.recurses 12)=true:=by kernel_rfl
theorem Zma:(Rows.learnFirstRow.named == Tryz.pinned.checked.prog.varsNamed 12)=true:=by kernel_rfl
theorem Zmb:(Rows.learnFirstRow.plainKeys == Tryz.pinned.checked.prog.plainKeys)=true:=by kernel_rfl
theorem Zmc:Tryz.pinned.checked.prog.stopsHeard=true:=by kernel_rfl
theorem Zmd:Tryz.pinned.checked.prog.mayEnter=true:=by kernel_rfl
theorem Zme:(Rows.learnFirstRow.lifted == Tryz.pinned.checked.prog.liftsFinal)=true:=by kernel_rfl
theorem Zmf:(Tryz.pinned.checked.prog.make == some Rows.learnFirstRow.make)=true:=by kernel_rfl
theorem Zfe:joinedFacts Tryz.pinned.checked.prog 12 Tryz.f12 Rows.learnFirstSpec Rows.learnFirstRow=true:=by
 unfold joinedFacts;exact (Z1r (Z1r (Z1r (Z1r (Z1r (Z1r (Z1r (Z1r (Z1r (Z1r (Z1r (Z1r (Z1r (Z1r (Z1r (Z1r (Z1r (Z1r (Z1r (Z1r (Z1r (Z1r (Z1r (Z1r (Z1r (Z1r (Z1r (Z1r (Z1r (Z1r (Z1r (by kernel_rfl) Zee) Zne) (by kernel_rfl)) (by kernel_rfl)) (by kernel_rfl)) (by kernel_rfl)) (by kernel_rfl)) (by kernel_rfl)) Znf) Zm8) Zm9) Zma) (by kernel_rfl)) (by kernel_rfl)) (by kernel_rfl)) (by kernel_rfl)) (by kernel_rfl)) (by kernel_rfl)) (by kernel_rfl)) (by kernel_rfl)) (by kernel_rfl)) Zmb) (by kernel_rfl)) Zmc) Zmd) Zme) Zmf) (by kernel_rfl)) (by kernel_rfl)) (by kernel_rfl)) (by kernel_rfl))
theorem Zkg:Tryz.f12.isInstance Tryz.pinned.checked.prog Rows.learnFirstRow.origin Rows.learnFirstRow.targs:=Zpi (by kernel_rfl)
theorem Zki:Tryz.f12.isWrapper Tryz.pinned.checked.prog Rows.learnFirstRow.wrapper Rows.learnFirstRow.mainSum:=by unfold Func.isWrapper;first | (rw [if_pos (by decide +kernel)];kernel_rfl) | (rw [if_neg (by decide +kernel)];exact ⟨rfl,rfl⟩)
theorem lfs_holds:Rows.LearnFirstSaid:=
 OpenClaim.holds_of_wide 12 Tryz.f12 rfl rfl rfl rfl rfl rfl rfl ⟨rfl,rfl,rfl,rfl,rfl⟩ rfl rfl rfl rfl rfl Zhv Tryz.func12 Zfe
  Zkg Zki
  (fun os started H enc _=>Zff os started H enc)
end
end Go.Proofs.YtldndkngpdfpfaaGreat
