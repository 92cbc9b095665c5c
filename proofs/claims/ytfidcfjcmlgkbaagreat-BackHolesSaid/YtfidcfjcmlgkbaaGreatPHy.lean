/-
  For every input BackHoles answers true, and leaves its arguments and all that was there as they were. No conditions.
-/
import Derived.Test.YtfidcfjcmlgkbaaGreatPHx
namespace Go.Proofs.YtfidcfjcmlgkbaaGreat
open Lib (hid)
set_option maxRecDepth 100000
set_option maxHeartbeats 32000000
set_option linter.unusedSimpArgs false
section
open Go.ChangeShapes Go.WideShapes Go.ChangeAt Go.RowKit Go.Deep
theorem Zg3:ownKnob Tryz.prog.godebug=none:=by kernel_rfl
theorem Z8m:laidOutB Tryz.prog=true:=by kernel_rfl
theorem Za1 (os:Os) (started:os.Started) (H:Type) (enc:TypeId×Value→H) :
 ReturnsInHanded {} Tryz.checked os 5 .any (Rows.backHolesSpec.pre6 enc Tryz.prog Tryz.f5 Rows.backHolesRow.domain false) (Rows.backHolesSpec.post enc Tryz.prog Tryz.f5 false true false false):=by
 refine returnsInHanded_of_change (C:=Tryz.checked) Zg3 started (by kernel_rfl) Tryz.func5
  (ChangeSpec.witness6 (enc:=enc) (C:=Tryz.checked) false ⟨#[],#[.agg #[.string ⟨#[]⟩,.slice none 0 0,.slice none 0 0],.slice none 0 0],[]⟩ 8 (by kernel_rfl) (by kernel_rfl) (by kernel_rfl) (by kernel_rfl)) ?_
 intro W base args ds gs before hval0 hW hcnd _;have hval : ∀(j:Nat) t v,Tryz.f5.params[j]? = some t→args[j]? = some v→Value.okWide Tryz.prog W .any base t v:=hval0;have hW':=hW;obtain ⟨p,q,hA0,hV,rfl,hfz,hnd⟩:=hW;have hA:DataW.TrodAll enc Tryz.prog W 0 (fun _=>true) true Tryz.f5.params.toList args.toList ds p:=hA0;rw [Tryz.params5] at hA hval;obtain ⟨v0,v1,d0,d1,p0,p1,rfl,rfl,rfl,h0,h1⟩:=trodAll_two hA;obtain ⟨rfl,rfl⟩:=trodVars_none hV;obtain ⟨m0,x0,B0,b0,C0,e0,rfl,rc0,ra0⟩:=Zg2 (hval 0 25 v0 rfl rfl) h0;obtain ⟨A1,c1,l1,rfl,r1⟩:=Zhr Tryz.underlying26 (by decide) Zdc (hval 1 26 v1 rfl rfl) h1;clear hA0 hval0;refine (Zco m0 x0 B0 C0 A1 b0 e0 c1 l1 W rc0 ra0 r1).mono fun e W' ⟨he,hb⟩=>?_;subst he
 exact ⟨_,rfl,Zhu (tb:=4) Z8m rfl hW' (by kernel_rfl) Tryz.underlying4 (fun t ht=>by
  have ht':t∈[25,26]:=by
   (have e:Tryz.f5.params.toList = [25,26]:=by rw [Tryz.params5]);rwa [e] at ht
  simp only [Zms,Zmw,or_false] at ht'
  rcases ht' with rfl | rfl<;>exact ⟨by kernel_rfl,of_decide_eq_true (by kernel_rfl)⟩) rfl rfl rfl hb⟩
theorem Zb6:Tryz.pinned.checked.prog.funcNamed Rows.backHolesRow.func=some 5:=by kernel_rfl
theorem Z1u {a b:Bool} (h:a=true) (k:b=true):(a && b)=true:=by rw [h,k];rfl
theorem Zgk:mapsRowed Tryz.pinned.checked.prog=true:=by kernel_rfl
theorem Zgl:(Rows.backHolesRow.inPlace == Tryz.pinned.checked.prog.inPlace 5)=true:=by kernel_rfl
theorem Zf8:(Rows.backHolesRow.unfollowed == Tryz.pinned.checked.prog.unfollowed 5)=true:=by kernel_rfl
theorem Zf9:(Rows.backHolesRow.recurses == Tryz.pinned.checked.prog.recurses 5)=true:=by kernel_rfl
theorem Zfa:(Rows.backHolesRow.named == Tryz.pinned.checked.prog.varsNamed 5)=true:=by kernel_rfl
theorem Zfb:(Rows.backHolesRow.plainKeys == Tryz.pinned.checked.prog.plainKeys)=true:=by kernel_rfl
theorem Zfc:Tryz.pinned.checked.prog.stopsHeard=true:=by kernel_rfl
theorem Zfd:Tryz.pinned.checked.prog.mayEnter=true:=by kernel_rfl
theorem Zfe:(Rows.backHolesRow.lifted == Tryz.pinned.checked.prog.liftsFinal)=true:=by kernel_rfl
theorem Zff:(Tryz.pinned.checked.prog.make == some Rows.backHolesRow.make)=true:=by kernel_rfl
theorem Za0:joinedFacts Tryz.pinned.checked.prog 5 Tryz.f5 Rows.backHolesSpec Rows.backHolesRow=true:=by
 unfold joinedFacts;exact (Z1u (Z1u (Z1u (Z1u (Z1u (Z1u (Z1u (Z1u (Z1u (Z1u (Z1u (Z1u (Z1u (Z1u (Z1u (Z1u (Z1u (Z1u (Z1u (Z1u (Z1u (Z1u (Z1u (Z1u (Z1u (Z1u (Z1u (Z1u (Z1u (Z1u (Z1u (by kernel_rfl) Z8m) Zgk) (by kernel_rfl)) (by kernel_rfl)) (by kernel_rfl)) (by kernel_rfl)) (by kernel_rfl)) (by kernel_rfl)) Zgl) Zf8) Zf9) Zfa) (by kernel_rfl)) (by kernel_rfl)) (by kernel_rfl)) (by kernel_rfl)) (by kernel_rfl)) (by kernel_rfl)) (by kernel_rfl)) (by kernel_rfl)) (by kernel_rfl)) Zfb) (by kernel_rfl)) Zfc) Zfd) Zfe) Zff) (by kernel_rfl)) (by kernel_rfl)) (by kernel_rfl)) (by kernel_rfl))
theorem Zcn:Tryz.f5.isInstance Tryz.pinned.checked.prog Rows.backHolesRow.origin Rows.backHolesRow.targs:=of_decide_eq_true (by kernel_rfl)
theorem Zcp:Tryz.f5.isWrapper Tryz.pinned.checked.prog Rows.backHolesRow.wrapper Rows.backHolesRow.mainSum:=by unfold Func.isWrapper;first | (rw [if_pos (by decide +kernel)];kernel_rfl) | (rw [if_neg (by decide +kernel)];exact ⟨rfl,rfl⟩)
theorem bholes_holds:Rows.BackHolesSaid:=
 OpenClaim.holds_of_wide 5 Tryz.f5 rfl rfl rfl rfl rfl rfl rfl ⟨rfl,rfl,rfl,rfl,rfl⟩ rfl rfl rfl rfl rfl Zb6 Tryz.func5 Za0
  Zcn Zcp
  (fun os started H enc _=>Za1 os started H enc)
end
end Go.Proofs.YtfidcfjcmlgkbaaGreat
