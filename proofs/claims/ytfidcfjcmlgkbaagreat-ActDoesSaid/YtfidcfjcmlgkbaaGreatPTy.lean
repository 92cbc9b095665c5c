/-
  For every input ActDoes answers true, and leaves its arguments and all that was there as they were. No conditions.
-/
import Derived.Test.YtfidcfjcmlgkbaaGreatPTx
namespace Go.Proofs.YtfidcfjcmlgkbaaGreat
open Lib (hid)
set_option maxRecDepth 100000
set_option maxHeartbeats 32000000
section
open Go.ChangeShapes Go.WideShapes Go.ChangeAt Go.RowKit Go.Deep
theorem Zi5:ownKnob Tryz.prog.godebug=none:=by kernel_rfl
theorem Zb3:laidOutB Tryz.prog=true:=by kernel_rfl
theorem Zc6 (os:Os) (started:os.Started) (H:Type) (enc:TypeId×Value→H) :
 ReturnsInHanded {} Tryz.checked os 3 .any (Rows.actDoesSpec.pre6 enc Tryz.prog Tryz.f3 Rows.actDoesRow.domain false) (Rows.actDoesSpec.post enc Tryz.prog Tryz.f3 false true false false):=by
 refine returnsInHanded_of_change (C:=Tryz.checked) Zi5 started (by kernel_rfl) Tryz.func3
  (ChangeSpec.witness6 (enc:=enc) (C:=Tryz.checked) false ⟨#[],#[.agg #[.string ⟨#[]⟩,.slice none 0 0,.slice none 0 0],.slice none 0 0,.int .i64 0,.slice none 0 0],[]⟩ 8 (by kernel_rfl) (by kernel_rfl) (by kernel_rfl) (by kernel_rfl)) ?_
 intro W base args ds gs before hval0 hW hcnd _;have hval : ∀(j:Nat) t v,Tryz.f3.params[j]? = some t→args[j]? = some v→Value.okWide Tryz.prog W .any base t v:=hval0;have hW':=hW;obtain ⟨p,q,hA0,hV,rfl,hfz,hnd⟩:=hW;have hA:DataW.TrodAll enc Tryz.prog W 0 (fun _=>true) true Tryz.f3.params.toList args.toList ds p:=hA0;rw [Tryz.params3] at hA hval;obtain ⟨v0,v1,v2,v3,d0,d1,d2,d3,p0,p1,p2,p3,rfl,rfl,rfl,h0,h1,h2,h3⟩:=trodAll_four hA;obtain ⟨rfl,rfl⟩:=trodVars_none hV;obtain ⟨m0,x0,B0,b0,C0,e0,rfl,rc0,ra0⟩:=Zed (hval 0 25 v0 rfl rfl) h0;obtain ⟨A1,c1,l1,rfl,r1⟩:=Zg9 Tryz.underlying26 (by decide) Zcm (hval 1 26 v1 rfl rfl) h1;obtain ⟨n2,rfl,_,_,_⟩:=open_int Tryz.underlying3 (hval 2 3 v2 rfl rfl) h2;obtain ⟨A3,c3,l3,rfl,r3⟩:=Zi2 Tryz.underlying27 (by omega) Zbm (hval 3 27 v3 rfl rfl) h3;clear hA0 hval0;refine (Zfc m0 x0 B0 C0 A1 A3 b0 e0 c1 c3 l1 n2 l3 W rc0 ra0 r1 r3).mono fun e W' ⟨he,hb⟩=>?_;subst he
 exact ⟨_,rfl,Zge (tb:=4) Zb3 rfl hW' (by kernel_rfl) Tryz.underlying4 (fun t ht=>by
  have ht':t∈[25,26,3,27]:=by
   (have e:Tryz.f3.params.toList = [25,26,3,27]:=by rw [Tryz.params3]);rwa [e] at ht
  simp only [Zl7,Zl9,or_false] at ht'
  rcases ht' with rfl | rfl | rfl | rfl<;>exact ⟨by kernel_rfl,of_decide_eq_true (by kernel_rfl)⟩) rfl rfl rfl hb⟩
theorem Ze4:Tryz.pinned.checked.prog.funcNamed Rows.actDoesRow.func=some 3:=by kernel_rfl
theorem Z24 {a b:Bool} (h:a=true) (k:b=true):(a && b)=true:=by rw [h,k];rfl
theorem Zjc:mapsRowed Tryz.pinned.checked.prog=true:=by kernel_rfl
theorem Zjd:(Rows.actDoesRow.inPlace == Tryz.pinned.checked.prog.inPlace 3)=true:=by kernel_rfl
theorem Zhb:(Rows.actDoesRow.unfollowed == Tryz.pinned.checked.prog.unfollowed 3)=true:=by kernel_rfl
theorem Zhc:(Rows.actDoesRow.recurses == Tryz.pinned.checked.prog.recurses 3)=true:=by kernel_rfl
theorem Zhd:(Rows.actDoesRow.named == Tryz.pinned.checked.prog.varsNamed 3)=true:=by kernel_rfl
theorem Zhe:(Rows.actDoesRow.plainKeys == Tryz.pinned.checked.prog.plainKeys)=true:=by kernel_rfl
theorem Zhf:Tryz.pinned.checked.prog.stopsHeard=true:=by kernel_rfl
theorem Zhg:Tryz.pinned.checked.prog.mayEnter=true:=by kernel_rfl
theorem Zhh:(Rows.actDoesRow.lifted == Tryz.pinned.checked.prog.liftsFinal)=true:=by kernel_rfl
theorem Zhi:(Tryz.pinned.checked.prog.make == some Rows.actDoesRow.make)=true:=by kernel_rfl
theorem Zc5:joinedFacts Tryz.pinned.checked.prog 3 Tryz.f3 Rows.actDoesSpec Rows.actDoesRow=true:=by
 unfold joinedFacts;exact (Z24 (Z24 (Z24 (Z24 (Z24 (Z24 (Z24 (Z24 (Z24 (Z24 (Z24 (Z24 (Z24 (Z24 (Z24 (Z24 (Z24 (Z24 (Z24 (Z24 (Z24 (Z24 (Z24 (Z24 (Z24 (Z24 (Z24 (Z24 (Z24 (Z24 (Z24 (by kernel_rfl) Zb3) Zjc) (by kernel_rfl)) (by kernel_rfl)) (by kernel_rfl)) (by kernel_rfl)) (by kernel_rfl)) (by kernel_rfl)) Zjd) Zhb) Zhc) Zhd) (by kernel_rfl)) (by kernel_rfl)) (by kernel_rfl)) (by kernel_rfl)) (by kernel_rfl)) (by kernel_rfl)) (by kernel_rfl)) (by kernel_rfl)) (by kernel_rfl)) Zhe) (by kernel_rfl)) Zhf) Zhg) Zhh) Zhi) (by kernel_rfl)) (by kernel_rfl)) (by kernel_rfl)) (by kernel_rfl))
theorem Zfa:Tryz.f3.isInstance Tryz.pinned.checked.prog Rows.actDoesRow.origin Rows.actDoesRow.targs:=of_decide_eq_true (by kernel_rfl)
theorem Zfd:Tryz.f3.isWrapper Tryz.pinned.checked.prog Rows.actDoesRow.wrapper Rows.actDoesRow.mainSum:=by unfold Func.isWrapper;first | (rw [if_pos (by decide +kernel)];kernel_rfl) | (rw [if_neg (by decide +kernel)];exact ⟨rfl,rfl⟩)
theorem does_holds:Rows.ActDoesSaid:=
 OpenClaim.holds_of_wide 3 Tryz.f3 rfl rfl rfl rfl rfl rfl rfl ⟨rfl,rfl,rfl,rfl,rfl⟩ rfl rfl rfl rfl rfl Ze4 Tryz.func3 Zc5
  Zfa Zfd
  (fun os started H enc _=>Zc6 os started H enc)
end
end Go.Proofs.YtfidcfjcmlgkbaaGreat
