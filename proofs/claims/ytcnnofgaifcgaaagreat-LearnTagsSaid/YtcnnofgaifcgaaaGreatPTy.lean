/-
  For every input LearnTags answers true, and leaves its arguments and all that was there as they were. No conditions.
-/
import Derived.Test.YtcnnofgaifcgaaaGreatPTx
namespace Go.Proofs.YtcnnofgaifcgaaaGreat
set_option maxRecDepth 100000
set_option maxHeartbeats 32000000
set_option linter.unusedSimpArgs false
section
open Go.ChangeShapes Go.WideShapes Go.ChangeAt Go.RowKit Go.Deep
theorem Zmd:ownKnob Tryz.prog.godebug=none:=by kernel_rfl
theorem Zba:laidOutB Tryz.prog=true:=by kernel_rfl
theorem Zdv (os:Os) (started:os.Started) (H:Type) (enc:TypeId×Value→H) :
 ReturnsInHanded {} Tryz.checked os 3 .any (Rows.learnTagsSpec.pre6 enc Tryz.prog Tryz.f3 Rows.learnTagsRow.domain false) (Rows.learnTagsSpec.post enc Tryz.prog Tryz.f3 false true false false):=by
 refine returnsInHanded_of_change (C:=Tryz.checked) Zmd started (by kernel_rfl) Tryz.func3
  (ChangeSpec.witness6 (enc:=enc) (C:=Tryz.checked) false ⟨#[],#[.bool false,.int .i64 0,.slice none 0 0,.slice none 0 0],[]⟩ 8 (by kernel_rfl) (by kernel_rfl) (by kernel_rfl) (by kernel_rfl)) ?_
 intro W base args ds gs before Ez hW hcnd _;have Nv :∀(j:Nat) t v,Tryz.f3.params[j]? = some t→args[j]? = some v→Value.okWide Tryz.prog W .any base t v:=Ez;have hW':=hW;obtain ⟨p,q,sf,hV,rfl,hfz,hnd⟩:=hW;have hA:DataW.TrodAll enc Tryz.prog W 0 (fun _=>true) true Tryz.f3.params.toList args.toList ds p:=sf;rw [Tryz.params3] at hA Nv;obtain ⟨v0,v1,v2,v3,d0,d1,d2,d3,p0,p1,p2,p3,rfl,rfl,rfl,h0,h1,h2,h3⟩:=trodAll_four hA;obtain ⟨rfl,rfl⟩:=trodVars_none hV;obtain ⟨b0,rfl,_,_⟩:=open_bool Tryz.underlying4 (Nv 0 4 v0 rfl rfl) h0;obtain ⟨n1,rfl,_,_,_⟩:=open_int Tryz.underlying3 (Nv 1 3 v1 rfl rfl) h1;obtain ⟨m2,A2,c2,l2,rfl,r2⟩:=Zm8 (Nv 2 22 v2 rfl rfl) h2;obtain ⟨A3,c3,l3,rfl,r3⟩:=Zm9 Tryz.underlying23 (by decide) Zfy (Nv 3 23 v3 rfl rfl) h3;clear sf Ez;refine (Zj3 m2 b0 n1 l2 A2 c2 l3 A3 c3 W r2 r3.rd).mono fun e W' ⟨he,hb⟩=>?_;subst he
 exact ⟨_,rfl,Zmg (tb:=4) Zba rfl hW' (by kernel_rfl) Tryz.underlying4 (fun t ht=>by
  have Dn:t∈[4,3,22,23]:=by
   (have e:Tryz.f3.params.toList = [4,3,22,23]:=by rw [Tryz.params3]);rwa [e] at ht
  simp only [Ztb,Zth,or_false] at Dn
  rcases Dn with rfl|rfl|rfl|rfl<;>exact ⟨by kernel_rfl,of_decide_eq_true (by kernel_rfl)⟩) rfl rfl rfl hb⟩
theorem Zfm:Tryz.pinned.checked.prog.funcNamed Rows.learnTagsRow.func=some 3:=by kernel_rfl
theorem Z25 {a b:Bool}(h:a=true) (k:b=true):(a && b)=true:=by rw [h,k];rfl
theorem Zp0:mapsRowed Tryz.pinned.checked.prog=true:=by kernel_rfl
theorem Zp1:(Rows.learnTagsRow.inPlace == Tryz.pinned.checked.prog.inPlace 3)=true:=by kernel_rfl
theorem Zln:(Rows.learnTagsRow.unfollowed == Tryz.pinned.checked.prog.unfollowed 3)=true:=by kernel_rfl
theorem Zlo:(Rows.learnTagsRow.recurses == Tryz.pinned.checked.prog.recurses 3)=true:=by kernel_rfl
theorem Zlp:(Rows.learnTagsRow.named == Tryz.pinned.checked.prog.varsNamed 3)=true:=by kernel_rfl
theorem Zlq:(Rows.learnTagsRow.plainKeys == Tryz.pinned.checked.prog.plainKeys)=true:=by kernel_rfl
theorem Zlr:Tryz.pinned.checked.prog.stopsHeard=true:=by kernel_rfl
theorem Zls:Tryz.pinned.checked.prog.mayEnter=true:=by kernel_rfl
theorem Zlt:(Rows.learnTagsRow.lifted == Tryz.pinned.checked.prog.liftsFinal)=true:=by kernel_rfl
theorem Zlu:(Tryz.pinned.checked.prog.make == some Rows.learnTagsRow.make)=true:=by kernel_rfl
theorem Zdu:joinedFacts Tryz.pinned.checked.prog 3 Tryz.f3 Rows.learnTagsSpec Rows.learnTagsRow=true:=by
 unfold joinedFacts;exact (Z25 (Z25 (Z25 (Z25 (Z25 (Z25 (Z25 (Z25 (Z25 (Z25 (Z25 (Z25 (Z25 (Z25 (Z25 (Z25 (Z25 (Z25 (Z25 (Z25 (Z25 (Z25 (Z25 (Z25 (Z25 (Z25 (Z25 (Z25 (Z25 (Z25 (Z25 (by kernel_rfl) Zba) Zp0) (by kernel_rfl)) (by kernel_rfl)) (by kernel_rfl)) (by kernel_rfl)) (by kernel_rfl)) (by kernel_rfl)) Zp1) Zln) Zlo) Zlp) (by kernel_rfl)) (by kernel_rfl)) (by kernel_rfl)) (by kernel_rfl)) (by kernel_rfl)) (by kernel_rfl)) (by kernel_rfl)) (by kernel_rfl)) (by kernel_rfl)) Zlq) (by kernel_rfl)) Zlr) Zls) Zlt) Zlu) (by kernel_rfl)) (by kernel_rfl)) (by kernel_rfl)) (by kernel_rfl))
theorem Zj2:Tryz.f3.isInstance Tryz.pinned.checked.prog Rows.learnTagsRow.origin Rows.learnTagsRow.targs:=of_decide_eq_true (by kernel_rfl)
theorem Zj4:Tryz.f3.isWrapper Tryz.pinned.checked.prog Rows.learnTagsRow.wrapper Rows.learnTagsRow.mainSum:=by unfold Func.isWrapper;first|(rw [if_pos (by decide +kernel)];kernel_rfl)|(rw [if_neg (by decide +kernel)];exact ⟨rfl,rfl⟩)
theorem ltags_holds:Rows.LearnTagsSaid:=
 OpenClaim.holds_of_wide 3 Tryz.f3 rfl rfl rfl rfl rfl rfl rfl ⟨rfl,rfl,rfl,rfl,rfl⟩ rfl rfl rfl rfl rfl Zfm Tryz.func3 Zdu
  Zj2 Zj4
  (fun os started H enc _=>Zdv os started H enc)
end
end Go.Proofs.YtcnnofgaifcgaaaGreat
