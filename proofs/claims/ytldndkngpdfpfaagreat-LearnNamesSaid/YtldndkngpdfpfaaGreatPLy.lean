/-
  For every input LearnNames answers true, and leaves its arguments and all that was there as they were. No conditions.
-/
import Derived.Test.YtldndkngpdfpfaaGreatPLx
namespace Go.Proofs.YtldndkngpdfpfaaGreat
set_option maxRecDepth 100000
set_option maxHeartbeats 32000000
section
open Go.ChangeShapes Go.WideShapes Go.ChangeAt Go.RowKit Go.Deep
theorem own_lnames:ownKnob Tryz.prog.godebug=none:=by kernel_rfl
theorem laid_lnames:laidOutB Tryz.prog=true:=by kernel_rfl
theorem lnames_lifted (os:Os) (started:os.Started) (H:Type) (enc:TypeId×Value→H) :
 ReturnsInHanded {} Tryz.checked os 10 .any (Rows.learnNamesSpec.pre6 enc Tryz.prog Tryz.f10 Rows.learnNamesRow.domain false) (Rows.learnNamesSpec.post enc Tryz.prog Tryz.f10 false true false false):=by
 refine returnsInHanded_of_change (C:=Tryz.checked) own_lnames started (by kernel_rfl) Tryz.func10
  (ChangeSpec.witness6 (enc:=enc) (C:=Tryz.checked) false ⟨#[],#[.slice none 0 0,.slice none 0 0],[]⟩ 8 (by kernel_rfl) (by kernel_rfl) (by kernel_rfl) (by kernel_rfl)) ?_
 intro W base args ds gs before hval0 hW hcnd _;have hval : ∀(j:Nat) t v,Tryz.f10.params[j]? = some t→args[j]? = some v→Value.okWide Tryz.prog W .any base t v:=hval0;have hW':=hW;obtain ⟨p,q,hA0,hV,rfl,hfz,hnd⟩:=hW;have hA:DataW.TrodAll enc Tryz.prog W 0 (fun _=>true) true Tryz.f10.params.toList args.toList ds p:=hA0;rw [Tryz.params10] at hA hval;obtain ⟨v0,v1,d0,d1,p0,p1,rfl,rfl,rfl,h0,h1⟩:=trodAll_two hA;obtain ⟨rfl,rfl⟩:=trodVars_none hV;obtain ⟨A0,c0,l0,rfl,r0⟩:=open_row Tryz.underlying46 (by omega) (reads_int Tryz.underlying3 (by kernel_rfl)) (hval 0 46 v0 rfl rfl) h0;obtain ⟨A1,c1,l1,rfl,r1⟩:=open_row Tryz.underlying94 (by omega) reads_strL (hval 1 94 v1 rfl rfl) h1;clear hA0 hval0;refine (lnames_walk A0 c0 l0 A1 c1 l1 W r0 r1).mono fun e W' ⟨he,hb⟩=>?_;subst he
 exact ⟨_,rfl,post_true (tb:=4) laid_lnames rfl hW' (by kernel_rfl) Tryz.underlying4 (fun t ht=>by
  have ht':t∈[46,94]:=by
   (have e:Tryz.f10.params.toList = [46,94]:=by rw [Tryz.params10]);rwa [e] at ht
  simp only [List.mem_cons,List.not_mem_nil,or_false] at ht'
  rcases ht' with rfl | rfl<;>exact ⟨by kernel_rfl,of_decide_eq_true (by kernel_rfl)⟩) rfl rfl rfl hb⟩
theorem lnames_named:Tryz.pinned.checked.prog.funcNamed Rows.learnNamesRow.func=some 10:=by kernel_rfl
theorem and_iL {a b:Bool} (h:a=true) (k:b=true):(a && b)=true:=by rw [h,k];rfl
theorem lnames_j2:mapsRowed Tryz.pinned.checked.prog=true:=by kernel_rfl
theorem lnames_j9:(Rows.learnNamesRow.inPlace == Tryz.pinned.checked.prog.inPlace 10)=true:=by kernel_rfl
theorem lnames_j10:(Rows.learnNamesRow.unfollowed == Tryz.pinned.checked.prog.unfollowed 10)=true:=by kernel_rfl
theorem lnames_j11:(Rows.learnNamesRow.recurses == Tryz.pinned.checked.prog.recurses 10)=true:=by kernel_rfl
theorem lnames_j12:(Rows.learnNamesRow.named == Tryz.pinned.checked.prog.varsNamed 10)=true:=by kernel_rfl
theorem lnames_j22:(Rows.learnNamesRow.plainKeys == Tryz.pinned.checked.prog.plainKeys)=true:=by kernel_rfl
theorem lnames_j24:Tryz.pinned.checked.prog.stopsHeard=true:=by kernel_rfl
theorem lnames_j25:Tryz.pinned.checked.prog.mayEnter=true:=by kernel_rfl
theorem lnames_j26:(Rows.learnNamesRow.lifted == Tryz.pinned.checked.prog.liftsFinal)=true:=by kernel_rfl
theorem lnames_j27:(Tryz.pinned.checked.prog.make == some Rows.learnNamesRow.make)=true:=by kernel_rfl
theorem lnames_closed:joinedFacts Tryz.pinned.checked.prog 10 Tryz.f10 Rows.learnNamesSpec Rows.learnNamesRow=true:=by
 unfold joinedFacts;exact (and_iL (and_iL (and_iL (and_iL (and_iL (and_iL (and_iL (and_iL (and_iL (and_iL (and_iL (and_iL (and_iL (and_iL (and_iL (and_iL (and_iL (and_iL (and_iL (and_iL (and_iL (and_iL (and_iL (and_iL (and_iL (and_iL (and_iL (and_iL (and_iL (and_iL (and_iL (by kernel_rfl) laid_lnames) lnames_j2) (by kernel_rfl)) (by kernel_rfl)) (by kernel_rfl)) (by kernel_rfl)) (by kernel_rfl)) (by kernel_rfl)) lnames_j9) lnames_j10) lnames_j11) lnames_j12) (by kernel_rfl)) (by kernel_rfl)) (by kernel_rfl)) (by kernel_rfl)) (by kernel_rfl)) (by kernel_rfl)) (by kernel_rfl)) (by kernel_rfl)) (by kernel_rfl)) lnames_j22) (by kernel_rfl)) lnames_j24) lnames_j25) lnames_j26) lnames_j27) (by kernel_rfl)) (by kernel_rfl)) (by kernel_rfl)) (by kernel_rfl))
theorem lnames_inst:Tryz.f10.isInstance Tryz.pinned.checked.prog Rows.learnNamesRow.origin Rows.learnNamesRow.targs:=of_decide_eq_true (by kernel_rfl)
theorem lnames_wrap:Tryz.f10.isWrapper Tryz.pinned.checked.prog Rows.learnNamesRow.wrapper Rows.learnNamesRow.mainSum:=by unfold Func.isWrapper;first | (rw [if_pos (by decide +kernel)];kernel_rfl) | (rw [if_neg (by decide +kernel)];exact ⟨rfl,rfl⟩)
theorem lnames_holds:Rows.LearnNamesSaid:=
 OpenClaim.holds_of_wide 10 Tryz.f10 rfl rfl rfl rfl rfl rfl rfl ⟨rfl,rfl,rfl,rfl,rfl⟩ rfl rfl rfl rfl rfl lnames_named Tryz.func10 lnames_closed
  lnames_inst lnames_wrap
  (fun os started H enc _=>lnames_lifted os started H enc)
end
end Go.Proofs.YtldndkngpdfpfaaGreat
