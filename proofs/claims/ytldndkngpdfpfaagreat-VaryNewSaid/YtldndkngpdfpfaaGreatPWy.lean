/-
  For every input VaryNew answers true, and leaves its arguments and all that was there as they were. No conditions.
-/
import Derived.Test.YtldndkngpdfpfaaGreatPWx
namespace Go.Proofs.YtldndkngpdfpfaaGreat
open Go.ChangeShapes Go.WideShapes Go.ChangeAt Go.RowKit Go.Deep
theorem own_vnew:ownKnob Tryz.prog.godebug=none:=by kernel_rfl
theorem laid_vnew:laidOutB Tryz.prog=true:=by kernel_rfl
set_option maxRecDepth 100000 in
theorem vnew_lifted (os:Os) (started:os.Started) (H:Type) (enc:TypeId×Value→H) :
 ReturnsInHanded {} Tryz.checked os 7 .any (Rows.varyNewSpec.pre6 enc Tryz.prog Tryz.f7 Rows.varyNewRow.domain false) (Rows.varyNewSpec.post enc Tryz.prog Tryz.f7 false true false false):=by
 refine returnsInHanded_of_change (C:=Tryz.checked) own_vnew started (by kernel_rfl) Tryz.func7
  (ChangeSpec.witness6 (enc:=enc) (C:=Tryz.checked) false ⟨#[],#[.slice none 0 0,.slice none 0 0,.slice none 0 0],[]⟩ 8 (by kernel_rfl) (by kernel_rfl) (by kernel_rfl) (by kernel_rfl)) ?_
 intro W base args ds gs before hval0 hW hcnd _
 have hval : ∀(j:Nat) t v,Tryz.f7.params[j]? = some t→args[j]? = some v→Value.okWide Tryz.prog W .any base t v:=hval0
 have hW':=hW
 obtain ⟨p,q,hA0,hV,rfl,hfz,hnd⟩:=hW
 have hA:DataW.TrodAll enc Tryz.prog W 0 (fun _=>true) true Tryz.f7.params.toList args.toList ds p:=hA0
 rw [Tryz.params7] at hA hval
 obtain ⟨v0,v1,v2,d0,d1,d2,p0,p1,p2,rfl,rfl,rfl,h0,h1,h2⟩:=trodAll_three hA
 obtain ⟨rfl,rfl⟩:=trodVars_none hV
 obtain ⟨A0,c0,l0,rfl,r0⟩:=open_rowR Tryz.underlying27 (by decide) opens_TraceT (hval 0 27 v0 rfl rfl) h0
 obtain ⟨A1,c1,l1,rfl,r1⟩:=open_rowR Tryz.underlying29 (by decide) opens_PrefT (hval 1 29 v1 rfl rfl) h1
 obtain ⟨A2,c2,l2,rfl,r2⟩:=open_rowR Tryz.underlying36 (by decide) opens_Sym (hval 2 36 v2 rfl rfl) h2
 clear hA0 hval0
 refine (vnew_walk l0 A0 c0 l1 A1 c1 l2 A2 c2 W r0.rd r1.rd r2.rd).mono fun e W' ⟨he,hb⟩=>?_
 subst he
 exact ⟨_,rfl,post_true (tb:=4) laid_vnew rfl hW' (by kernel_rfl) Tryz.underlying4 (fun t ht=>by
  have ht':t∈[27,29,36]:=by
   have e:Tryz.f7.params.toList = [27,29,36]:=by rw [Tryz.params7]
   rwa [e] at ht
  simp only [List.mem_cons,List.not_mem_nil,or_false] at ht'
  rcases ht' with rfl | rfl | rfl<;>exact ⟨by kernel_rfl,of_decide_eq_true (by kernel_rfl)⟩) rfl rfl rfl hb⟩
theorem vnew_named:Tryz.pinned.checked.prog.funcNamed Rows.varyNewRow.func=some 7:=by kernel_rfl
theorem vnew_closed:joinedFacts Tryz.pinned.checked.prog 7 Tryz.f7 Rows.varyNewSpec Rows.varyNewRow=true:=by kernel_rfl
theorem vnew_holds:Rows.VaryNewSaid:=
 OpenClaim.holds_of_wide 7 Tryz.f7 rfl rfl rfl rfl rfl rfl rfl ⟨rfl,rfl,rfl,rfl,rfl⟩ rfl rfl rfl rfl rfl vnew_named Tryz.func7 vnew_closed
  (of_decide_eq_true (by kernel_rfl)) (by unfold Func.isWrapper;first | (rw [if_pos (by decide +kernel)];kernel_rfl) | (rw [if_neg (by decide +kernel)];exact ⟨rfl,rfl⟩))
  (fun os started H enc _=>vnew_lifted os started H enc)
end Go.Proofs.YtldndkngpdfpfaaGreat
