/-
  For every input BackMade answers true, and leaves its arguments and all that was there as they were. No conditions.
-/
import Derived.Test.YtfidcfjcmlgkbaaGreatPMz0
namespace Go.Proofs.YtfidcfjcmlgkbaaGreat
open Lib (hid)
set_option maxRecDepth 100000
set_option maxHeartbeats 32000000
set_option linter.unusedSimpArgs false
section
open Go.ChangeShapes Go.WideShapes Go.ChangeAt Go.RowKit Go.Deep
theorem Zgp {H:Type}{enc:TypeId×Value→H}{P:Program}{w:World}{base:Nat}{spare:Nat→Bool}{held:Bool}{t0 t1 t2 t3 t4 t5 t6 t7:TypeId}{args:Array Value}{ds:List (DataW H)}{ps:List MemPlace}(h:DataW.TrodAll enc P w base spare held [t0,t1,t2,t3,t4,t5,t6,t7] args.toList ds ps) :
 ∃v0 v1 v2 v3 v4 v5 v6 v7 d0 d1 d2 d3 d4 d5 d6 d7 p0 p1 p2 p3 p4 p5 p6 p7,args = #[v0,v1,v2,v3,v4,v5,v6,v7]∧ds = [d0,d1,d2,d3,d4,d5,d6,d7]∧ps=p0++p1++p2++p3++p4++p5++p6++p7∧DataW.Trod enc P w base spare held t0 v0 d0 p0∧DataW.Trod enc P w base spare held t1 v1 d1 p1∧DataW.Trod enc P w base spare held t2 v2 d2 p2∧DataW.Trod enc P w base spare held t3 v3 d3 p3∧DataW.Trod enc P w base spare held t4 v4 d4 p4∧DataW.Trod enc P w base spare held t5 v5 d5 p5∧DataW.Trod enc P w base spare held t6 v6 d6 p6∧DataW.Trod enc P w base spare held t7 v7 d7 p7:=by
 obtain ⟨v0,vs0,d0,ds0,p0,q0,hargs,rfl,rfl,g0,k0⟩:=trodAll_cons h;obtain ⟨v1,vs1,d1,ds1,p1,q1,rfl,rfl,rfl,g1,k1⟩:=trodAll_cons k0;obtain ⟨v2,vs2,d2,ds2,p2,q2,rfl,rfl,rfl,g2,k2⟩:=trodAll_cons k1;obtain ⟨v3,vs3,d3,ds3,p3,q3,rfl,rfl,rfl,g3,k3⟩:=trodAll_cons k2;obtain ⟨v4,vs4,d4,ds4,p4,q4,rfl,rfl,rfl,g4,k4⟩:=trodAll_cons k3;obtain ⟨v5,vs5,d5,ds5,p5,q5,rfl,rfl,rfl,g5,k5⟩:=trodAll_cons k4;obtain ⟨v6,vs6,d6,ds6,p6,q6,rfl,rfl,rfl,g6,k6⟩:=trodAll_cons k5;obtain ⟨v7,vs7,d7,ds7,p7,q7,rfl,rfl,rfl,g7,k7⟩:=trodAll_cons k6;obtain ⟨rfl,rfl,rfl⟩:=trodAll_nil k7;exact ⟨v0,v1,v2,v3,v4,v5,v6,v7,d0,d1,d2,d3,d4,d5,d6,d7,p0,p1,p2,p3,p4,p5,p6,p7,by cases args;simp_all,rfl,by simp,g0,g1,g2,g3,g4,g5,g6,g7⟩
theorem Zks:ownKnob Tryz.prog.godebug=none:=by kernel_rfl
theorem Zcb:laidOutB Tryz.prog=true:=by kernel_rfl
theorem Zdm (os:Os) (started:os.Started) (H:Type) (enc:TypeId×Value→H) :
 ReturnsInHanded {} Tryz.checked os 4 .any (Rows.backMadeSpec.pre6 enc Tryz.prog Tryz.f4 Rows.backMadeRow.domain false) (Rows.backMadeSpec.post enc Tryz.prog Tryz.f4 false true false false):=by
 refine returnsInHanded_of_change (C:=Tryz.checked) Zks started (by kernel_rfl) Tryz.func4
  (ChangeSpec.witness6 (enc:=enc) (C:=Tryz.checked) false ⟨#[],#[.int .i64 0,.int .i64 0,.agg #[.string ⟨#[]⟩,.slice none 0 0,.slice none 0 0],.slice none 0 0,.slice none 0 0,.slice none 0 0,.slice none 0 0,.bool false],[]⟩ 8 (by kernel_rfl) (by kernel_rfl) (by kernel_rfl) (by kernel_rfl)) ?_
 intro W base args ds gs before hval0 hW hcnd _;have hval :∀(j:Nat) t v,Tryz.f4.params[j]? = some t→args[j]? = some v→Value.okWide Tryz.prog W .any base t v:=hval0;have hW':=hW;obtain ⟨p,q,hA0,hV,rfl,hfz,hnd⟩:=hW;have hA:DataW.TrodAll enc Tryz.prog W 0 (fun _=>true) true Tryz.f4.params.toList args.toList ds p:=hA0;rw [Tryz.params4] at hA hval;obtain ⟨v0,v1,v2,v3,v4,v5,v6,v7,d0,d1,d2,d3,d4,d5,d6,d7,p0,p1,p2,p3,p4,p5,p6,p7,rfl,rfl,rfl,h0,h1,h2,h3,h4,h5,h6,h7⟩:=Zgp hA;obtain ⟨rfl,rfl⟩:=trodVars_none hV;obtain ⟨n0,rfl,_,_,_⟩:=open_int Tryz.underlying3 (hval 0 3 v0 rfl rfl) h0;obtain ⟨n1,rfl,_,_,_⟩:=open_int Tryz.underlying3 (hval 1 3 v1 rfl rfl) h1;obtain ⟨m2,x2,B2,b2,C2,e2,rfl,rc2,ra2⟩:=Zgg (hval 2 25 v2 rfl rfl) h2;obtain ⟨A3,c3,l3,rfl,r3⟩:=Z76 Tryz.underlying56 (by decide) Z88 (hval 3 56 v3 rfl rfl) h3;obtain ⟨A4,c4,l4,rfl,r4⟩:=Z76 Tryz.underlying56 (by decide) Z88 (hval 4 56 v4 rfl rfl) h4;obtain ⟨A5,c5,l5,rfl,r5⟩:=Z76 Tryz.underlying26 (by decide) Zdw (hval 5 26 v5 rfl rfl) h5;obtain ⟨A6,c6,l6,rfl,r6⟩:=Z76 Tryz.underlying27 (by decide) Z3y (hval 6 27 v6 rfl rfl) h6;obtain ⟨b7,rfl,_,_⟩:=open_bool Tryz.underlying4 (hval 7 4 v7 rfl rfl) h7;clear hA0 hval0;refine (Zi0 m2 x2 n0 n1 l3 l4 l5 l6 b7 B2 C2 A3 A4 A5 A6 b2 e2 c3 c4 c5 c6 W rc2 ra2 r3 r4 r5 r6).mono fun e W' ⟨he,hb⟩=>?_;subst he
 exact ⟨_,rfl,Zii (tb:=4) Zcb rfl hW' (by kernel_rfl) Tryz.underlying4 (fun t ht=>by
  have ht':t∈[3,3,25,56,56,26,27,4]:=by
   (have e:Tryz.f4.params.toList = [3,3,25,56,56,26,27,4]:=by rw [Tryz.params4]);rwa [e] at ht
  simp only [Zo5,Zo9,or_false] at ht'
  rcases ht' with rfl|rfl|rfl|rfl|rfl|rfl|rfl|rfl<;>exact ⟨by kernel_rfl,of_decide_eq_true (by kernel_rfl)⟩) rfl rfl rfl hb⟩
theorem Zg8:Tryz.pinned.checked.prog.funcNamed Rows.backMadeRow.func=some 4:=by kernel_rfl
theorem Z1z {a b:Bool}(h:a=true) (k:b=true):(a && b)=true:=by rw [h,k];rfl
theorem Zm3:mapsRowed Tryz.pinned.checked.prog=true:=by kernel_rfl
theorem Zm4:(Rows.backMadeRow.inPlace == Tryz.pinned.checked.prog.inPlace 4)=true:=by kernel_rfl
theorem Zk6:(Rows.backMadeRow.unfollowed == Tryz.pinned.checked.prog.unfollowed 4)=true:=by kernel_rfl
theorem Zk7:(Rows.backMadeRow.recurses == Tryz.pinned.checked.prog.recurses 4)=true:=by kernel_rfl
theorem Zk8:(Rows.backMadeRow.named == Tryz.pinned.checked.prog.varsNamed 4)=true:=by kernel_rfl
theorem Zk9:(Rows.backMadeRow.plainKeys == Tryz.pinned.checked.prog.plainKeys)=true:=by kernel_rfl
theorem Zka:Tryz.pinned.checked.prog.stopsHeard=true:=by kernel_rfl
theorem Zkb:Tryz.pinned.checked.prog.mayEnter=true:=by kernel_rfl
theorem Zkc:(Rows.backMadeRow.lifted == Tryz.pinned.checked.prog.liftsFinal)=true:=by kernel_rfl
theorem Zkd:(Tryz.pinned.checked.prog.make == some Rows.backMadeRow.make)=true:=by kernel_rfl
theorem Zdl:joinedFacts Tryz.pinned.checked.prog 4 Tryz.f4 Rows.backMadeSpec Rows.backMadeRow=true:=by
 unfold joinedFacts;exact (Z1z (Z1z (Z1z (Z1z (Z1z (Z1z (Z1z (Z1z (Z1z (Z1z (Z1z (Z1z (Z1z (Z1z (Z1z (Z1z (Z1z (Z1z (Z1z (Z1z (Z1z (Z1z (Z1z (Z1z (Z1z (Z1z (Z1z (Z1z (Z1z (Z1z (Z1z (by kernel_rfl) Zcb) Zm3) (by kernel_rfl)) (by kernel_rfl)) (by kernel_rfl)) (by kernel_rfl)) (by kernel_rfl)) (by kernel_rfl)) Zm4) Zk6) Zk7) Zk8) (by kernel_rfl)) (by kernel_rfl)) (by kernel_rfl)) (by kernel_rfl)) (by kernel_rfl)) (by kernel_rfl)) (by kernel_rfl)) (by kernel_rfl)) (by kernel_rfl)) Zk9) (by kernel_rfl)) Zka) Zkb) Zkc) Zkd) (by kernel_rfl)) (by kernel_rfl)) (by kernel_rfl)) (by kernel_rfl))
theorem Zhz:Tryz.f4.isInstance Tryz.pinned.checked.prog Rows.backMadeRow.origin Rows.backMadeRow.targs:=of_decide_eq_true (by kernel_rfl)
theorem Zi1:Tryz.f4.isWrapper Tryz.pinned.checked.prog Rows.backMadeRow.wrapper Rows.backMadeRow.mainSum:=by unfold Func.isWrapper;first|(rw [if_pos (by decide +kernel)];kernel_rfl)|(rw [if_neg (by decide +kernel)];exact ⟨rfl,rfl⟩)
theorem made_holds:Rows.BackMadeSaid:=
 OpenClaim.holds_of_wide 4 Tryz.f4 rfl rfl rfl rfl rfl rfl rfl ⟨rfl,rfl,rfl,rfl,rfl⟩ rfl rfl rfl rfl rfl Zg8 Tryz.func4 Zdl
  Zhz Zi1
  (fun os started H enc _=>Zdm os started H enc)
end
end Go.Proofs.YtfidcfjcmlgkbaaGreat
