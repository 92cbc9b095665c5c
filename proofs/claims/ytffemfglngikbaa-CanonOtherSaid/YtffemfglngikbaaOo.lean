/-
  For every input CanonOther answers true, and leaves its arguments and all that was there as they were. No conditions.
-/
import Derived.Test.YtffemfglngikbaaOb
import Derived.Test.YtffemfglngikbaaOn
namespace Go.Proofs.Ytffemfglngikbaa
open Go.RowKit Go.ChangeShapes Go.WideShapes Go.Deep
set_option maxRecDepth 100000 in
theorem open_ProdT {H:Type} {enc:TypeId×Value→H} {w:World} {r:Reach} {b0 base:Nat} {spare:Nat→Bool} {held:Bool} {v:Value} {d:DataW H} {ps:List MemPlace}
 (hval:Value.okWide Try.prog w r b0 25 v) (h:DataW.Trod enc Try.prog w base spare held 25 v d ps) : ∃(n:Nat) (x:ProdT) (A1:Option Addr) (c1:Nat) (A2:Option Addr) (c2:Nat),v = .agg #[.string x.name,.slice A1 x.conds.length c1,.slice A2 x.acts.length c2]∧
   RowR (repCondT n) (· < w.heap.size) w A1 c1 x.conds∧RowR repActT (· < w.heap.size) w A2 c2 x.acts:=by
 obtain ⟨cs,rfl,_⟩:=okWide_struct Try.underlying25 hval
 obtain ⟨fuel,hf⟩:=h
 obtain ⟨x,A1,c1,A2,c2,hx,h1,h2⟩:=openN_ProdT enc w base spare held fuel _ _ hf
 refine ⟨fuel,x,A1,c1,A2,c2,?_,h1,h2⟩
 simp only [Value.cells] at hx
 have:cs = #[.string x.name,.slice A1 x.conds.length c1,.slice A2 x.acts.length c2]:=by rw [← Array.toList_inj];simpa using hx
 rw [this]
end Go.Proofs.Ytffemfglngikbaa
namespace Go.Proofs.Ytffemfglngikbaa
open Go.ChangeShapes Go.WideShapes Go.ChangeAt Go.RowKit Go.Deep
theorem own_otherc:ownKnob Try.prog.godebug=none:=by kernel_rfl
theorem laid_otherc:laidOutB Try.prog=true:=by kernel_rfl
set_option maxRecDepth 100000 in
theorem otherc_lifted (os:Os) (started:os.Started) (H:Type) (enc:TypeId×Value→H) :
 ReturnsInHanded {} Try.checked os 6 .any (Rows.canonOtherSpec.pre6 enc Try.prog Try.f6 Rows.canonOtherRow.domain false) (Rows.canonOtherSpec.post enc Try.prog Try.f6 false true false false):=by
 refine returnsInHanded_of_change (C:=Try.checked) own_otherc started (by kernel_rfl) Try.func6
  (ChangeSpec.witness6 (enc:=enc) (C:=Try.checked) false ⟨#[],#[.agg #[.string ⟨#[]⟩,.slice none 0 0,.slice none 0 0],.int .i64 0,.int .i64 0,.int .i64 0],[]⟩ 8 (by kernel_rfl) (by kernel_rfl) (by kernel_rfl) (by kernel_rfl)) ?_
 intro W base args ds gs before hval0 hW hcnd _
 have hval : ∀(j:Nat) t v,Try.f6.params[j]? = some t→args[j]? = some v→Value.okWide Try.prog W .any base t v:=hval0
 have hW':=hW
 obtain ⟨p,q,hA0,hV,rfl,hfz,hnd⟩:=hW
 have hA:DataW.TrodAll enc Try.prog W 0 (fun _=>true) true Try.f6.params.toList args.toList ds p:=hA0
 rw [Try.params6] at hA hval
 obtain ⟨v0,v1,v2,v3,d0,d1,d2,d3,p0,p1,p2,p3,rfl,rfl,rfl,h0,h1,h2,h3⟩:=trodAll_four hA
 obtain ⟨rfl,rfl⟩:=trodVars_none hV
 obtain ⟨m0,x0,B0,b0,C0,e0,rfl,rc0,ra0⟩:=open_ProdT (hval 0 25 v0 rfl rfl) h0
 obtain ⟨n1,rfl,_,_,_⟩:=open_int Try.underlying3 (hval 1 3 v1 rfl rfl) h1
 obtain ⟨n2,rfl,_,_,_⟩:=open_int Try.underlying3 (hval 2 3 v2 rfl rfl) h2
 obtain ⟨n3,rfl,_,_,_⟩:=open_int Try.underlying3 (hval 3 3 v3 rfl rfl) h3
 clear hA0 hval0
 refine (otherc_walk m0 x0 B0 b0 C0 e0 n1 n2 n3 W rc0 ra0).mono fun e W' ⟨he,hb⟩=>?_
 subst he
 exact ⟨_,rfl,post_true (tb:=4) laid_otherc rfl hW' (by kernel_rfl) Try.underlying4 (fun t ht=>by
  have ht':t∈[25,3,3,3]:=by
   have e:Try.f6.params.toList = [25,3,3,3]:=by rw [Try.params6]
   rwa [e] at ht
  simp only [List.mem_cons,List.not_mem_nil,or_false] at ht'
  rcases ht' with rfl | rfl | rfl | rfl<;>exact ⟨by kernel_rfl,of_decide_eq_true (by kernel_rfl)⟩) rfl rfl rfl hb⟩
theorem otherc_holds:Rows.CanonOtherSaid:=
 OpenClaim.holds_of_wide 6 Try.f6 rfl rfl rfl rfl rfl rfl rfl ⟨rfl,rfl,rfl,rfl,rfl⟩ rfl rfl rfl rfl rfl (by kernel_rfl) Try.func6 (by kernel_rfl)
  (of_decide_eq_true (by kernel_rfl)) (by unfold Func.isWrapper;first | (rw [if_pos (by decide +kernel)];kernel_rfl) | (rw [if_neg (by decide +kernel)];exact ⟨rfl,rfl⟩))
  (fun os started H enc _=>otherc_lifted os started H enc)
end Go.Proofs.Ytffemfglngikbaa
