/-
  Texts put together: VaryN8, FindName, OpsName, PutName, MiscName, NewName, WorkName, IterBase, Seq, Known1, Known3, Tab, Known2, Known4, Known5.
-/
import Derived.Test.YtcnnofgaifcgaaaGreatPTh
import Derived.Test.YtcnnofgaifcgaaaGreatRows
namespace Go.Proofs.YtcnnofgaifcgaaaGreat
set_option maxRecDepth 100000
set_option maxHeartbeats 32000000
set_option linter.unusedSimpArgs false
section
open Go.RowKit Go.Shelf
attribute [local go_sem] Oper.semAt_some
structure VS (D:Nat→Prop) (w:World) (nb:Nat) (ns:List Sym) (D':Nat→Prop) (x:World):Prop where
 nm:Nm D' x nb ns
 up :∀k,D k→D' k
 dn :∀k,D' k→D k∨w.heap.size≤k
 fr:Fr D w x
section
variable {D D':Nat→Prop}{w x y w0:World}{nb mb gf:Nat}{lb:Array Value}{old:Sym→Bool}{ns ns':List Sym}
theorem VS.start (h:Nm D w nb ns):VS D w nb ns D w:=⟨h,fun _ h=>h,fun _ h=>.inl h,Fr.refl _ _⟩
theorem VS.new_ (h:VS D w nb ns D' x) (hb:Below x.heap.size x y):VS D w nb ns D' y:=⟨h.nm.new_ hb,h.up,h.dn,h.fr.trans (Fr.of_new hb)⟩
theorem VS.put (h:VS D w nb ns D' x) (hp:Z3s D' x nb ns' y):∃D'',VS D w nb ns' D'' y∧(∀g,g<x.heap.size→¬D' g→¬D'' g)∧Fr D' x y:=by
 obtain ⟨D2,g1,g2,g3,g4⟩:=hp;have hz:=h.fr.size;exact ⟨D2,⟨g1,fun k hk=>g2 k (h.up k hk),fun k hk=>(g3 k hk).elim (h.dn k) (fun h=>.inr Ya),h.fr.into g4 h.dn⟩,fun g hg hd hk=>(g3 g hk).elim hd (fun h=>Ya),g4⟩
theorem VS.fin {M:Nat→Prop}(h:VS D w nb ns D' x) (hF:Fr M x y) (hM :∀k,M k→w.heap.size≤k∧¬D' k):Z3s D w nb ns y:=
 ⟨D',h.nm.fr hF (fun k hk hm=>(hM k hm).2 hk),h.up,h.dn,h.fr.into hF (fun k hk=>.inr (hM k hk).1)⟩
theorem VS.atom (h:VS D w nb ns D' x) (hO:Zal gf lb w0 old) (hw0:Below w0.heap.size w0 w) (hD :∀k,D k→w0.heap.size≤k) (hm:MK x mb nb) (hd :¬D' mb) (hl:ns.length≤900) (s:Sym) :
 Calls Tryz.prog 117 #[.pointer (some ⟨mb,0,none⟩),.agg (Q1d s),.func (.func gf) #[] lb] x (Zpu D' x nb ns (Z6e old ns s)):=
 Zp4 hO s x (hw0.trans (h.fr.below hw0.size (fun k hk hd=>by have:=hD k hd;omega))) h.nm hm hd (fun k hk=>(h.dn k hk).elim (hD k) (fun h=>Zt6 hw0.size h)) hl
end
theorem Z5m {old:Sym→Bool}{ns:List Sym}{s:Sym}{a:Z5l}{n:List Sym}(h:Z6e old ns s=some (a,n)):n.length≤ns.length+1:=by
 unfold Z6e at h
 split at h
 · injection h with h;injection h with _ h;subst h;omega
 · split at h
   · cases h
   · injection h with h;injection h with _ h;subst h;exact Z85 _ _
theorem Zk5 {old:Sym→Bool}{ns:List Sym}{p:Z24}{a:ActT}{n:List Sym}(h:Z8o old ns p=some (a,n)):n.length≤ns.length+3:=by
 unfold Z8o at h
 split at h
 · cases h
 · rename_i i n1 h1
   split at h
   · cases h
   · rename_i v n2 h2
     split at h
     · cases h
     · rename_i q n3 h3
       injection h with h;injection h with _ h;subst h;have:=Z5m h1;have:=Z5m h2;have:=Z5m h3;omega
def Zqc (D:Nat→Prop) (w:World) (nb:Nat) (r:Option (ActT×List Sym)) (e:Ending) (w':World):Prop:=
 match r with
 | none=>(∃a:ActT,e = .returned (.tuple #[.agg (Q0f a),.bool false]))∧∃n,Z3s D w nb n w'
 | some (a,n)=>e = .returned (.tuple #[.agg (Q0f a),.bool true])∧Z3s D w nb n w'
theorem Zr3 {D:Nat→Prop}{nb mb gf:Nat}{lb:Array Value}{w0:World}{old:Sym→Bool}{ns:List Sym}(hO:Zal gf lb w0 old) (p:Z24) (w:World) (hw0:Below w0.heap.size w0 w) (h:Nm D w nb ns) (hm:MK w mb nb) (hd :¬D mb) (hD :∀k,D k→w0.heap.size≤k) (hl:ns.length≤800) :
 Calls Tryz.prog 83 #[.pointer (some ⟨mb,0,none⟩),.agg (Q0x p),.func (.func gf) #[] lb] w (Zqc D w nb (Z8o old ns p)):=by
 have HO:=hU (And.intro hO (And.intro hw0 hD));have Dq:=hU h.lt;have HN:=hU h;have HM:=hU hm;have HDM:=hU hd;clear h hO hw0 hD hm hd;go_enter Tryz.func83,Tryz.ntmps83;go_upto_region 1 with fail;obtain ⟨w1,Fg⟩:∃w1,w1=((w.alloc (.cells (Q0x p) 63)).alloc (.cells Q2e 181)):=⟨_,rfl⟩;refine Yt9 ?_;intro HB;have Kp:=hU (show Blk w1 (w.heap.size) 63 (Q0x p) by rw [Fg];exact ((Blk.new w 63 (Q0x p)).alloc (.cells Q2e 181)));have Kr:=hU (show Blk w1 (w.heap.size+1) 181 Q2e by rw [Fg];have hh:=(Blk.new (w.alloc (.cells (Q0x p) 63)) 181 Q2e);simp only [Zti] at hh;exact hh);clear Fg;obtain ⟨p0,p1,p2,p3,p4,p5,p6,p7,p8,p9,li,Gf,zy,Jq,bq,Ae⟩:=Kp.o.c16;have pz:=Kp.o.lt;obtain ⟨r0,r1,r2,r3,r4,r5,r6,r7,r8,r9,r10,r11,r12,r13,r14,r15,r16,r17,r18⟩:=Kr.o.c19;have rz:=Kr.o.lt;clear p0 p1 p2 p3 p4 p5 p6 p7 p8 p9 li Gf zy Jq bq Ae pz r0 r1 r2 r3 r4 r5 r6 r7 r8 r9 r10 r11 r12 r13 r14 r15 r16 r17 r18 rz;have HZ1:=hU (show w.heap.size+1<w1.heap.size from Kr.o.lt);have br:=hU ((VS.start HN.o).new_ HB.o);have B7:=hU (HM.o.new_ HB.o);have F0:=hU HDM.o;have Op:=hU (show ¬D w.heap.size from fun hk=>by have:=Dq.o _ hk;omega);have Or:=hU (show ¬D (w.heap.size+1) from fun hk=>by have:=Dq.o _ hk;omega);have Lp:=hU Kp.o.lt;have Lr:=hU Kr.o.lt
 cases hA:Z6e old ns p.id with
 | none=>
   have ru:=hU hA;clear hA;have fq:=hU (show Z8o old ns p=none by unfold Z8o;rw [ru.o]);obtain ⟨p0,p1,p2,p3,p4,p5,p6,p7,p8,p9,li,Gf,zy,Jq,bq,Ae⟩:=Kp.o.c16;have pz:=Kp.o.lt;have Ex:=hU (br.o.atom HO.o.1 HO.o.2.1 HO.o.2.2 B7.o F0.o Ya p.id);rw [ru.o] at Ex;go_wp2_with fail;refine Ex.o.mono ?_;rintro e Cd ⟨rfl,hp⟩;obtain ⟨D1,Ag,dv,zp⟩:=br.o.put hp;have Kp:=hU (Kp.o.fr zp Op.o);have Kr:=hU (Kr.o.fr zp Or.o);refine Yga ?_;intro B7 F0 Op Or;have cg:=hU Ag;clear hp Ag dv zp;clear p0 p1 p2 p3 p4 p5 p6 p7 p8 p9 li Gf zy Jq bq Ae pz;go_upto_region 2 with fail;obtain ⟨Xb,F4⟩:∃W,W=Cd.alloc (.cells Q2b 177):=⟨_,rfl⟩;have Ri:Below Cd.heap.size Cd Xb:=YJn;obtain ⟨g1,Kg⟩:∃g,g=Cd.heap.size:=⟨_,rfl⟩;have qo:=hU (show Blk Xb g1 177 Q2b by rw [F4,Kg];exact Blk.new _ _ _);have uq:=hU (show ¬D1 g1 from fun hk=>YHb);have I4:=hU qo.o.lt;rw [←F4,←Kg];refine Yvh ?_;intro br B7 Kp Lp Kr Lr;clear F4 Ri Kg;have HT:=hU (show Xb.there (w.heap.size+1) 0 (Q2e:Array Value).size from Kr.o.there);(go_wp2_with (with_reducible refine wpList_store_mid rfl 181 _ _ rfl (w.heap.size+1) 0 Q2e rfl rfl HT.o Yb Yb ?_));refine Ykv ?_;refine bodyPost_ret (v:=.tuple #[.agg Q2e,.bool false]) ?_ rfl ?_
   · exact Z0n (t:=6) (s:=7) (T:=181) rfl _ _ (w.heap.size+1) Q2o _ rfl (Zsy Xb (w.heap.size+1) 0 Q2o HT.o) Tryz.underlying181 rfl Yb
   · have jf:=br.o.fin (Fr.setCells (g:=w.heap.size+1) Q2o 0 (Fr.refl (fun k=>k=w.heap.size+1) Xb) (.inl rfl)) (fun k hk=>YUd)
     exact Yhu
 | some z=>
   obtain ⟨a1,n1⟩:=z;have ru:=hU hA;have hln1:=Z5m hA;clear hA;obtain ⟨p0,p1,p2,p3,p4,p5,p6,p7,p8,p9,li,Gf,zy,Jq,bq,Ae⟩:=Kp.o.c16;have pz:=Kp.o.lt;have Ex:=hU (br.o.atom HO.o.1 HO.o.2.1 HO.o.2.2 B7.o F0.o Ya p.id);rw [ru.o] at Ex;go_wp2_with fail;refine Ex.o.mono ?_;rintro e Cd ⟨rfl,hp⟩;obtain ⟨D1,Ag,dv,zp⟩:=br.o.put hp;have Kp:=hU (Kp.o.fr zp Op.o);have Kr:=hU (Kr.o.fr zp Or.o);refine Yga ?_;intro B7 F0 Op Or;have cg:=hU Ag;clear hp Ag dv zp;clear p0 p1 p2 p3 p4 p5 p6 p7 p8 p9 li Gf zy Jq bq Ae pz;go_upto_region 2 with fail;obtain ⟨Xb,F4⟩:∃W,W=Cd.alloc (.cells #[.string a1.var,.int .i64 a1.sym.kind,.string a1.sym.text,.int .i64 a1.sym.n] 177):=⟨_,rfl⟩;have Ri:Below Cd.heap.size Cd Xb:=YJn;obtain ⟨g1,Kg⟩:∃g,g=Cd.heap.size:=⟨_,rfl⟩;have qo:=hU (show Blk Xb g1 177 #[.string a1.var,.int .i64 a1.sym.kind,.string a1.sym.text,.int .i64 a1.sym.n] by rw [F4,Kg];exact Blk.new _ _ _);have uq:=hU (show ¬D1 g1 from fun hk=>YHb);have I4:=hU qo.o.lt;rw [←F4,←Kg];refine Yvh ?_;intro br B7 Kp Lp Kr Lr;clear F4 Ri Kg
   cases hA:Z6e old n1 p.value with
   | none=>
     have Ns:=hU hA;clear hA;have fq:=hU (show Z8o old ns p=none by unfold Z8o;rw [ru.o];simp only;rw [Ns.o]);obtain ⟨p0,p1,p2,p3,p4,p5,p6,p7,p8,p9,li,Gf,zy,Jq,bq,Ae⟩:=Kp.o.c16;have pz:=Kp.o.lt;have Ex:=hU (br.o.atom HO.o.1 HO.o.2.1 HO.o.2.2 B7.o F0.o Ya p.value);rw [Ns.o] at Ex;go_wp2_with fail;refine Ex.o.mono ?_;rintro e ip ⟨rfl,hp⟩;obtain ⟨D2,Ag,dv,zp⟩:=br.o.put hp;refine Yv3 ?_;intro Kp Kr qo;refine Yga ?_;intro B7 F0 Op Or;have uq:=hU (dv _ I4.o uq.o);have cg:=hU Ag;clear hp Ag dv zp;clear p0 p1 p2 p3 p4 p5 p6 p7 p8 p9 li Gf zy Jq bq Ae pz;go_upto_region 5 with fail;obtain ⟨Mh,F4⟩:∃W,W=ip.alloc (.cells Q2b 177):=⟨_,rfl⟩;have Ri:Below ip.heap.size ip Mh:=YJn;obtain ⟨g2,Co⟩:∃g,g=ip.heap.size:=⟨_,rfl⟩;have jd:=hU (show Blk Mh g2 177 Q2b by rw [F4,Co];exact Blk.new _ _ _);have ry:=hU (show ¬D2 g2 from fun hk=>YHb);have zo:=hU jd.o.lt;rw [←F4,←Co];refine Yvh ?_;intro br B7 Kp Lp Kr Lr;have qo:=hU (qo.o.new_ Ri);have I4:=hU qo.o.lt;clear F4 Ri Co;have HT:=hU (show Mh.there (w.heap.size+1) 0 (Q2e:Array Value).size from Kr.o.there);go_wp2_with (with_reducible refine wpList_store_mid rfl 181 _ _ rfl (w.heap.size+1) 0 Q2e rfl rfl HT.o Yb Yb ?_)
     refine Ykv ?_;refine bodyPost_ret (v:=.tuple #[.agg Q2e,.bool false]) ?_ rfl ?_
     · exact Z0n (t:=6) (s:=7) (T:=181) rfl _ _ (w.heap.size+1) Q2o _ rfl (Zsy Mh (w.heap.size+1) 0 Q2o HT.o) Tryz.underlying181 rfl Yb
     · have jf:=br.o.fin (Fr.setCells (g:=w.heap.size+1) Q2o 0 (Fr.refl (fun k=>k=w.heap.size+1) Mh) (.inl rfl)) (fun k hk=>YUd)
       exact Yhu
   | some z=>
     obtain ⟨a2,n2⟩:=z;have Ns:=hU hA;have hln2:=Z5m hA;clear hA;obtain ⟨p0,p1,p2,p3,p4,p5,p6,p7,p8,p9,li,Gf,zy,Jq,bq,Ae⟩:=Kp.o.c16;have pz:=Kp.o.lt;have Ex:=hU (br.o.atom HO.o.1 HO.o.2.1 HO.o.2.2 B7.o F0.o Ya p.value);rw [Ns.o] at Ex;go_wp2_with fail;refine Ex.o.mono ?_;rintro e ip ⟨rfl,hp⟩;obtain ⟨D2,Ag,dv,zp⟩:=br.o.put hp;refine Yv3 ?_;intro Kp Kr qo;refine Yga ?_;intro B7 F0 Op Or;have uq:=hU (dv _ I4.o uq.o);have cg:=hU Ag;clear hp Ag dv zp;clear p0 p1 p2 p3 p4 p5 p6 p7 p8 p9 li Gf zy Jq bq Ae pz;go_upto_region 5 with fail;obtain ⟨Mh,F4⟩:∃W,W=ip.alloc (.cells #[.string a2.var,.int .i64 a2.sym.kind,.string a2.sym.text,.int .i64 a2.sym.n] 177):=⟨_,rfl⟩;have Ri:Below ip.heap.size ip Mh:=YJn;obtain ⟨g2,Co⟩:∃g,g=ip.heap.size:=⟨_,rfl⟩;have jd:=hU (show Blk Mh g2 177 #[.string a2.var,.int .i64 a2.sym.kind,.string a2.sym.text,.int .i64 a2.sym.n] by rw [F4,Co];exact Blk.new _ _ _);have ry:=hU (show ¬D2 g2 from fun hk=>YHb);have zo:=hU jd.o.lt;rw [←F4,←Co];refine Yvh ?_;intro br B7 Kp Lp Kr Lr;have qo:=hU (qo.o.new_ Ri);have I4:=hU qo.o.lt;clear F4 Ri Co
     cases hA:Z6e old n2 p.other with
     | none=>
       have zx:=hU hA;clear hA;have fq:=hU (show Z8o old ns p=none from YZx);obtain ⟨p0,p1,p2,p3,p4,p5,p6,p7,p8,p9,li,Gf,zy,Jq,bq,Ae⟩:=Kp.o.c16;have pz:=Kp.o.lt;have Ex:=hU (br.o.atom HO.o.1 HO.o.2.1 HO.o.2.2 B7.o F0.o Ya p.other);rw [zx.o] at Ex;go_wp2_with fail;refine Yit ?_;intro qn D3 Kp Kr qo jd B7 F0 Op Or uq ry cg;clear p0 p1 p2 p3 p4 p5 p6 p7 p8 p9 li Gf zy Jq bq Ae pz;go_upto_region 8 with fail;obtain ⟨Ed,F4⟩:∃W,W=qn.alloc (.cells Q2b 177):=⟨_,rfl⟩;have Ri:Below qn.heap.size qn Ed:=YJn;obtain ⟨g3,Oi⟩:∃g,g=qn.heap.size:=⟨_,rfl⟩;have Dv:=hU (show Blk Ed g3 177 Q2b by rw [F4,Oi];exact Blk.new _ _ _);have Oq3:=hU (show ¬D3 g3 from fun hk=>YHb);have Lq3:=hU Dv.o.lt;rw [←F4,←Oi];refine Yvh ?_;intro br B7 Kp Lp Kr Lr;have qo:=hU (qo.o.new_ Ri);have I4:=hU qo.o.lt;have jd:=hU (jd.o.new_ Ri)
       have zo:=hU jd.o.lt;clear F4 Ri Oi;obtain ⟨p0,p1,p2,p3,p4,p5,p6,p7,p8,p9,li,Gf,zy,Jq,bq,Ae⟩:=Kp.o.c16;have pz:=Kp.o.lt;obtain ⟨Jw,P8,i5,Nb⟩:=qo.o.c4;have q1z:=qo.o.lt;obtain ⟨q20,q21,q22,q23⟩:=jd.o.c4;have q2z:=jd.o.lt;obtain ⟨q30,q31,q32,q33⟩:=Dv.o.c4;have q3z:=Dv.o.lt;have HT:=hU (show Ed.there (w.heap.size+1) 0 (#[.string a1.var,.string ⟨#[]⟩,.int .i64 p.attr.kind,.string p.attr.text,.int .i64 p.attr.n,.int .i64 0,.string a2.var,.int .i64 a2.sym.kind,.string a2.sym.text,.int .i64 a2.sym.n,.string ⟨#[]⟩,.int .i64 0,.string ⟨#[]⟩,.int .i64 0,.int .i64 p.kind,.string ⟨#[]⟩,.int .i64 0,.string ⟨#[]⟩,.int .i64 0]:Array Value).size from Kr.o.there);(go_wp2_with (with_reducible refine wpList_store_mid rfl 181 _ _ rfl (w.heap.size+1) 0 #[.string a1.var,.string ⟨#[]⟩,.int .i64 p.attr.kind,.string p.attr.text,.int .i64 p.attr.n,.int .i64 0,.string a2.var,.int .i64 a2.sym.kind,.string a2.sym.text,.int .i64 a2.sym.n,.string ⟨#[]⟩,.int .i64 0,.string ⟨#[]⟩,.int .i64 0,.int .i64 p.kind,.string ⟨#[]⟩,.int .i64 0,.string ⟨#[]⟩,.int .i64 0] rfl rfl HT.o Yb Yb ?_));refine Ykv ?_;refine bodyPost_ret (v:=.tuple #[.agg #[.string a1.var,.string ⟨#[]⟩,.int .i64 p.attr.kind,.string p.attr.text,.int .i64 p.attr.n,.int .i64 0,.string a2.var,.int .i64 a2.sym.kind,.string a2.sym.text,.int .i64 a2.sym.n,.string ⟨#[]⟩,.int .i64 0,.string ⟨#[]⟩,.int .i64 0,.int .i64 p.kind,.string ⟨#[]⟩,.int .i64 0,.string ⟨#[]⟩,.int .i64 0],.bool false]) ?_ rfl ?_
       · exact Z0n (t:=6) (s:=7) (T:=181) rfl _ _ (w.heap.size+1) [.string a1.var,.string ⟨#[]⟩,.int .i64 p.attr.kind,.string p.attr.text,.int .i64 p.attr.n,.int .i64 0,.string a2.var,.int .i64 a2.sym.kind,.string a2.sym.text,.int .i64 a2.sym.n,.string ⟨#[]⟩,.int .i64 0,.string ⟨#[]⟩,.int .i64 0,.int .i64 p.kind,.string ⟨#[]⟩,.int .i64 0,.string ⟨#[]⟩,.int .i64 0] _ rfl (Zsy Ed (w.heap.size+1) 0 [.string a1.var,.string ⟨#[]⟩,.int .i64 p.attr.kind,.string p.attr.text,.int .i64 p.attr.n,.int .i64 0,.string a2.var,.int .i64 a2.sym.kind,.string a2.sym.text,.int .i64 a2.sym.n,.string ⟨#[]⟩,.int .i64 0,.string ⟨#[]⟩,.int .i64 0,.int .i64 p.kind,.string ⟨#[]⟩,.int .i64 0,.string ⟨#[]⟩,.int .i64 0] HT.o) Tryz.underlying181 rfl Yb
       · have jf:=br.o.fin (Fr.setCells (g:=w.heap.size+1) [.string a1.var,.string ⟨#[]⟩,.int .i64 p.attr.kind,.string p.attr.text,.int .i64 p.attr.n,.int .i64 0,.string a2.var,.int .i64 a2.sym.kind,.string a2.sym.text,.int .i64 a2.sym.n,.string ⟨#[]⟩,.int .i64 0,.string ⟨#[]⟩,.int .i64 0,.int .i64 p.kind,.string ⟨#[]⟩,.int .i64 0,.string ⟨#[]⟩,.int .i64 0] 0 (Fr.refl (fun k=>k=w.heap.size+1) Ed) (.inl rfl)) (fun k hk=>YUd)
         rw [fq.o];exact ⟨⟨⟨a1.var,⟨⟨#[]⟩,p.attr⟩,⟨0,a2,Z98⟩,p.kind,Z98⟩,rfl⟩,_,jf⟩
     | some z=>
       obtain ⟨a3,n3⟩:=z;have zx:=hU hA;have hln3:=Z5m hA;clear hA;obtain ⟨p0,p1,p2,p3,p4,p5,p6,p7,p8,p9,li,Gf,zy,Jq,bq,Ae⟩:=Kp.o.c16;have pz:=Kp.o.lt;have Ex:=hU (br.o.atom HO.o.1 HO.o.2.1 HO.o.2.2 B7.o F0.o Ya p.other);rw [zx.o] at Ex;go_wp2_with fail;refine Yit ?_;intro qn D3 Kp Kr qo jd B7 F0 Op Or uq ry cg;clear p0 p1 p2 p3 p4 p5 p6 p7 p8 p9 li Gf zy Jq bq Ae pz;go_upto_region 8 with fail;obtain ⟨Ed,F4⟩:∃W,W=qn.alloc (.cells #[.string a3.var,.int .i64 a3.sym.kind,.string a3.sym.text,.int .i64 a3.sym.n] 177):=⟨_,rfl⟩;have Ri:Below qn.heap.size qn Ed:=YJn;obtain ⟨g3,Oi⟩:∃g,g=qn.heap.size:=⟨_,rfl⟩;have Dv:=hU (show Blk Ed g3 177 #[.string a3.var,.int .i64 a3.sym.kind,.string a3.sym.text,.int .i64 a3.sym.n] by rw [F4,Oi];exact Blk.new _ _ _);have Oq3:=hU (show ¬D3 g3 from fun hk=>YHb);have Lq3:=hU Dv.o.lt;rw [←F4,←Oi];refine Yvh ?_;intro br B7 Kp Lp Kr Lr;have qo:=hU (qo.o.new_ Ri);have I4:=hU qo.o.lt
       have jd:=hU (jd.o.new_ Ri);have zo:=hU jd.o.lt;clear F4 Ri Oi;have fq:=hU (show Z8o old ns p=some (⟨a1.var,⟨⟨#[]⟩,p.attr⟩,⟨0,a2,Z98⟩,p.kind,a3⟩,n3) from YZx);obtain ⟨p0,p1,p2,p3,p4,p5,p6,p7,p8,p9,li,Gf,zy,Jq,bq,Ae⟩:=Kp.o.c16;have pz:=Kp.o.lt;obtain ⟨Jw,P8,i5,Nb⟩:=qo.o.c4;have q1z:=qo.o.lt;obtain ⟨q20,q21,q22,q23⟩:=jd.o.c4;have q2z:=jd.o.lt;obtain ⟨q30,q31,q32,q33⟩:=Dv.o.c4;have q3z:=Dv.o.lt;have HT:=hU (show Ed.there (w.heap.size+1) 0 (#[.string a1.var,.string ⟨#[]⟩,.int .i64 p.attr.kind,.string p.attr.text,.int .i64 p.attr.n,.int .i64 0,.string a2.var,.int .i64 a2.sym.kind,.string a2.sym.text,.int .i64 a2.sym.n,.string ⟨#[]⟩,.int .i64 0,.string ⟨#[]⟩,.int .i64 0,.int .i64 p.kind,.string a3.var,.int .i64 a3.sym.kind,.string a3.sym.text,.int .i64 a3.sym.n]:Array Value).size from Kr.o.there);(go_wp2_with (with_reducible refine wpList_store_mid rfl 181 _ _ rfl (w.heap.size+1) 0 #[.string a1.var,.string ⟨#[]⟩,.int .i64 p.attr.kind,.string p.attr.text,.int .i64 p.attr.n,.int .i64 0,.string a2.var,.int .i64 a2.sym.kind,.string a2.sym.text,.int .i64 a2.sym.n,.string ⟨#[]⟩,.int .i64 0,.string ⟨#[]⟩,.int .i64 0,.int .i64 p.kind,.string a3.var,.int .i64 a3.sym.kind,.string a3.sym.text,.int .i64 a3.sym.n] rfl rfl HT.o Yb Yb ?_));refine Ykv ?_;refine bodyPost_ret (v:=.tuple #[.agg #[.string a1.var,.string ⟨#[]⟩,.int .i64 p.attr.kind,.string p.attr.text,.int .i64 p.attr.n,.int .i64 0,.string a2.var,.int .i64 a2.sym.kind,.string a2.sym.text,.int .i64 a2.sym.n,.string ⟨#[]⟩,.int .i64 0,.string ⟨#[]⟩,.int .i64 0,.int .i64 p.kind,.string a3.var,.int .i64 a3.sym.kind,.string a3.sym.text,.int .i64 a3.sym.n],.bool true]) ?_ rfl ?_
       · exact Z0n (t:=6) (s:=7) (T:=181) rfl _ _ (w.heap.size+1) [.string a1.var,.string ⟨#[]⟩,.int .i64 p.attr.kind,.string p.attr.text,.int .i64 p.attr.n,.int .i64 0,.string a2.var,.int .i64 a2.sym.kind,.string a2.sym.text,.int .i64 a2.sym.n,.string ⟨#[]⟩,.int .i64 0,.string ⟨#[]⟩,.int .i64 0,.int .i64 p.kind,.string a3.var,.int .i64 a3.sym.kind,.string a3.sym.text,.int .i64 a3.sym.n] _ rfl (Zsy Ed (w.heap.size+1) 0 [.string a1.var,.string ⟨#[]⟩,.int .i64 p.attr.kind,.string p.attr.text,.int .i64 p.attr.n,.int .i64 0,.string a2.var,.int .i64 a2.sym.kind,.string a2.sym.text,.int .i64 a2.sym.n,.string ⟨#[]⟩,.int .i64 0,.string ⟨#[]⟩,.int .i64 0,.int .i64 p.kind,.string a3.var,.int .i64 a3.sym.kind,.string a3.sym.text,.int .i64 a3.sym.n] HT.o) Tryz.underlying181 rfl Yb
       · have jf:=br.o.fin (Fr.setCells (g:=w.heap.size+1) [.string a1.var,.string ⟨#[]⟩,.int .i64 p.attr.kind,.string p.attr.text,.int .i64 p.attr.n,.int .i64 0,.string a2.var,.int .i64 a2.sym.kind,.string a2.sym.text,.int .i64 a2.sym.n,.string ⟨#[]⟩,.int .i64 0,.string ⟨#[]⟩,.int .i64 0,.int .i64 p.kind,.string a3.var,.int .i64 a3.sym.kind,.string a3.sym.text,.int .i64 a3.sym.n] 0 (Fr.refl (fun k=>k=w.heap.size+1) Ed) (.inl rfl)) (fun k hk=>YUd)
         rw [fq.o];exact ⟨rfl,jf⟩
end
section
open Go.RowKit
abbrev Z33:=Z29 (α:=Name) 296 263 1 Name.cells
theorem Zc5 (k0 : ByteArray) (w : World) : (nilAhead 504 263 (.string k0) "Compare").run Tryz.prog w = .ok (some false) w := Yb
theorem Zfp (k0 : ByteArray) (w : World) : (method 504 263 (.string k0) "Compare").run Tryz.prog w = .ok (288, .string k0) w := Yb
def Zcu (l:List Name) (x:Name) (w:World) (e:Ending) (w':World):Prop:=
 e = .returned (.tuple #[.int .i64 (rank Z11 l x),.bool (has Z11 l x)])∧Below w.heap.size w w'
theorem Z9t (b c:Nat) (sn:Bool) (A:Option Addr) (l:List Name) (x:Name) (w:World) (hS:Z33 w b sn A c l) (hs:Srt Z11 l) (hl:(l.length:Int)≤4611686018427387904) :
 Calls Tryz.prog 196 #[.pointer (some ⟨b,0,none⟩),.string x] w (Zcu l x w):=by
 have Xm:=hS.rd Name.cells_length;have h0:=hS.cell0;have hb:=hS.lt;clear hS;have HS:=hU hs;have Ww:=hU Xm;clear hs Xm;go_enter Tryz.func196,Tryz.ntmps196;go_wp2_with fail;go_quiet (fail);go_wp2_with fail;refine Yk9 ?_;intro W0 jv
 go_loopw [6,7] (fun lo hi wr=>∃i j:Nat,lo = .int .i64 i∧hi = .int .i64 j∧i≤j∧j≤l.length∧(∀k,(h:k<l.length)→k<i→Z11 l[k] x<0)∧(∀k,(h:k<l.length)→j≤k→0<Z11 l[k] x)∧Below W0.heap.size W0 wr) (fun lo hi wr=>(intOf hi).toNat - (intOf lo).toNat)
 case atStart=>exact ⟨0,l.length,rfl,rfl,Nat.zero_le _,Zsu _,fun k _ h=>absurd h Ya,fun k h h'=>absurd h Ya,Zst _ _⟩
 case round=>
  obtain ⟨i,j,rfl,rfl,hij,hj,qv,qm,hB⟩:=hrel;have sy:=hU qv;have xq:=hU qm;clear qv qm;have hsz:w.heap.size≤W0.heap.size:=jv.o.size;by_cases hlt:i<j
  · refine Ygb ?_;intro m Le hmj hmi E1;obtain ⟨g,off,rfl,Fu,R9⟩:=Ww.o.at_ Le;refine Yu7 ?_;intro low r0;have q0:wr.cell? ⟨g,off+m,none⟩=some (.string l[m]):=(low ⟨g,off+m,none⟩ Fu).trans Yq;refine Yy3 ?_;intro b1 b2 Sq;have N:=Zc5;have M:=Zfp;clear low R9 h0;have HB:=hU hB;clear hB;refine Y9x ?_;intro y hy;rw [←hy] at q0;have HY:=hU hy;clear hy;have hbw:b<wr.heap.size:=Ya;have hgw:g<wr.heap.size:=Ya;go_upto_region 4 with (fail);rw [E1.o];go_wp2_with fail;refine (Zo6 y x _).mono ?_;rintro e w1 ⟨rfl,Pk⟩;have Nk:Below W0.heap.size W0 w1:=HB.o.trans (Pk.mono Sq);clear r0 q0 N M;have uk:=hU Nk;clear Nk;by_cases hc:Z11 y x=0
    · have HC:=hU hc
      have t1:(Z11 y x == 0)=true:=YMk;clear hc;go_wp2_with fail;go_ret2;have e:=HC.o;rw [HY.o] at e;refine ⟨?_,jv.o.trans (uk.o.mono Ya)⟩;rw [Z4i Z48 HS.o Le e,(Z5j Z48 HS.o Le e).2.2.1];rfl
    · have t1:(Z11 y x == 0)=false:=by simp [hc]
      by_cases hc2:Z11 y x<0
      · have HC:=hU hc2
        have t2:decide (Z11 y x<0)=true:=YQw;clear hc hc2;go_wp2_with fail;go_roundw
        case rel=>
         refine ⟨m+1,j,Yn,rfl,Ya,hj,fun k h1 h2=>?_,xq.o,uk.o⟩;have e:=HC.o;rw [HY.o] at e;rcases Nat.lt_or_ge k m with h3|h3
         · exact Z48.lt_of_lt_of_le (HS.o.lt h3 Le) Ya
         · exact Yzs
        case measure=>simp [intOf];omega
      · have t2:decide (Z11 y x<0)=false:=by simpa using hc2
        have Nn:0<Z11 y x:=Ya;have HC:=hU Nn;clear hc hc2 Nn;go_wp2_with fail;go_roundw
        case rel=>
         refine ⟨i,m,rfl,rfl,Ya,Ya,sy.o,fun k h1 h2=>?_,uk.o⟩;have e:=HC.o;rw [HY.o] at e;rcases Nat.lt_or_ge m k with h3|h3
         · exact (Z48.symm _ _).1 (Z48.lt_trans ((Z48.symm _ _).2 e) (HS.o.lt h3 h1))
         · exact Yzs
        case measure=>simp [intOf];omega
  · exact Y53
theorem Zdn:(Tryz.prog.info? 263).map (fun i=>(i.zero,i.size,i.bytes))=some (some (.string ⟨#[]⟩),1,16):=Yb
theorem Name.one (x:Name):∀u∈Name.cells x,u.oneCell'=true:=by intro u hu;simp [Name.cells] at hu;rcases hu with rfl<;>rfl
theorem Name.oneAll (l:List Name):∀u∈l.flatMap Name.cells,u.oneCell'=true:=by intro u hu;obtain ⟨x,_,hx⟩:=List.mem_flatMap.1 hu;exact Name.one x u hx
def Z7j (w:World) (b:Nat) (sn:Bool) (A:Option Addr) (l:List Name) (e:Ending) (w':World):Prop:=
 e = .returned (.tuple #[])∧∃A' c',Z33 w' b false A' c' l∧Fr (· = b) w w'∧Z1w w sn A false A'
theorem Zg2 (b c:Nat) (A:Option Addr) (l:List Name) (w:World) (hS:Z33 w b false A c l) :
 Calls Tryz.prog 197 #[.pointer (some ⟨b,0,none⟩)] w (Z7j w b false A l):=by
 have h1:=hS.cell1;have HS:=hU hS;clear hS;go_enter Tryz.func197,Tryz.ntmps197;exact Y3p
theorem Zee (b c:Nat) (A:Option Addr) (l:List Name) (w:World) (hS:Z33 w b true A c l) (hl:(l.length:Int)≤1000000000) :
 Calls Tryz.prog 197 #[.pointer (some ⟨b,0,none⟩)] w (Z7j w b true A l):=by
 obtain ⟨i0,hi,Nc,rm,Aj⟩:=info_parts Zdn;refine Y8h ?_;intro h0 h1 hb f0 f1;have Xm:=hS.rd Name.cells_length;have HB:=hU hS.blk;have Ww:=hU Xm;clear hS Xm;refine Yn9 ?_;intro e1
 have hmk :∀W:World,(Instr.makeSlice 294 (.int .i64 0) (.int .i64 ((l.length:Int)+1))).run Tryz.prog W = .ok (.slice (some ⟨W.heap.size,0,none⟩) 0 (l.length+1)) (W.alloc (.cells (madeCells (Value.cells (.string ⟨#[]⟩)) ((l.length+1))) 263)):=fun W=>by
  have h:=run_make (P:=Tryz.prog) W 294 263 i0 _ Tryz.underlying294 hi Nc .i64 .i64 0 ((l.length:Int)+1) Ya Ya YV8 Ya;exact Y2k
 go_enter Tryz.func197,Tryz.ntmps197;go_wp2_with fail;refine Z03 (fun w9=>Below w.heap.size w w9) [(0,0),(1,0),(2,0),(3,0),(4,1),(5,0),(6,0),(8,0),(9,0),(10,0),(11,1),(7,2),(12,2),(13,0),(14,0),(15,2)] Yb Yb (fun KK hKK=>?_);refine Yg8 ?_;intro K9 hK9
 refine Z0l _ Yd _ _ _ Yd 263 i0 _ 1 16 Tryz.underlying294 hi Nc rm Aj rfl Ya _ 0 [] Yd (World.ownsRow_made _ _ _ (Nat.zero_le _) Yj YFi) A l.length c (l.flatMap Name.cells) Yd (Z0u Name.cells_length l)
  ((Ww.o.drew.alloc _).news Name.cells_length Ya) (Name.oneAll l) Yj Ya ?_
 intro v2 w2 Od Cf hnil Xd;refine Y8n ?_;clear hK9 K9;rw [Zts,Ztk] at Od;obtain ⟨A',c',rfl,_,_,hz⟩:=Z14 Od;have Nk:=(HB.o.drew.alloc (.cells (madeCells (Value.cells (.string ⟨#[]⟩)) ((l.length+1))) 263)).grown Cf Yy;exact Yzw
theorem Zpf (b c:Nat) (sn:Bool) (A:Option Addr) (l:List Name) (w:World) (hS:Z33 w b sn A c l) (hl:(l.length:Int)≤1000000000) :
 Calls Tryz.prog 197 #[.pointer (some ⟨b,0,none⟩)] w (Z7j w b sn A l):=by
 cases sn
 · exact Zg2 b c A l w hS
 · exact Zee b c A l w hS hl
def Z7l (w:World) (b:Nat) (sn:Bool) (A:Option Addr) (l:List Name) (x:Name) (e:Ending) (w':World):Prop:=
 e = .returned (.bool (!has Z11 l x))∧∃sn' A' c',Z33 w' b sn' A' c' (put Z11 l x)∧Fr (Z0w b sn A) w w'∧Z1w w sn A sn' A'
theorem Zar (b c:Nat) (sn:Bool) (A:Option Addr) (l:List Name) (x:Name) (w:World) (hS:Z33 w b sn A c l) (hs:Srt Z11 l) (hl:(l.length:Int)≤100000000) (hh:has Z11 l x=true) :
 Calls Tryz.prog 167 #[.pointer (some ⟨b,0,none⟩),.string x] w (Z7l w b sn A l x):=by
 have HS:=hU hS;have HO:=hU hs;clear hS hs;go_enter Tryz.func167,Tryz.ntmps167;go_wp2_with fail;refine (Z9t b c sn A l x _ (HS.o.new_ (Zst _ _)) HO.o Ya).mono ?_;exact Y2r
theorem Zej (b c:Nat) (sn:Bool) (A:Option Addr) (l:List Name) (x:Name) (w:World) (hS:Z33 w b sn A c l) (hs:Srt Z11 l) (hl:(l.length:Int)≤100000000) (hh:has Z11 l x=false) :
 Calls Tryz.prog 167 #[.pointer (some ⟨b,0,none⟩),.string x] w (Z7l w b sn A l x):=by
 obtain ⟨i0,hi,Nc,rm,Aj⟩:=info_parts Zdn;refine Yc5 ?_;intro HS HO hb;clear hS hs;have iu:=Z62 (cmp:=Z11) l x;go_enter Tryz.func167,Tryz.ntmps167;go_wp2_with fail;have Gd:=HS.o.new_ (Zst w.heap.size w);have fm:=hU Gd;clear Gd;refine (Z9t b c sn A l x _ fm.o HO.o Ya).mono ?_;refine Yes ?_;intro w1 M2 hsz1 Nk;go_wp2_with fail;refine (Zpf b c sn A l _ M2.o Ya).mono ?_;refine Yet ?_;intro w2 A1 c1 F7 Td Uz hsz2;refine Y87 ?_;intro s0 f0 hb2 fk qq Vy;clear F7 Td Uz
 go_upto_region 8 with
  (at_builtin;refine Z0g (w2.alloc (.cells #[.string x] 263)) rfl (.tmp 23) (.tmp 25) 294 rfl 263 i0 _ 1 16 Tryz.underlying294 hi Nc rm Aj rfl Ya (.slice A1 l.length c1) l.length (l.flatMap Name.cells) rfl (Z02 fk.o.row ((Zst _ _).alloc (Zsu _) _)) (some ⟨w2.heap.size,0,none⟩) 1 1 (Name.cells x) rfl rfl (fun _=>⟨_,rfl,Zte (heap_alloc_new _ _)⟩) (Name.one x) Yj Ya ?_;
   intro v2 w3 Od Cf Si Xd;
   obtain ⟨g,c2,rfl⟩:∃g c2,v2 = .slice (some ⟨g,0,none⟩) (l.length+1) c2:=(by
    rcases Z0f Od with ⟨_,h0,_⟩|⟨g,c2,h,_⟩
    · omega
    · exact ⟨g,c2,h⟩);
   have pm:=(fk.o.blk.alloc (.cells #[.string x] 263)).grown Cf (Z01 fk.o.row fk.o.blk Yc);
   have c0:=(pm.cell 0).trans rfl;
   have z0:=pm.frozen 0;
   have Ue:=hU pm;
   have ss:=hU Od;
   have yr:=hU Cf;
   clear pm Od Cf)
 refine Y4c ?_;intro hlg
 have hG:(Z0w b sn A g∨w.heap.size≤g)∧Z1w w sn A false (some ⟨g,0,none⟩)∧True∧g≠b:=by
  exact Yte
 obtain ⟨Cr,C5,hgk1,Dg⟩:=hG;refine Yp0 ?_;intro w4 N8;have Ll:Blk w4 b 296 #[.slice (some ⟨g,0,none⟩) (l.length+1) c2,.bool false]:=YDu
 have jy:w4.ownsRow 0 263 1 (.slice (some ⟨g,0,none⟩) (l.length+1) c2) (l.length+1) ((Z0k l x l.length).flatMap Name.cells):=by
  exact Yei
 have uc:Fr (Z0w b sn A) w w4:=by
  exact Yev
 refine Yvv ?_;intro sk Kw Ni pq ae s4 E7;clear s4 N8 Ll jy uc Xd Cr C5 Si  s0 f0;go_wp2_with fail
 go_loopw [7] (fun s wr=>∃i:Nat,s = .int .i64 i∧rank Z11 l x≤i∧i≤l.length∧wr.ownsRow 0 263 1 (.slice (some ⟨g,0,none⟩) (l.length+1) c2) (l.length+1) ((Z0k l x i).flatMap Name.cells)∧Fr (· = g) w4 wr) (fun s wr=>(intOf s).toNat)
 case atStart=>exact ⟨l.length,Yn,iu,Zsu _,pq.o,Fr.refl _ _⟩
 case round=>
  obtain ⟨i,rfl,hi1,ul,Od,zp⟩:=hrel;refine Yul ?_;intro hgw r0 fz Cj Is;clear Od zp;by_cases hlt:rank Z11 l x<i
  · obtain ⟨j,rfl⟩:∃j,i=j+1:=⟨i - 1,Ya⟩
    have hj:j<l.length:=Ya;have Xm:=Z0e (A:=some ⟨g,0,none⟩) (c:=c2) (l:=Z0k l x (j+1)) Name.cells_length YCh;obtain ⟨g',o',Pm,_,R9⟩:=Xm.at_ (k:=j) Yu;injection Pm with Pm;injection Pm with hg1 hg2;subst hg1;subst hg2;rw [Z2n l x hj] at R9;have q0:wr.cell? ⟨g,j,none⟩=some (.string l[j]):=Yq
    have rmj:Room wr g 263 (c2*1)∧l.length+1≤c2:=by
     exact Yty
    obtain ⟨zm,re⟩:=rmj;obtain ⟨u0,t0⟩:=zm.cell (i:=(j+1)) Ya;refine Yqp ?_;intro b0 b1 b4 b2 b3 w1 w2;clear R9 Xm zm;refine Yay ?_;intro y hy;rw [←hy] at q0;refine Ybq ?_;intro HY U9;clear hy;go_wp2_with fail;refine Z03 (fun w9=>Below wr.heap.size wr w9) [(0,0),(1,0),(2,0),(3,1),(4,0),(5,0),(6,0),(7,0),(8,1),(9,0),(10,0),(11,0),(12,1),(13,0),(14,2)] Yb Yb (fun KK hKK=>?_);refine Y9j ?_;refine Y2t ?_;refine Y1l ?_;clear hKK KK;go_wp2_with fail;go_roundw
    case rel=>
     refine Y0x ?_;have Ss:=((Cj.o).stored ((j+1)) (.string y)).1
     have he:setAll ((Z0k l x (j+1)).flatMap Name.cells) ((j+1)) (Name.cells y)=(Z0k l x j).flatMap Name.cells:=by
      rw [Z5q Name.cells_length Ya _ (j+1) Yu,HY.o,Z2o l x hj]
     rw [←he];exact Ss
    case measure=>simp [intOf]<;>omega
  · obtain rfl:i=rank Z11 l x:=by omega
    have rmj:Room wr g 263 (c2*1)∧l.length+1≤c2:=by
     exact Yty
    obtain ⟨zm,re⟩:=rmj;obtain ⟨k,hk⟩:∃k,k=rank Z11 l x:=⟨_,rfl⟩;rw [←hk] at ul hlt ⊢;refine Y2m ?_;intro u0 t0 b1 b2 HK U9;clear zm hk;go_wp2_with fail;go_ret;have uy:=Cj.o;rw [←HK.o] at uy;have Ss:=((uy).stored (k) (.string x)).1
    have he:setAll ((Z0k l x k).flatMap Name.cells) (k) (Name.cells x)=(put Z11 l x).flatMap Name.cells:=by
     rw [Z5q Name.cells_length Ya _ k Yu,Z3b l x ul,Z6b Z48 HO.o hh,HK.o]
    have ju:=Z2y Z48 HO.o hh;exact Y61
theorem Zhr (b c:Nat) (sn:Bool) (A:Option Addr) (l:List Name) (x:Name) (w:World) (hS:Z33 w b sn A c l) (hs:Srt Z11 l) (hl:(l.length:Int)≤100000000) :
 Calls Tryz.prog 167 #[.pointer (some ⟨b,0,none⟩),.string x] w (Z7l w b sn A l x):=by
 cases hh:has Z11 l x
 · exact Zej b c sn A l x w hS hs hl hh
 · exact Zar b c sn A l x w hS hs hl hh
theorem Zjj (b c:Nat) (sn:Bool) (A:Option Addr) (l:List Name) (x:Name) (w:World) (hS:Z33 w b sn A c l) (hs:Srt Z11 l) (hl:(l.length:Int)≤1000000000) :
 Calls Tryz.prog 201 #[.pointer (some ⟨b,0,none⟩),.string x] w (Zcu l x w):=by
 have HS:=hU hS;have HO:=hU hs;clear hS hs;go_enter Tryz.func201,Tryz.ntmps201;go_wp2_with fail;refine (Z9t b c sn A l x _ (HS.o.new_ (Zst _ _)) HO.o Ya).mono ?_;exact Yb4
def Zbh (w:World) (b:Nat) (A:Option Addr) (c:Nat) (l:List Name) (e:Ending) (w':World):Prop:=
 ∃k,e = .returned (.pointer (some ⟨k,0,none⟩))∧w.heap.size≤k∧Z33 w' b true A c l∧Z33 w' k true A c l∧Fr (· = b) w w'
theorem Zih (b c:Nat) (sn:Bool) (A:Option Addr) (l:List Name) (w:World) (hS:Z33 w b sn A c l) :
 Calls Tryz.prog 198 #[.pointer (some ⟨b,0,none⟩)] w (Zbh w b A c l):=by
 have s0:=hS.cell0;have s1:=hS.cell1;have f1:=hS.blk.frozen 1;have hb:=hS.lt;have HS:=hU hS;clear hS;go_enter Tryz.func198,Tryz.ntmps198;go_wp2;go_ret;have h1:Z33 (w.setCell ⟨b,1,none⟩ (.bool true)) b true A c l:=⟨HS.o.blk.set_ 1 _,ownsRow_setCell_other HS.o.row (Z01 HS.o.row HS.o.blk Yc) _⟩;refine ⟨w.heap.size,Ye,Zsu _,h1.new_ ((Zst _ _).alloc (Zsu _) _),⟨?_,Z02 h1.row ((Zst _ _).alloc (Zsu _) _)⟩,((Fr.refl (· = b) w).setCell (p:=⟨b,1,none⟩) (.inl rfl) _).alloc _⟩;have h2:=Blk.new (w.setCell ⟨b,1,none⟩ (.bool true)) 296 #[.slice A l.length c,.bool true];simpa using h2
def Zf2 (w:World) (xs:List Name) (e:Ending) (w':World):Prop:=
 ∃k,e = .returned (.pointer (some ⟨k,0,none⟩))∧w.heap.size≤k∧∃sn A c,Z33 w' k sn A c (puts Z11 [] xs)∧AIn A (w.heap.size≤·)∧Below w.heap.size w w'
theorem Zp7 (A:Option Addr) (c:Nat) (xs:List Name) (w:World) (hrd:Z0y w 1 Name.cells A c xs) (hl:(xs.length:Int)≤10000000) :
 Calls Tryz.prog 139 #[.slice A xs.length c] w (Zf2 w xs):=by
 have Ww:=hU hrd;clear hrd;go_enter Tryz.func139,Tryz.ntmps139;go_wp2_with fail;obtain ⟨W0,rp⟩:∃W0,W0=w.alloc (.cells #[.slice none 0 0,.bool false] 296):=⟨_,rfl⟩;have yj:Below w.heap.size w W0:=Yp;have Ud:Z33 W0 w.heap.size false none 0 []:=⟨Yw,⟨Ye,.inl ⟨rfl,rfl⟩⟩⟩;rw [←rp];clear rp;have jv:=hU yj;have Vf:=hU Ud;clear yj Ud
 go_loopw [10] (fun s wr=>∃i:Nat,s = .int .i64 i∧i≤xs.length∧∃sn A' c',Z33 wr w.heap.size sn A' c' (puts Z11 [] (xs.take i))∧AIn A' (w.heap.size≤·)∧Below w.heap.size w wr) (fun s wr=>xs.length - (intOf s).toNat)
 case atStart=>exact ⟨0,rfl,Nat.zero_le _,false,none,0,Vf.o,AIn.none_ _,jv.o⟩
 case round=>
  obtain ⟨i,rfl,hi,sn,A',c',hS,Ml,hB⟩:=hrel;have HS:=hU hS;have HA:=hU Ml;have HB:=hU hB;clear hS Ml hB;by_cases hlt:i<xs.length
  · refine Ycc ?_;intro x hx
    obtain ⟨g,off,rfl,hgs,R9⟩:=(Ww.o.fr (Fr.of_new (M:=fun _=>False) HB.o) (fun _ _ h=>h)).at_ hlt;rw [←hx] at R9;have q0:wr.cell? ⟨g,off+i,none⟩=some (.string x):=Yq;refine Yhh ?_;intro b1 b2 HX;clear R9 hx;go_wp2_with fail;have Nl:=Srt.puts Z48 (xs.take i) (Srt.nil (cmp:=Z11))
    have Vx:(((puts Z11 [] (xs.take i)).length:Nat):Int)≤100000000:=by
     have:=Z1e Z48 (xs.take i) (Srt.nil (cmp:=Z11));exact Yt5
    refine (Zhr w.heap.size c' sn A' _ x _ (HS.o.new_ (Zst _ _)) Nl Vx).mono ?_;exact Yc0
  · exact Yro
abbrev Z2z:=Sets (α:=Name) 296 263 1 Name.cells Z11
section
variable {D:Nat→Prop}{w:World}{S:Nat→Option (List Name)}{σ:Nat→St}{b:Nat}{l:List Name}
def Zey (D:Nat→Prop) (w:World) (S:Nat→Option (List Name)) (σ:Nat→St) (b:Nat) (l:List Name) (w':World):Prop:=
 ∃σ',Z2z D w' (upd S b (some l)) σ'∧(∀k,k≠b→σ' k=σ k)∧Fr (fun k=>¬D k) w w'∧Fr (Z0w b (σ b).sn (σ b).A) w w'
theorem Zmx (x:Name) (h:Z2z D w S σ) (hb:S b=some l) (hl:(l.length:Int)≤100000000) :
 Calls Tryz.prog 167 #[.pointer (some ⟨b,0,none⟩),.string x] w fun e w'=>e = .returned (.bool (!has Z11 l x))∧Zey D w S σ b (put Z11 l x) w':=by
 refine (Zhr b _ _ _ l x w (h.at_ b l hb) (h.srt b l hb) hl).mono ?_;rintro e w' ⟨he,sn',A',c',h1,hF,hM⟩;exact ⟨he,_,h.moved Yc hb h1 ((h.srt b l hb).put Z48 x) hF hM,fun k hk=>Z28 _ _ hk,h.mod hb hF,hF⟩
def Znp (D:Nat→Prop) (w:World) (S:Nat→Option (List Name)) (_:Nat→St) (l:List Name) (e:Ending) (w':World):Prop:=
 ∃k,e = .returned (.pointer (some ⟨k,0,none⟩))∧w.heap.size≤k∧(∀b l,S b=some l→b≠k)∧∃σ',Z2z D w' (upd S k (some l)) σ'∧Fr (fun k=>¬D k) w w'
theorem Zmw (A:Option Addr) (c:Nat) (xs:List Name) (h:Z2z D w S σ) (hrd:Z0y w 1 Name.cells A c xs) (hl:(xs.length:Int)≤10000000) :
 Calls Tryz.prog 139 #[.slice A xs.length c] w fun e w'=>Znp D w S σ (puts Z11 [] xs) e w'∧Below w.heap.size w w':=by
 refine (Zp7 A c xs w hrd hl).mono ?_;rintro e w' ⟨k,he,hk,sn,A',c',h1,hA,hB⟩;exact ⟨⟨k,he,hk,fun b l hb e=>YZ2,_,h.add hk h1 (Srt.puts Z48 xs Srt.nil) (.inl hA) hB,Fr.of_new hB⟩,hB⟩
theorem Zgk (h:Z2z D w S σ) (hb:S b=some l) :
 Calls Tryz.prog 198 #[.pointer (some ⟨b,0,none⟩)] w fun e w'=>∃k,e = .returned (.pointer (some ⟨k,0,none⟩))∧w.heap.size≤k∧(∀b l,S b=some l→b≠k)∧
  ∃σ',Z2z D w' (upd S k (some l)) σ'∧(∀j,j≠k→j≠b→σ' j=σ j)∧(σ' b).sn=true∧(σ' b).A=(σ b).A∧(σ' k).sn=true∧(σ' k).A=(σ b).A∧Fr (fun k=>¬D k) w w'∧Fr (· = b) w w':=by
 refine (Zih b _ _ _ l w (h.at_ b l hb)).mono ?_;rintro e w' ⟨k,he,hk,h1,h2,hF⟩;(have lx:b≠k:=fun e=>YZ2);have hD:Fr (fun k=>¬D k) w w':=hF.mono (fun k _ hk=>by rw [hk];exact (h.o b l hb).1);have hs:=h.seen Yc hb h1 hF;have hrow:=(h.at_ b l hb).row_lt;refine ⟨k,he,hk,fun b l hb e=>YZ2,upd (upd σ b ⟨true,(σ b).A,(σ b).c⟩) k ⟨true,(σ b).A,(σ b).c⟩,⟨fun j m hj=>?_,fun j m hj=>?_,fun j m hj=>?_,fun j m j' m' hj hj' hjj hsj a a' ha ha'=>?_,hs.low⟩,fun j h1 h2=>by rw [Z28 _ _ h1,Z28 _ _ h2],by rw [Z28 _ _ lx,Z19],by rw [Z28 _ _ lx,Z19],by rw [Z19],by rw [Z19],hD,hF⟩
 · by_cases e:j=k
   · subst e;rw [Z19] at hj ⊢;cases hj;exact h2
   · rw [Z28 _ _ e] at hj ⊢;exact hs.at_ j m hj
 · by_cases e:j=k
   · subst e;rw [Z19] at hj;cases hj;exact h.srt b l hb
   · rw [Z28 _ _ e] at hj;exact h.srt j m hj
 · by_cases e:j=k
   · subst e;rw [Z19] at hj ⊢;cases hj
     exact ⟨fun hd=>by have:=h.low _ hd;omega,fun hs2=>by cases hs2⟩
   · rw [Z28 _ _ e] at hj ⊢;exact hs.o j m hj
 · by_cases e:j=k
   · subst e;rw [Z19] at hsj;cases hsj
   · rw [Z28 _ _ e] at hj hsj ha
     by_cases e2:j'=k
     · subst e2
       rw [Z19] at ha';by_cases e3:j=b
       · subst e3;rw [Z19] at hsj;cases hsj
       · exact hs.apart j m b l hj hb e3 hsj a a' ha (by rw [Z19];exact ha')
     · rw [Z28 _ _ e2] at hj' ha'
       exact hs.apart j m j' m' hj hj' hjj hsj a a' ha ha'
end
end
section
open Go.RowKit Go.Shelf
def Z10 (A:Option Addr) (W W':World):Prop:=W.heap.size≤W'.heap.size∧∀a,A=some a→a.block<W.heap.size→W'.heap[a.block]? = W.heap[a.block]?
theorem Z10.trans {A:Option Addr}{X Y Z:World}(h:Z10 A X Y) (k:Z10 A Y Z):Z10 A X Z:=⟨Zt6 h.1 k.1,fun a e hl=>(k.2 a e (Zsw hl h.1)).trans (h.2 a e hl)⟩
theorem Z10.of_priv {A:Option Addr}{B:Nat}{X Y:World}(hA:AIn A (· < B)) (h:Priv B X Y):Z10 A X Y:=⟨h.size,fun a e hl=>h.block _ hl (.inl (hA a e))⟩
theorem Z10.of_below {A:Option Addr}{B:Nat}{X Y:World}(hA:AIn A (· < B)) (h:Below B X Y):Z10 A X Y:=⟨h.size,fun a e _=>h.block _ (hA a e)⟩
theorem Z10.rd {α:Type}{size c:Nat}{cells:α→List Value}{A:Option Addr}{l:List α}{W W':World}(hk:Z10 A W W') (h:Z0y W size cells A c l):Z0y W' size cells A c l:=
 h.keep hk.1 (fun p hp ⟨a,ha,hb⟩=>World.cell?_of_block (by rw [←hb];exact hk.2 a ha (by rw [hb];exact hp)))
def Z1s (b:Nat) (X Y:World):Prop:=∃X1,Below X.heap.size X X1∧Y=X1.setCell ⟨b,1,none⟩ (.bool true)
theorem Z1s.fr {b:Nat}{W W1:World}(h:Z1s b W W1):Fr (· = b) W W1:=by
 obtain ⟨X1,hb,rfl⟩:=h;exact (Fr.of_new (M:=(· = b)) hb).setCell (p:=⟨b,1,none⟩) (.inl rfl) _
abbrev Zpv {α:Type}(lo:Nat) (encs:α→Array Value) (xs:List α) (Kp:World→World→Prop) (J Jx:List α→World→Prop):Prop:=
 ∀pre x post W1,xs=pre++x :: post→J pre W1→YieldAt Fence.wide 0 Tryz.prog lo (encs x) W1 fun e W'=>
  (e = .returned (.bool true)∧J (pre ++ [x]) W'∧Kp W1 W')∨(e = .returned (.bool false)∧Jx (pre ++ [x]) W')
abbrev Told {α:Type}(xs:List α) (J Jx:List α→World→Prop) (e:Ending) (W':World):Prop:=(∃v,e = .returned v)∧(J xs W'∨∃pre post,xs=pre++post∧Jx pre W')
end
section
open Go.RowKit Go.Shelf
attribute [local go_sem] Oper.semAt_some
structure Seq {α:Type}(gf:Nat) (lb:Array Value) (encs:α→Array Value) (xs:List α) (w:World) (start Kp:World→World→Prop):Prop where
 enter :∀args w,(callFunc gf args).run Tryz.prog w = .ok (.enter gf args) w
 iter :∀W,Below w.heap.size w W→Iter Tryz.prog gf lb encs xs W start (fun X Y=>Kp X Y∧KeepsFrom W.heap.size X Y)
 trans :∀A B C,Kp A B→Kp B C→Kp A C
 keep :∀A B,Priv w.heap.size A B→Kp A B
 below :∀A B,Below w.heap.size A B→Kp A B
 mods :∀W W1,start W W1→Fr (· < w.heap.size) W W1
theorem Z36 {B:Nat}{X Y:World}(h:Fr (· < B) X Y):KeepsFrom B X Y:=⟨h.size,fun k _ hB hk _=>(h.block k (Zt7.1 hk).1 Ya).trans hk⟩
theorem Zce (W:World) (base:Nat) (e:TypeId) (size:Nat):W.ownsRow base e size (.slice none 0 0) 0 []:=⟨Ye,.inl ⟨rfl,rfl⟩⟩
theorem Seq.new_ {α:Type}{gf:Nat}{lb:Array Value}{encs:α→Array Value}{xs:List α}{w w':World}{start Kp:World→World→Prop}(h:Seq gf lb encs xs w start Kp) (hb:Below w.heap.size w w'):Seq gf lb encs xs w' start Kp:=
 ⟨h.enter,fun W hW=>h.iter W (hb.trans (hW.mono hb.size)),h.trans,fun A B hp=>h.keep A B (hp.mono hb.size),fun A B hp=>h.below A B (hp.mono hb.size),fun W W1 hs=>(h.mods W W1 hs).mono (fun _ _ hk=>Zsw hk hb.size)⟩
end
section
open Go.RowKit Go.Shelf
structure KnS (W:World) (S:Nat→Option (List Name)) (kb sb:Nat) (K:Kn) (A:Option Addr) (c:Nat):Prop where
 blk:Blk W kb 265 #[.pointer (some ⟨sb,0,none⟩),.slice A K.2.length c]
 row:W.ownsRow 0 9 1 (.slice A K.2.length c) K.2.length (K.2.map Value.string)
 set:S sb=some K.1
theorem Zla {D:Nat→Prop}{W:World}{S:Nat→Option (List Name)}{σ:Nat→St}{kb sb:Nat}{K:Kn}{A:Option Addr}{c:Nat}(v:ByteArray) (hN:Z2z D W S σ) (hK:KnS W S kb sb K A c) (hl:(K.1.length:Int)≤1000000) :
 Calls Tryz.prog 170 #[.pointer (some ⟨kb,0,none⟩),.string v] W fun e W'=>e = .returned (.bool (hasK K v))∧Below W.heap.size W W':=by
 refine Y9z ?_;intro s0 hkl;have HS:=hU (hN.at_ sb K.1 hK.set);have HO:=hU (hN.srt sb K.1 hK.set);clear hN hK;go_enter Tryz.func170,Tryz.ntmps170;go_wp2_with fail;refine (Zjj sb _ _ _ K.1 v _ HS.o HO.o Ya).mono ?_;rintro e w1 ⟨rfl,Pk⟩;go_wp2_with fail;go_ret;exact ⟨rfl,Pk⟩
theorem Zlb {D:Nat→Prop}{W:World}{S:Nat→Option (List Name)}{σ:Nat→St}{kb sb:Nat}{K:Kn}{A:Option Addr}{c:Nat}(hN:Z2z D W S σ) (hK:KnS W S kb sb K A c) :
 Calls Tryz.prog 168 #[.pointer (some ⟨kb,0,none⟩)] W fun e W'=>∃kb' sb',e = .returned (.pointer (some ⟨kb',0,none⟩))∧W.heap.size≤kb'∧W.heap.size≤sb'∧(∃σ',Z2z D W' (upd S sb' (some K.1)) σ')∧KnS W' (upd S sb' (some K.1)) kb' sb' (K.1,[]) none 0∧Fr (fun j=>¬D j) W W'∧Fr (· = sb) W W':=by
 refine Y9z ?_;intro s0 hkl;have HN:=hU hN;have HS:=hU hK.set;clear hN hK;go_enter Tryz.func168,Tryz.ntmps168;go_wp2_with fail;refine (Zgk HN.o HS.o).mono ?_;rintro e w1 ⟨k,rfl,hk,_,σ',h1,_,_,_,_,_,hF,M7⟩;have H1:=hU h1;have HF:=hU hF;have Fj:=hU M7;clear h1 hF M7;go_wp2_with fail;go_ret;have hn:Below w1.heap.size w1 (w1.alloc (.cells #[.pointer (some ⟨k,0,none⟩),.slice none 0 0] 265)):=(Zst _ _).alloc (Zsu _) _;exact ⟨w1.heap.size,k,rfl,HF.o.size,hk,⟨σ',H1.o.below hn⟩,⟨Blk.new _ _ _,Zce _ _ _ _,Z19 _ _ _⟩,HF.o.trans (Fr.of_new hn),Fj.o.trans (Fr.of_new hn)⟩
theorem Zlc {D:Nat→Prop}{W:World}{S:Nat→Option (List Name)}{σ:Nat→St}{kb sb:Nat}{K:Kn}{A:Option Addr}{c:Nat}(a:Z5l) (hN:Z2z D W S σ) (hK:KnS W S kb sb K A c) (hl:(K.1.length:Int)≤1000000) :
 Calls Tryz.prog 141 #[.pointer (some ⟨kb,0,none⟩),.agg #[.string a.var,.int .i64 a.sym.kind,.string a.sym.text,.int .i64 a.sym.n]] W fun e W'=>e = .returned (.bool (Z68 K a))∧Below W.heap.size W W':=by
 have HN:=hU hN;have HK:=hU hK;clear hN hK;by_cases hv:a.var.toList = []
 · have v1:(a.var.toList == [])=true:=by simp [hv]
   have v2:a.var.toList.isEmpty=true:=YZb;have v3:decide (a.var.toList = [])=true:=YZb;have HR:=hU (show Z68 K a=false by simp [Z68,hv]);clear hv;go_enter Tryz.func141,Tryz.ntmps141;go_wp2_with fail;go_ret;exact ⟨YE7,(Zst _ _).alloc (Zsu _) _⟩
 · have v1:(a.var.toList == [])=false:=by simp [hv]
   have v2:a.var.toList.isEmpty=false:=YZb;have v3:decide (a.var.toList = [])=false:=YZb;have HR:=hU (show Z68 K a = !hasK K a.var by simp [Z68,hv]);clear hv;go_enter Tryz.func141,Tryz.ntmps141;go_wp2_with fail;have hb:=(Zst W.heap.size W).alloc (Zsu _) (.cells #[.string a.var,.int .i64 a.sym.kind,.string a.sym.text,.int .i64 a.sym.n] 177);refine (Zla a.var (HN.o.below hb) ⟨HK.o.blk.new_ hb,Z02 HK.o.row hb,HK.o.set⟩ hl).mono ?_;rintro e w1 ⟨rfl,Pk⟩;have HB:=hU (hb.trans (Pk.mono Ye));clear hb Pk;go_wp2_with fail;exact Yyw
end
section
open Go.RowKit
theorem Zkq {α:Type}{tSet tE size:Nat}{cells:α→List Value}{w:World}{b:Nat}{sn:Bool}{A:Option Addr}{c:Nat}{l:List α}{g:Nat}{t:TypeId}{cs:Array Value}
 (hS:Z29 tSet tE size cells w b sn A c l) (hB:Blk w g t cs) (h1:t≠tSet) (h2:t≠tE):¬Z0w b sn A g:=by
 exact Yy6
section
variable {D:Nat→Prop}{w w':World}{σ:Nat→St}
def Off {α:Type}(k:Nat) (S:Nat→Option (List α)) (σ:Nat→St):Prop:=∀b l,S b=some l→b≠k∧AIn (σ b).A (·≠k)
end
end
section
open Go.RowKit Go.Shelf
theorem Sets.off_of {α:Type}{tSet tE size:Nat}{cells:α→List Value}{cmp:α→α→Int}{D:Nat→Prop}{w:World}{S:Nat→Option (List α)}{σ:Nat→St}{k:Nat}{t:TypeId}{cs:Array Value}(h:Sets tSet tE size cells cmp D w S σ) (hB:Blk w k t cs) (n1:t≠tSet) (n2:t≠tE):Off k S σ:=
 fun b l hb=>⟨fun e=>hB.ne_ (h.at_ b l hb).blk n1 e.symm,fun a ha e=>by
  have:=Z01 (h.at_ b l hb).row hB (Ne.symm n2);rw [ha] at this
  exact this (by simp [Value.ownBlock,e])⟩
theorem Sets.offM {α:Type}{tSet tE size:Nat}{cells:α→List Value}{cmp:α→α→Int}{D M:Nat→Prop}{w w':World}{S:Nat→Option (List α)}{σ:Nat→St}(h:Sets tSet tE size cells cmp D w S σ) (ho :∀q,M q→Off q S σ) (hF:Fr M w w'):Sets tSet tE size cells cmp D w' S σ:=
 ⟨fun b l hb=>(h.at_ b l hb).fr hF (fun hd=>(ho b hd b l hb).1 rfl) (fun a ha hd=>(ho _ hd b l hb).2 a ha rfl),h.srt,h.o,h.apart,fun k hk=>Zsw (h.low k hk) hF.size⟩
theorem Zpi {α:Type}{tSet tE size:Nat}{cells:α→List Value}{w w':World}{b:Nat}{sn:Bool}{A:Option Addr}{c:Nat}{l:List α}{e sz n:Nat}{v:Value}{xs:List Value}(hS:Z29 tSet tE size cells w b sn A c l) (h:w.ownsRow 0 e sz v n xs) (n1:e≠tSet) (n2:e≠tE) (hF:Fr (Z0w b sn A) w w'):w'.ownsRow 0 e sz v n xs:=
 ⟨h.1,h.2.imp id fun ⟨g,cap,cur,hv,h0,hg,hr⟩=>⟨g,cap,cur,hv,h0,Blk.fr (t:=e) hg hF (Zkq hS hg n1 n2),hr⟩⟩
theorem Zp8 {Y:World}{t:TypeId}{cs:List Value}{k:Nat}(hk:Y.heap.size=k):∀(j:Nat) (u:Value),cs[j]? = some u→(Y.alloc (.cells cs.toArray t)).cell? ((⟨k,0,none⟩:Addr).add j)=some u:=by
 subst hk;exact Zte (heap_alloc_new _ _)
def Zqh (D:Nat→Prop) (W:World) (S:Nat→Option (List Name)) (kb sb:Nat) (K:Kn) (v:ByteArray) (W':World):Prop:=
 ∃σ' A' c',Z2z D W' (upd S sb (some (metK K v).1)) σ'∧KnS W' (upd S sb (some (metK K v).1)) kb sb (metK K v) A' c'∧AIn A' (fun j=>¬D j)∧Fr (fun j=>¬D j) W W'
theorem Zoq:(Tryz.prog.info? 9).map (fun i=>(i.zero,i.size,i.bytes))=some (some (.string ⟨#[]⟩),1,16):=Yb
theorem Zqz {D:Nat→Prop}{W:World}{S:Nat→Option (List Name)}{σ:Nat→St}{kb sb:Nat}{K:Kn}{A:Option Addr}{c:Nat}(v:ByteArray) (hN:Z2z D W S σ) (hK:KnS W S kb sb K A c) (hkD :¬D kb) (hAD:AIn A (fun j=>¬D j)) (hl:(K.1.length:Int)≤1000000) (hl2:(K.2.length:Int)≤1000000) :
 Calls Tryz.prog 199 #[.pointer (some ⟨kb,0,none⟩),.string v] W fun e W'=>e = .returned (.tuple #[])∧Zqh D W S kb sb K v W':=by
 obtain ⟨i0,tm,Nc,rm,Aj⟩:=info_parts Zoq;refine Y9z ?_;intro s0 hkl;have HN:=hU hN;have HK:=hU hK;have xd:=hU hAD;have fv:=hU hkD;have fg:=hU (hN.at_ sb K.1 hK.set);clear hN hK hAD hkD;go_enter Tryz.func199,Tryz.ntmps199;go_wp2_with fail;refine (Zmx v HN.o HK.o.set Ya).mono ?_;rintro e w1 ⟨rfl,σ',h1,_,hF,M7⟩;have vf:=HK.o.blk.fr M7 (Zkq fg.o HK.o.blk Yc Yc);have Ub:=Zpi fg.o HK.o.row Yc Yc M7;have H1:=hU h1;have HF:=hU hF;have zz:=hU vf;have yh:=hU Ub;clear h1 hF M7;cases hh:has Z11 K.1 v
 · have hm:metK K v=(put Z11 K.1 v,K.2 ++ [v]):=by unfold metK;rw [hh];rfl
   have HM:=hU hm;have s1:w1.cell? ⟨kb,1,none⟩=some (.slice A K.2.length c):=(vf.cell 1).trans rfl;have f1:=vf.frozen 1;have hkl1:=vf.lt;have hlt1:=HF.o.size;clear hm hh vf Ub s0;(go_wp2_with (at_builtin;refine Z0g _ rfl (.tmp 14) (.tmp 16) 228 rfl 9 i0 _ 1 16 Tryz.underlying228 tm Nc rm Aj rfl Ya (.slice A K.2.length c) K.2.length (K.2.map Value.string) rfl (Z02 yh.o ((Zst _ _).alloc (Zsu _) _)) _ 1 1 [.string v] rfl rfl (fun _=>⟨_,rfl,Zp8 Ye⟩) (by intro u hu;simp at hu;subst hu;rfl) Yj Ya ?_;intro v' w4 Od hg Si Xd;obtain ⟨A',c',rfl,_,_,_⟩:=Z14 Od;have Fx:=(zz.o.alloc (.cells #[.string v] 9)).grown hg (Z01 yh.o zz.o Yc);have s1:=(Fx.cell 1).trans rfl;have f1:=Fx.frozen 1;have hkl1:=Fx.lt;have jp:=hU Fx;have zu:=hU Od;have dh:=hU hg;have Ex:=hU Xd;clear Fx Od hg Si Xd));go_end0;refine ⟨rfl,?_⟩;unfold Zqh;rw [HM.o];have zp:Fr (fun j=>(Value.slice A K.2.length c).ownBlock=some j∨j=kb) w1 (w4.setCell ⟨kb,1,none⟩ (.slice A' (K.2.length+1) c')):=(((Fr.refl _ w1).alloc _).grown dh.o (fun k hk=>.inl (.inl hk))).setCell (p:=⟨kb,1,none⟩) (.inl (.inr rfl)) _
   have dv :∀k,((Value.slice A K.2.length c).ownBlock=some k∨k=kb)→Off k (upd S sb (some (put Z11 K.1 v))) σ':=by
    intro k hk;rcases hk with hk|rfl
    · rcases yh.o.2 with ⟨hv,_⟩|⟨g,cap,cur,hv,_,hg,_⟩
      · rw [hv] at hk;simp [Value.ownBlock] at hk
      · rw [hv] at hk
        (have e:g=k:=by simpa [Value.ownBlock] using hk);subst e;exact H1.o.off_of (t:=9) hg Yc Yc
    · exact H1.o.off_of zz.o Yc Yc
   refine ⟨σ',A',c',H1.o.offM dv zp,⟨?_,?_,Z19 _ _ _⟩,?_,HF.o.trans (zp.mono (fun j _ hj=>?_))⟩
   · have:=jp.o.set_ 1 (.slice A' (K.2.length+1) c')
     rw [Ztd];exact this
   · have h9:=ownsRow_setCell_other (a:=⟨kb,1,none⟩) zu.o (Z01 zu.o jp.o Yc) (.slice A' (K.2.length+1) c')
     rw [Ztd,Ztm];exact h9
   · intro a ha hd
     subst ha;have hlow:=H1.o.low _ hd;rcases Ex.o with h|h
     · rcases A with _|b
       · simp [Value.ownBlock] at h
       · have e:a.block=b.block:=by simpa [Value.ownBlock] using h
         exact xd.o b rfl (e ▸ hd)
     · have e:a.block=w1.heap.size+1:=by simpa [Value.ownBlock] using h
       omega
   · rcases hj with hj|rfl
     · rcases A with _|b
       · simp [Value.ownBlock] at hj
       · have e:b.block=j:=by simpa [Value.ownBlock] using hj
         exact fun hd=>xd.o b rfl (e ▸ hd)
     · exact fv.o
 · have hm:metK K v=(put Z11 K.1 v,K.2):=by unfold metK;rw [hh];rfl
   have HM:=hU hm;clear hm hh;go_wp2_with fail;go_end0;refine ⟨rfl,?_⟩;unfold Zqh;rw [HM.o];exact ⟨σ',A,c,H1.o,⟨zz.o,yh.o,Z19 _ _ _⟩,xd.o,HF.o⟩
theorem Zn8 {α:Type}(S:Nat→α) (b:Nat) (x y:α):upd (upd S b x) b y=upd S b y:=by
 funext k;by_cases e:k=b
 · subst e;rw [Z19,Z19]
 · rw [Z28 _ _ e,Z28 _ _ e,Z28 _ _ e]
def KSt (D:Nat→Prop) (W:World) (S:Nat→Option (List Name)) (kb sb:Nat) (K:Kn) (W':World):Prop:=
 ∃σ' A' c',Z2z D W' (upd S sb (some K.1)) σ'∧KnS W' (upd S sb (some K.1)) kb sb K A' c'∧AIn A' (fun j=>¬D j)∧Fr (fun j=>¬D j) W W'
theorem KSt.below {D:Nat→Prop}{W W1 W2:World}{S:Nat→Option (List Name)}{kb sb:Nat}{K:Kn}(h:KSt D W S kb sb K W1) (hb:Below W1.heap.size W1 W2):KSt D W S kb sb K W2:=by
 obtain ⟨σ',A',c',h1,h2,h3,h4⟩:=h;exact ⟨σ',A',c',h1.below hb,⟨h2.blk.new_ hb,Z02 h2.row hb,h2.set⟩,h3,h4.trans (Fr.of_new hb)⟩
theorem Zp5 (K:Kn) (v:ByteArray) (hs:Srt Z11 K.1):(metK K v).1.length≤K.1.length+1∧(metK K v).2.length≤K.2.length+1:=by
 unfold metK;cases h:has Z11 K.1 v
 · simp [Z2y Z48 hs h]
 · simp [Z47 h]
theorem KSt.met {D:Nat→Prop}{W W1:World}{S:Nat→Option (List Name)}{kb sb:Nat}{K:Kn}(v:ByteArray) (h:KSt D W S kb sb K W1) (hkD :¬D kb) (hl:(K.1.length:Int)≤1000000) (hl2:(K.2.length:Int)≤1000000) :
 Calls Tryz.prog 199 #[.pointer (some ⟨kb,0,none⟩),.string v] W1 fun e W'=>e = .returned (.tuple #[])∧KSt D W S kb sb (metK K v) W'∧(metK K v).1.length≤K.1.length+1∧(metK K v).2.length≤K.2.length+1:=by
 obtain ⟨σ',A',c',h1,h2,h3,h4⟩:=h;refine (Zqz v h1 h2 hkD h3 hl hl2).mono ?_;rintro e W' ⟨he,σ2,A2,c2,g1,g2,g3,g4⟩;rw [Zn8] at g1 g2;exact ⟨he,⟨σ2,A2,c2,g1,g2,g3,h4.trans g4⟩,Zp5 K v (h1.srt sb _ (Z19 _ _ _))⟩
theorem KSt.has_ {D:Nat→Prop}{W W1:World}{S:Nat→Option (List Name)}{kb sb:Nat}{K:Kn}(v:ByteArray) (h:KSt D W S kb sb K W1) (hl:(K.1.length:Int)≤1000000) :
 Calls Tryz.prog 170 #[.pointer (some ⟨kb,0,none⟩),.string v] W1 fun e W'=>e = .returned (.bool (hasK K v))∧Below W1.heap.size W1 W':=by
 obtain ⟨σ',A',c',h1,h2,h3,h4⟩:=h;exact Zla v h1 h2 hl
theorem Zh3 {α:Type}{l:List α}{i:Nat}(h:i<l.length):l.drop i=l[i] :: l.drop (i+1):=Ztt h
theorem Z52 (k:Kn) (t:Z0z) (l:List Z0z):Z27 k (t :: l)=if t.rel=8∨t.var.toList = [] then Z27 k l else if t.rel=1 then Z27 (metK k t.var) l else if hasK k t.var=true then Z27 k l else (false,k):=rfl
theorem Z7z {D:Nat→Prop}{W:World}{S:Nat→Option (List Name)}{kb sb:Nat}{K:Kn}{A:Option Addr}{c:Nat}(l:List Z0z) (h:KSt D W S kb sb K W) (hkD :¬D kb) (hrd:RowR Z07 D W A c l) (hl:(K.1.length:Int)+l.length≤1000000) (hl2:(K.2.length:Int)+l.length≤1000000) :
 Calls Tryz.prog 200 #[.pointer (some ⟨kb,0,none⟩),.slice A l.length c] W fun e W'=>e = .returned (.bool (Z27 K l).1)∧KSt D W S kb sb (Z27 K l).2 W'∧(Z27 K l).2.1.length≤K.1.length+l.length∧(Z27 K l).2.2.length≤K.2.length+l.length:=by
 have H0:=hU h;have HR:=hU hrd;have fv:=hU hkD;have hlc:=hrd.cap;clear h hrd hkD;go_enter Tryz.func200,Tryz.ntmps200;go_wp2_with fail
 go_loopw [9] (fun s wr=>∃(i:Nat) (K':Kn),s = .int .i64 i∧i≤l.length∧Z27 K l=Z27 K' (l.drop i)∧KSt D W S kb sb K' wr∧K'.1.length≤K.1.length+i∧K'.2.length≤K.2.length+i) (fun s wr=>l.length - (intOf s).toNat)
 case atStart=>exact ⟨0,K,rfl,Nat.zero_le _,rfl,H0.o,Zsu _,Zsu _⟩
 case round=>
  obtain ⟨i,K',rfl,hi,hfk,Ss,zi,L5⟩:=hrel;have Pi:=hU hfk;have Ac:=hU Ss;have HF:=hU (show Fr (fun j=>¬D j) W wr from by obtain ⟨_,_,_,_,_,_,h4⟩:=Ss;exact h4);clear hfk Ss;by_cases hlt:i<l.length
  · obtain ⟨y,hy⟩:∃y,y=l[i]:=⟨_,rfl⟩
    have Tl:=Zh3 hlt;rw [←hy] at Tl;obtain ⟨g,off,A1,c1,rfl,_,hg,q0,q1,q2,q3,q4,q5,Xq⟩:=Z5a (HR.o.fr HF.o (fun j hd hn=>hn hd)) hlt;rw [←hy] at q0 q1 q2 q3 q4 q5;have Pc:=hU Tl;refine Yyx ?_;intro b1 b2;clear hy Xq Tl;by_cases h8:y.rel=8
    · have r1:(y.rel == 8)=true:=by simp [h8]
      have r2:decide (y.rel=8)=true:=YNm;have HS:=hU (show Z27 K' (y :: l.drop (i+1))=Z27 K' (l.drop (i+1)) by rw [Z52,if_pos (.inl h8)]);clear h8;exact Yd8
    have r1:(y.rel == 8)=false:=YNm;have r2:decide (y.rel=8)=false:=YNm;by_cases hv:y.var.toList = []
    · have v1:(y.var.toList == [])=true:=by simp [hv]
      have v2:y.var.toList.isEmpty=true:=YZb;have v3:decide (y.var.toList = [])=true:=YZb;have HS:=hU (show Z27 K' (y :: l.drop (i+1))=Z27 K' (l.drop (i+1)) by rw [Z52,if_pos (.inr hv)]);clear h8 hv;exact Yd8
    have v1:(y.var.toList == [])=false:=YZb;have v2:y.var.toList.isEmpty=false:=YZb;have v3:decide (y.var.toList = [])=false:=YZb;have vk :¬(y.rel=8∨y.var.toList = []):=fun h=>h.elim h8 hv;by_cases h1:y.rel=1
    · have s1:(y.rel == 1)=true:=by simp [h1]
      have s2:decide (y.rel=1)=true:=YJc;have HS:=hU (show Z27 K' (y :: l.drop (i+1))=Z27 (metK K' y.var) (l.drop (i+1)) by rw [Z52,if_neg vk,if_pos h1]);clear h8 hv vk h1;go_wp2_with fail;refine (KSt.met y.var (Ac.o.below Yf) fv.o Ya Ya).mono ?_;rintro e w5 ⟨rfl,Jz,hl5,hl6⟩;have Bw:=hU Jz;clear Jz q0 q1 q2 q3 q4 q5;go_wp2_with fail;go_roundw
      case rel=>exact ⟨i+1,metK K' y.var,Yn,Ya,YJe,Bw.o,Ya,Ya⟩
      case measure=>simp [intOf]<;>omega
    have s1:(y.rel == 1)=false:=YJc;have s2:decide (y.rel=1)=false:=YJc;cases hh:hasK K' y.var
    · have HS:=hU (show Z27 K' (y :: l.drop (i+1))=(false,K') by rw [Z52,if_neg vk,if_neg h1,hh];rfl)
      clear h8 hv vk h1;go_wp2_with fail;refine Y7e ?_;intro w5 ww na Bw;have HE:=hU (show Z27 K l=(false,K') from YJe);clear ww na hh q0 q1 q2 q3 q4 q5;go_wp2_with fail;go_ret;rw [HE.o];exact ⟨rfl,Bw.o,Yg,Yg⟩
    · have HS:=hU (show Z27 K' (y :: l.drop (i+1))=Z27 K' (l.drop (i+1)) by rw [Z52,if_neg vk,if_neg h1,hh];rfl)
      clear h8 hv vk h1;go_wp2_with fail;refine Y7e ?_;intro w5 ww na Bw;clear ww na hh q0 q1 q2 q3 q4 q5;go_wp2_with fail;go_roundw
      case rel=>exact ⟨i+1,K',Yn,Ya,YJe,Bw.o,Ya,Ya⟩
      case measure=>simp [intOf]<;>omega
  · have Np:i=l.length:=by omega
    subst Np;(have Gy:Z27 K l=(true,K'):=by rw [Pi.o,Zuc];rfl);have HE:=hU Gy;clear Gy;go_wp2_with fail;go_ret;rw [HE.o];exact ⟨rfl,Ac.o,zi,L5⟩
theorem KSt.fr_ {D:Nat→Prop}{W W1:World}{S:Nat→Option (List Name)}{kb sb:Nat}{K:Kn}(h:KSt D W S kb sb K W1):Fr (fun j=>¬D j) W W1:=by
 obtain ⟨_,_,_,_,_,_,h4⟩:=h;exact h4
theorem KSt.start {D:Nat→Prop}{W:World}{S:Nat→Option (List Name)}{σ:Nat→St}{kb sb:Nat}{K:Kn}{A:Option Addr}{c:Nat}(hN:Z2z D W S σ) (hK:KnS W S kb sb K A c) (hA:AIn A (fun j=>¬D j)):KSt D W S kb sb K W:=by
 have e:upd S sb (some K.1)=S:=Zsh _ _ _ hK.set;exact ⟨σ,A,c,by rw [e];exact hN,by rw [e];exact hK,hA,Fr.refl _ _⟩
theorem KSt.lt {D:Nat→Prop}{W W1:World}{S:Nat→Option (List Name)}{kb sb:Nat}{K:Kn}(h:KSt D W S kb sb K W1):kb<W1.heap.size:=by
 obtain ⟨_,_,_,_,h2,_,_⟩:=h;exact h2.blk.lt
theorem Zgj {W:World}{e size n:Nat}{A:Option Addr}{c:Nat}{xs:List Value}(h:W.ownsRow 0 e size (.slice A n c) n xs):AIn A (· < W.heap.size):=by
 intro a ha;rcases h.2 with ⟨hv,_⟩|⟨g,cap,cur,hv,_,hg,_⟩
 · simp only [Value.slice.injEq] at hv;rw [hv.1] at ha;cases ha
 · simp only [Value.slice.injEq] at hv;rw [hv.1] at ha;cases ha
   exact Blk.lt (t:=e) (cs:=cur) hg
theorem KSt.prot {D:Nat→Prop}{W W1 W2:World}{S:Nat→Option (List Name)}{kb sb:Nat}{K:Kn}(h:KSt D W S kb sb K W1) (hb:Below W1.heap.size W1 W2) :
 KSt (fun k=>D k∨(W1.heap.size≤k∧k<W2.heap.size)) W2 S kb sb K W2:=by
 obtain ⟨σ',A',c',h1,h2,h3,_⟩:=h;refine ⟨σ',A',c',h1.protect hb,⟨h2.blk.new_ hb,Z02 h2.row hb,h2.set⟩,fun a ha hd=>?_,Fr.refl _ _⟩;rcases hd with hd|hd
 · exact h3 a ha hd
 · have:=Zgj h2.row a ha;omega
theorem KSt.unprot {D D':Nat→Prop}{W W1 W2:World}{S:Nat→Option (List Name)}{kb sb:Nat}{K:Kn}(h:KSt D' W1 S kb sb K W2) (hF:Fr (fun j=>¬D j) W W1) (hD :∀k,D k→D' k):KSt D W S kb sb K W2:=by
 obtain ⟨σ',A',c',h1,h2,h3,h4⟩:=h;exact ⟨σ',A',c',h1.weaken hD,h2,h3.mono (fun k hk hd=>hk (hD k hd)),hF.trans (h4.mono (fun k _ hk hd=>hk (hD k hd)))⟩
theorem KSt.prot0 {D:Nat→Prop}{W W1:World}{S:Nat→Option (List Name)}{kb sb:Nat}{K:Kn}(h:KSt D W S kb sb K W1):KSt D W1 S kb sb K W1:=by
 obtain ⟨σ',A',c',h1,h2,h3,_⟩:=h;exact ⟨σ',A',c',h1,h2,h3,Fr.refl _ _⟩
theorem KSt.join {D:Nat→Prop}{W W1 W2:World}{S:Nat→Option (List Name)}{kb sb:Nat}{K K':Kn}(h:KSt D W1 S kb sb K W2) (h0:KSt D W S kb sb K' W1):KSt D W S kb sb K W2:=by
 obtain ⟨σ',A',c',h1,h2,h3,h4⟩:=h;exact ⟨σ',A',c',h1,h2,h3,h0.fr_.trans h4⟩
theorem Zld {D:Nat→Prop}{W:World}{S:Nat→Option (List Name)}{kb sb:Nat}{K:Kn}{A1 A2 A3:Option Addr}{c1 c2 c3:Nat}(x:Z0a) (h:KSt D W S kb sb K W) (hkD :¬D kb) (h1:RowR Z07 D W A1 c1 x.attr) (h2:RowR Z07 D W A2 c2 x.value) (hl:(K.1.length:Int)+(1+x.attr.length+x.value.length)≤1000000) (hl2:(K.2.length:Int)+(1+x.attr.length+x.value.length)≤1000000) :
 Calls Tryz.prog 169 #[.pointer (some ⟨kb,0,none⟩),.agg (Q0r x A1 c1 A2 c2 A3 c3)] W fun e W'=>e = .returned (.bool (oneK K x).1)∧KSt D W S kb sb (oneK K x).2 W'∧(oneK K x).2.1.length≤K.1.length+(1+x.attr.length+x.value.length)∧(oneK K x).2.2.length≤K.2.length+(1+x.attr.length+x.value.length):=by
 have H0:=hU h;have fv:=hU hkD;have H1:=hU h1;have H2:=hU h2;have hl1c:=h1.cap;have hl2c:=h2.cap;clear h hkD h1 h2;by_cases hg:x.goal=true
 · have g1:=hg
   have zt:(if x.goal=true then metK K x.id else K)=metK K x.id:=if_pos hg;have H_g:=hU g1;have HG:=hU zt;clear g1 hg zt;go_enter Tryz.func169,Tryz.ntmps169;go_upto_region 1 with fail;obtain ⟨W1,Wo⟩:∃W1,W1=W.alloc (.cells (Q0r x A1 c1 A2 c2 A3 c3) 77):=⟨_,rfl⟩;rw [←Wo];have L0:Blk W1 W.heap.size 77 (Q0r x A1 c1 A2 c2 A3 c3):=YBf;have hB:Below W.heap.size W W1:=Yo;(have Sd:W1.heap.size=W.heap.size+1:=by rw [Wo,Zti]);have La:=H0.o.prot hB;have O6:(fun k=>D k∨(W.heap.size≤k∧k<W1.heap.size)) W.heap.size:=.inr ⟨Zsu _,Ya⟩;have fe :¬(fun k=>D k∨(W.heap.size≤k∧k<W1.heap.size)) kb:=fun hd=>hd.elim fv.o (fun hd=>by have:=H0.o.lt;omega);obtain ⟨D1,Ls⟩:∃D1,D1=(fun k=>D k∨(W.heap.size≤k∧k<W1.heap.size)):=⟨_,rfl⟩;rw [←Ls] at La O6 fe;have Nq:=hU (show RowR Z07 D1 W1 A1 c1 x.attr from (H1.o.new_ hB).weaken (fun k hk=>YZ8));have O8:=hU (show RowR Z07 D1 W1 A2 c2 x.value from (H2.o.new_ hB).weaken (fun k hk=>YZ8));have mn:=hU (show ∀k,D k→D1 k from fun k hk=>YZ8);have Xs:=hU (show Fr (fun j=>¬D j) W W1 from Fr.of_new hB);have Ac:=hU La;have s9:=hU O6;have zv:=hU fe;have T7:=hU L0;have qv:=L0.lt;have e1:W1.cell? ⟨W.heap.size,1,none⟩=some (.bool x.goal):=(L0.cell 1).trans rfl;have e2:W1.cell? ⟨W.heap.size,2,none⟩=some (.string x.id):=(L0.cell 2).trans rfl;have e3:W1.cell? ⟨W.heap.size,3,none⟩=some (.slice A1 x.attr.length c1):=(L0.cell 3).trans rfl;have e4:W1.cell? ⟨W.heap.size,4,none⟩=some (.slice A2 x.value.length c2):=(L0.cell 4).trans rfl;clear Wo L0 hB Sd La O6 fe Ls;have g1:=H_g.o;go_wp2_with fail;refine (KSt.met x.id Ac.o zv.o Ya Ya).mono ?_;rintro e w4 ⟨rfl,Ch,hl4,hl5⟩;have jx:=hU Ch;clear Ch e1 e2 e3 e4 qv;have L0:=T7.o.fr (jx.o).fr_ (fun hn=>hn s9.o);have qv:=L0.lt;have hzw:W.heap.size≤w4.heap.size:=Zt6 Xs.o.size (jx.o).fr_.size;have e2:w4.cell? ⟨W.heap.size,2,none⟩=some (.string x.id):=(L0.cell 2).trans rfl;have e3:w4.cell? ⟨W.heap.size,3,none⟩=some (.slice A1 x.attr.length c1):=(L0.cell 3).trans rfl
   have e4:w4.cell? ⟨W.heap.size,4,none⟩=some (.slice A2 x.value.length c2):=(L0.cell 4).trans rfl;clear L0;go_wp2_with fail;cases hh:hasK (metK K x.id) x.id
   · skip
     have Mj:=KSt.has_ x.id (jx.o) Ya;rw [hh] at Mj;refine Mj.mono ?_;rintro e w5 ⟨rfl,ww⟩;have Bw:=hU ((jx.o).below (ww));clear Mj ww;have HA:=hU (show oneK K x=(false,metK K x.id) by unfold oneK;simp only [HG.o];simp [hh]);exact Y7m
   · skip
     have Mj:=KSt.has_ x.id (jx.o) Ya;rw [hh] at Mj;refine Mj.mono ?_;rintro e w5 ⟨rfl,ww⟩;have Bw:=hU ((jx.o).below (ww));clear Mj ww;refine Ypw ?_;intro qv hzw e2 e3 e4;obtain ⟨b2,k2,hf⟩:∃b k,Z27 (metK K x.id) x.attr=(b,k):=⟨_,_,rfl⟩;exact Ywv
 · have g1:x.goal=false:=by simpa using hg
   have zt:(if x.goal=true then metK K x.id else K)=K:=if_neg hg;have H_g:=hU g1;have HG:=hU zt;clear g1 hg zt;go_enter Tryz.func169,Tryz.ntmps169;go_upto_region 1 with fail;obtain ⟨W1,Wo⟩:∃W1,W1=W.alloc (.cells (Q0r x A1 c1 A2 c2 A3 c3) 77):=⟨_,rfl⟩;rw [←Wo];have L0:Blk W1 W.heap.size 77 (Q0r x A1 c1 A2 c2 A3 c3):=YBf;have hB:Below W.heap.size W W1:=Yo;(have Sd:W1.heap.size=W.heap.size+1:=by rw [Wo,Zti]);have La:=H0.o.prot hB;have O6:(fun k=>D k∨(W.heap.size≤k∧k<W1.heap.size)) W.heap.size:=.inr ⟨Zsu _,Ya⟩;have fe :¬(fun k=>D k∨(W.heap.size≤k∧k<W1.heap.size)) kb:=fun hd=>hd.elim fv.o (fun hd=>by have:=H0.o.lt;omega);obtain ⟨D1,Ls⟩:∃D1,D1=(fun k=>D k∨(W.heap.size≤k∧k<W1.heap.size)):=⟨_,rfl⟩;rw [←Ls] at La O6 fe;have Nq:=hU (show RowR Z07 D1 W1 A1 c1 x.attr from (H1.o.new_ hB).weaken (fun k hk=>YZ8));have O8:=hU (show RowR Z07 D1 W1 A2 c2 x.value from (H2.o.new_ hB).weaken (fun k hk=>YZ8));have mn:=hU (show ∀k,D k→D1 k from fun k hk=>YZ8);have Xs:=hU (show Fr (fun j=>¬D j) W W1 from Fr.of_new hB);have Ac:=hU La;have s9:=hU O6;have zv:=hU fe;have T7:=hU L0;have qv:=L0.lt;have e1:W1.cell? ⟨W.heap.size,1,none⟩=some (.bool x.goal):=(L0.cell 1).trans rfl;have e2:W1.cell? ⟨W.heap.size,2,none⟩=some (.string x.id):=(L0.cell 2).trans rfl;have e3:W1.cell? ⟨W.heap.size,3,none⟩=some (.slice A1 x.attr.length c1):=(L0.cell 3).trans rfl;have e4:W1.cell? ⟨W.heap.size,4,none⟩=some (.slice A2 x.value.length c2):=(L0.cell 4).trans rfl;clear Wo L0 hB Sd La O6 fe Ls;have g1:=H_g.o;go_wp2_with fail;cases hh:hasK (K) x.id
   · skip
     have Mj:=KSt.has_ x.id (Ac.o) Ya;rw [hh] at Mj;refine Mj.mono ?_;rintro e w5 ⟨rfl,ww⟩;have Bw:=hU ((Ac.o).below (ww));clear Mj ww;have HA:=hU (show oneK K x=(false,K) by unfold oneK;simp only [HG.o];simp [hh]);exact Y7m
   · skip
     have Mj:=KSt.has_ x.id (Ac.o) Ya;rw [hh] at Mj;refine Mj.mono ?_;rintro e w5 ⟨rfl,ww⟩;have Bw:=hU ((Ac.o).below (ww));clear Mj ww;refine Ypw ?_;intro qv hzw e2 e3 e4;obtain ⟨b2,k2,hf⟩:∃b k,Z27 (K) x.attr=(b,k):=⟨_,_,rfl⟩;exact Ywv
end
end Go.Proofs.YtcnnofgaifcgaaaGreat
