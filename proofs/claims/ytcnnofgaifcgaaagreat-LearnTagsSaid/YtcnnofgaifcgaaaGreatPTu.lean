/-
  Texts put together: VaryA4, VaryA5, VaryA6, XHole, VaryA8, XPh, LTagsP.
-/
import Derived.Test.YtcnnofgaifcgaaaGreatPTt
namespace Go.Proofs.YtcnnofgaifcgaaaGreat
set_option maxRecDepth 100000
set_option maxHeartbeats 32000000
set_option linter.unusedSimpArgs false
section
open Go.RowKit Go.Shelf
attribute [local go_sem] Oper.semAt_some
theorem Zgr {a b:ByteArray}:a.toList=b.toList↔a=b:=⟨toList_inj,fun h=>by rw [h]⟩
section
variable {X:World}{bx:Array Value}{nb mb:Nat}{ns:List Sym}{es:List Elem}{AO:Option Addr}{cO:Nat}{vcs:List VCo}{AC:Option Addr}{cC:Nat}{tags:List Int}{At:Option Addr}{ct:Nat}{D:Nat→Prop}
def Zqd (X:World) (bx:Array Value) (nb mb:Nat) (ns:List Sym) (es:List Elem) (AO:Option Addr) (cO:Nat) (vcs:List VCo) (AC:Option Addr) (cC:Nat) (tags:List Int) (At:Option Addr) (ct:Nat) (D:Nat→Prop) (k:Nat) (t:Z0z) (e:Ending) (w':World):Prop:=
 ∃vcs':List VCo,e = .returned (.tuple #[])∧P3 X bx nb mb ns es AO cO vcs' AC cC tags At ct D w'∧vcs'.map VCo.vs=putT (vcs.map VCo.vs) k t∧vcs'.map VCo.hd=vcs.map VCo.hd
theorem Zi8 {k:Nat}{t:Z0z}{w:World}(h:P3 X bx nb mb ns es AO cO vcs AC cC tags At ct D w) (hk:k<vcs.length) (hs:((vcs[k]).vs.any fun u=>simT u t)=true):Zqd X bx nb mb ns es AO cO vcs AC cC tags At ct D k t (.returned (.tuple #[])) w:=by
 refine ⟨vcs,rfl,h,?_,rfl⟩;unfold putT;apply List.ext_getElem?;intro j;rw [List.getElem?_modify];by_cases hj:k=j
 · subst hj
   rw [List.getElem?_map,Zt3 hk];simp only [Zt4,Option.map_eq_map,if_true];rw [addT,if_pos hs]
 · cases (List.map VCo.vs vcs)[j]?<;>simp [hj]
theorem Zi7 {pre post:List VCo}{v:VCo}{t:Z0z}{g c:Nat}{w:World}(h:P3 X bx nb mb ns es AO cO (pre++v.more t g c :: post) AC cC tags At ct D w) (hv:vcs=pre++v :: post) (hs:(v.vs.any fun u=>simT u t)=false):Zqd X bx nb mb ns es AO cO vcs AC cC tags At ct D pre.length t (.returned (.tuple #[])) w:=by
 refine ⟨_,rfl,h,?_,?_⟩
 · rw [hv]
   unfold putT;simp only [Ztm,List.map_cons];rw [show pre.length=(pre.map VCo.vs).length from Ye];apply List.ext_getElem?;intro j;rw [List.getElem?_modify];rcases Nat.lt_trichotomy j (pre.map VCo.vs).length with hj|hj|hj
   · rw [Zto hj,Zto hj]
     rw [Zt3 hj];simp [show ¬(pre.map VCo.vs).length=j from Ya,-List.length_map]
   · subst hj
     rw [Ztn (Zsu _),Ztn (Zsu _)];(have e:addT t v.vs=v.vs ++ [t]:=by rw [addT,if_neg (by rw [hs];decide)]);simp [e,VCo.more]
   · rw [Ztn Ya,Ztn Ya]
     obtain ⟨q,hq⟩:∃q,j - (pre.map VCo.vs).length=q+1:=⟨j - (pre.map VCo.vs).length - 1,Ya⟩;rw [hq,Zsz,Zsz];cases (List.map VCo.vs post)[q]?<;>simp [show ¬(pre.map VCo.vs).length=j from Ya,-List.length_map]
 · rw [hv];simp [VCo.hd,VCo.more]
theorem Zk8 (k:Nat) (t:Z0z) (w:World) (h:P3 X bx nb mb ns es AO cO vcs AC cC tags At ct D w) (hk:k<vcs.length) (ht:t.list = []) (hvl:(vcs[k]).vs.length≤1000) :
 Calls Tryz.prog 133 #[.pointer (some ⟨mb,0,none⟩),.int .i64 (k:Int),.agg #[.int .i64 t.rel,.string t.var,.int .i64 t.sym.kind,.string t.sym.text,.int .i64 t.sym.n,.slice none 0 0]] w (Zqd X bx nb mb ns es AO cO vcs AC cC tags At ct D k t):=by
 obtain ⟨i1,F6,ye,J8,Cq⟩:=infp Zdk;have H:=hU h;obtain ⟨v,hv⟩:∃v,v=vcs[k]:=⟨_,rfl⟩;obtain ⟨pre,L3⟩:∃p,p=vcs.take k:=⟨_,rfl⟩;obtain ⟨post,Ev⟩:∃p,p=vcs.drop (k+1):=⟨_,rfl⟩;(have ig:vcs=pre++v :: post:=by rw [hv,L3,Ev,←Ztt hk,List.take_append_drop]);(have Ly:pre.length=k:=by rw [L3,Zu3];omega);(have hm:v∈vcs:=by rw [ig];simp);have oc:=h.cs.ok v hm;obtain ⟨gc,Df⟩:=Z61 h.cs.co Ya;subst Df
 have hq4 :∀W,Below w.heap.size w W→W.cell? ⟨gc,k*7+4,none⟩=some (.slice (some ⟨v.gv,0,none⟩) v.vs.length v.cap):=fun W hW=>by
  obtain ⟨b,off,e1,_,O0⟩:=(Z0e VCo.cells_length (h.new_ hW).cs.co).at_ hk;injection e1 with e1;injection e1 with e1 e2;subst e1;subst e2;have:=O0 4 (.slice (some ⟨v.gv,0,none⟩) v.vs.length v.cap) (by rw [←hv];rfl);exact Yuu
 have HQ4:=hU hq4;have D9:=hU ig;have Ve:=hU Ly;have HVK:=hU hv;have wy:=hU oc;have HLV:=hU (show ∀u∈v.vs,u.list = [] from oc.lv);(have hvl2:v.vs.length≤1000:=by rw [hv];exact hvl);have q4:=hq4 w (Zst _ _);have m2:=(h.cs.mkb.cell 2).trans rfl;have mz:=h.cs.mkb.lt;have k1:(0:Int)≤(k:Int):=Ya;have k2:(k:Int)<(vcs.length:Int):=Ya;have gz:gc<w.heap.size:=Z3i h.cs.co gc rfl;have bc:=hU (show ∀vv,vv=v→(vv.vs.any fun u=>simT u t)=true→((vcs[k]).vs.any fun u=>simT u t)=true from fun vv e h=>by rw [←hv,←e];exact h);clear h hvl oc hq4 ig Ly L3 Ev hm hv;go_enter Tryz.func133,Tryz.ntmps133;go_upto_region 2 with fail;obtain ⟨W1,Wo⟩:∃W,W=w.alloc (.cells #[.int .i64 t.rel,.string t.var,.int .i64 t.sym.kind,.string t.sym.text,.int .i64 t.sym.n,.slice none 0 0] 196):=⟨_,rfl⟩;obtain ⟨b5,ww⟩:∃b,b=w.heap.size:=⟨_,rfl⟩;have K5:=hU (show Blk W1 b5 196 #[.int .i64 t.rel,.string t.var,.int .i64 t.sym.kind,.string t.sym.text,.int .i64 t.sym.n,.slice none 0 0] by rw [Wo,ww];exact Blk.new _ _ _);refine Ywp ?_;intro HB;have HNE5:=hU (show v.gv≠b5 from fun e=>by have:=wy.o.ltv;omega);rw [←Wo,←ww];clear Wo ww q4 m2 mz gz
 go_loopw [17] (fun s wr=>∃i:Nat,s = .int .i64 (i:Int)∧i≤v.vs.length∧((v.vs.take i).any fun u=>simT u t)=false∧Below W1.heap.size W1 wr) (fun s wr=>v.vs.length - (intOf s).toNat)
 case atStart=>exact ⟨0,rfl,Nat.zero_le _,Ye,Zst _ _⟩
 case round=>
  obtain ⟨i,rfl,hi,vh,U9⟩:=hrel;refine Ynr ?_;intro V7 Jm Ge;clear vh U9;have HP:=hU (H.o.new_ Ge.o);have HVR:=hU (Z02 wy.o.vr Ge.o);have Tj:=hU (K5.o.new_ Jm.o);obtain ⟨t0,t1,t2,t3,t4,t5⟩:=Tj.o.c6;have tz:=Tj.o.lt;by_cases hlt:i<v.vs.length
  · obtain ⟨u,hu⟩:∃u,u=v.vs[i]:=⟨_,rfl⟩
    obtain ⟨g,off,e0,Gb,Gk⟩:=(Z0e Z0z.cell0_length HVR.o).range hlt;injection e0 with e0;injection e0 with e0 e1;subst e0;subst e1;rw [←hu] at Gk;have jc:=hU (show ((v.vs.take (i+1)).any fun x=>simT x t)=simT u t by rw [Z8x hlt,←hu,List.any_append,V7.o];simp);have HUM:=hU (show simT u t=true→(v.vs.any fun x=>simT x t)=true from fun h=>Zu7.2 ⟨u,YC5,h⟩);have ly:=hU (show wr.rangeAt v.gv (i*6) [.int .i64 u.rel,.string u.var,.int .i64 u.sym.kind,.string u.sym.text,.int .i64 u.sym.n,.slice none 0 0] by rw [Zts] at Gk;exact Gk);obtain ⟨W5,wv,Tq,oq,ww,Ew⟩:=Z4b (w:=wr) (t:=196) [.int .i64 0,.string ⟨#[]⟩,.int .i64 0,.string ⟨#[]⟩,.int .i64 0,.slice none 0 0] [.int .i64 u.rel,.string u.var,.int .i64 u.sym.kind,.string u.sym.text,.int .i64 u.sym.n,.slice none 0 0] rfl;have o9:=hU wv;have Nw:=hU Tq;have pd:=hU (Jm.o.trans (ww.mono Jm.o.size));have Kj:=hU (HP.o.new_ ww);have u0:W5.cell? ⟨wr.heap.size,0,none⟩=some (.int .i64 u.rel):=oq 0 _ rfl;have u1:W5.cell? ⟨wr.heap.size,1,none⟩=some (.string u.var):=oq 1 _ rfl;have u2:W5.cell? ⟨wr.heap.size,2,none⟩=some (.int .i64 u.sym.kind):=oq 2 _ rfl;have u3:W5.cell? ⟨wr.heap.size,3,none⟩=some (.string u.sym.text):=oq 3 _ rfl;have u4:W5.cell? ⟨wr.heap.size,4,none⟩=some (.int .i64 u.sym.n):=oq 4 _ rfl;have uz:wr.heap.size<W5.heap.size:=Ya;clear t0 t1 t2 t3 t4 t5 tz;obtain ⟨t0,t1,t2,t3,t4,t5⟩:=(Tj.o.new_ ww).c6;have tz:=(Tj.o.new_ ww).lt;have j1:(0:Int)≤(i:Int):=Ya;have j2:(i:Int)<(v.vs.length:Int):=Ya;refine Yyc ?_;intro v1;have Fo:=Z5y u.sym t.sym
    have M2:=hU (show simT u t=((u.rel == t.rel) && ((u.var.toList == t.var.toList) && decide (u.sym=t.sym))) by
     unfold simT
     rw [show decide (u.rel=t.rel)=(u.rel == t.rel) from rfl,show decide (u.var=t.var)=(u.var.toList == t.var.toList) by rw [Bool.eq_iff_iff,Zuf,beq_iff_eq];exact Zgr.symm])
    clear wv Tq oq ww Ew Gk hu Gb;cases d1:(u.rel == t.rel)<;>cases d2:(u.var.toList == t.var.toList)<;>cases d3:decide (u.sym=t.sym)
    all_goals
     rw [d1,d2,d3] at M2;rw [d3] at Fo
     go_wp2_with (first
      | (with_reducible refine wpList_load_mid rfl 196 _ rfl v.gv (i*6) rfl _ _ ly.o Tryz.underlying196 rfl Yb ?_)
      | ((with_reducible refine wpList_store_mid rfl 196 _ _ rfl wr.heap.size 0 #[.int .i64 u.rel,.string u.var,.int .i64 u.sym.kind,.string u.sym.text,.int .i64 u.sym.n,.slice none 0 0] rfl rfl Nw.o Yb Yb ?_);rw [←o9.o]))
     first
      | (go_end0;exact Zi8 Kj.o hk (bc.o v rfl (HUM.o M2.o)))
      | (go_roundw
         case rel=>exact ⟨i+1,Yn,Ya,jc.o.trans M2.o,pd.o⟩
         case measure=>simp [intOf]<;>omega)
  · obtain rfl:i=v.vs.length:=by omega
    have jz :¬(v.vs.length:Int)<(v.vs.length:Int):=Ya;have V7:=hU (show (v.vs.any fun u=>simT u t)=false by have:=V7.o;rwa [Ztc] at this);have q4:=HQ4.o wr Ge.o;have m2:=(HP.o.cs.mkb.cell 2).trans rfl;have mz:=HP.o.cs.mkb.lt;have gz:gc<wr.heap.size:=Z3i HP.o.cs.co gc rfl;go_wp2_with fail;have SMK :∀Z:World,Z.cell? ⟨mb,2,none⟩=some (.slice (some ⟨gc,0,none⟩) vcs.length cC)→Z.cell? ⟨gc,k*7+4,none⟩=some (.slice (some ⟨v.gv,0,none⟩) v.vs.length v.cap)→Blk Z b5 196 #[.int .i64 t.rel,.string t.var,.int .i64 t.sym.kind,.string t.sym.text,.int .i64 t.sym.n,.slice none 0 0]→(fun w9=>w9.cell? ⟨mb,2,none⟩=some (.slice (some ⟨gc,0,none⟩) vcs.length cC)∧w9.cell? ⟨gc,k*7+4,none⟩=some (.slice (some ⟨v.gv,0,none⟩) v.vs.length v.cap)∧w9.cell? ⟨b5,0,none⟩=some (.int .i64 t.rel)∧w9.cell? ⟨b5,1,none⟩=some (.string t.var)∧w9.cell? ⟨b5,2,none⟩=some (.int .i64 t.sym.kind)∧w9.cell? ⟨b5,3,none⟩=some (.string t.sym.text)∧w9.cell? ⟨b5,4,none⟩=some (.int .i64 t.sym.n)∧w9.cell? ⟨b5,5,none⟩=some (.slice none 0 0)) Z:=fun Z h1 h2 h3=>⟨h1,h2,h3.c6⟩;have Vf:=hU (SMK wr m2 q4 Tj.o);refine Z03 (fun w9=>w9.cell? ⟨mb,2,none⟩=some (.slice (some ⟨gc,0,none⟩) vcs.length cC)∧w9.cell? ⟨gc,k*7+4,none⟩=some (.slice (some ⟨v.gv,0,none⟩) v.vs.length v.cap)∧w9.cell? ⟨b5,0,none⟩=some (.int .i64 t.rel)∧w9.cell? ⟨b5,1,none⟩=some (.string t.var)∧w9.cell? ⟨b5,2,none⟩=some (.int .i64 t.sym.kind)∧w9.cell? ⟨b5,3,none⟩=some (.string t.sym.text)∧w9.cell? ⟨b5,4,none⟩=some (.int .i64 t.sym.n)∧w9.cell? ⟨b5,5,none⟩=some (.slice none 0 0)) [(0,0),(1,0),(2,0),(3,1),(4,0),(5,0),(6,0),(7,0),(8,1),(9,0),(10,0),(11,0),(12,1),(13,1),(14,2),(15,2),(16,0),(17,0),(18,2)] Yb Yb (fun KK hKK=>?_);refine Y9j ?_;(repeat ((first|(refine Z05 ?_ (Or.inl ⟨Yd,fun w9=>?_⟩) ?_;rotate_left 1;go_simp;with_reducible rfl)|(refine Z04 ?_ (Vf.o) (Or.inl ⟨Yd,fun w9 hw9=>?_⟩) ?_;rotate_left 1;obtain ⟨s0_,s1_,s2_,s3_,s4_,s5_,s6_,s7_⟩:=hw9;go_simp;with_reducible rfl)|refine Z05 undef (Or.inr ⟨Yd,rfl⟩) ?_|refine Z04 undef (Vf.o) (Or.inr ⟨Yd,rfl⟩) ?_);go_frame));refine Ysm ?_;intro K9 hK9;have ms:=hU (show Below wr.heap.size wr _ from ((Zst wr.heap.size wr).drew.alloc (Zsu _) (.cells #[.int .i64 t.rel,.string t.var,.int .i64 t.sym.kind,.string t.sym.text,.int .i64 t.sym.n,.slice none 0 0] 196)));have Su:=hU (SMK _ ((HP.o.new_ ms.o).cs.mkb.cell 2) (HQ4.o _ (Ge.o.trans (ms.o.mono Ge.o.size))) (Tj.o.new_ ms.o));refine hK9 _ _ Su.o ?_;clear hK9 K9;refine Z1h (fun K9 hK9=>?_);obtain ⟨W7,pn⟩:∃W,W=(wr.alloc (.cells #[.int .i64 t.rel,.string t.var,.int .i64 t.sym.kind,.string t.sym.text,.int .i64 t.sym.n,.slice none 0 0] 196)).drew:=⟨_,rfl⟩;rw [←pn];(have Vn:Below wr.heap.size wr W7:=by rw [pn];exact ((Zst _ _).alloc (Zsu _) _).drew);have Mu:=hU (HP.o.new_ Vn);have ii:=hU (show 0<1→∃ad,(some (⟨wr.heap.size,0,none⟩:Addr))=some ad∧∀j u,([t].flatMap Z0z.cell0)[j]? = some u→W7.cell? (ad.add j)=some u from fun _=>⟨_,rfl,by rw [pn];exact Zte (heap_alloc_new wr _)⟩);have HV7:=hU (Z02 HVR.o Vn);clear pn;refine Z0l W7 rfl _ _ 75 rfl 196 i1 _ 6 80 Tryz.underlying75 F6 ye J8 Cq rfl Ya (.slice (some ⟨v.gv,0,none⟩) v.vs.length v.cap) v.vs.length (v.vs.flatMap Z0z.cell0) rfl HV7.o (some ⟨wr.heap.size,0,none⟩) 1 1 ([t].flatMap Z0z.cell0) rfl rfl ii.o (Zm6 _) Yj Ya ?_;intro v3 Y rn Kg E5 Tt;obtain ⟨gc2,g',c',e0,rfl,yc,yf,yz,Jh,Lt⟩:=Mu.o.addT D9.o ht rn Kg Tt;injection e0 with e0;injection e0 with e0 e1;subst e0;rw [Ve.o] at yc yf Lt;have Ci:=hU Lt;have Tn:=hU (SMK (Y) ((Jh _ _ _ Mu.o.cs.mkb (fun e=>Z01 wy.o.vr (H.o.cs.mkb) Yc YVh)).cell 2) yc (Jh _ _ _ (Tj.o.new_ Vn) HNE5.o.symm));clear rn Kg E5 Tt Lt Jh Mu ii HV7 q4 m2 mz gz Vn;refine hK9 _ _ Tn.o ?_;clear hK9 K9;(repeat ((first|(refine Z05 ?_ (Or.inl ⟨Yd,fun w9=>?_⟩) ?_;rotate_left 1;go_simp;with_reducible rfl)|(refine Z04 ?_ (Tn.o) (Or.inl ⟨Yd,fun w9 hw9=>?_⟩) ?_;rotate_left 1;obtain ⟨s0_,s1_,s2_,s3_,s4_,s5_,s6_,s7_⟩:=hw9;go_simp;with_reducible rfl)|refine Z05 undef (Or.inr ⟨Yd,rfl⟩) ?_|refine Z04 undef (Tn.o) (Or.inr ⟨Yd,rfl⟩) ?_);go_frame));refine Yll ?_;intro K9 hK9;have HF:=hU (Ci.o _ rfl);refine Y8n ?_
    clear hK9 K9;refine Yf0 ?_;clear hKK KK;go_wp2_with fail;go_end0;have h9:=Zi7 HF.o D9.o V7.o;rw [Ve.o] at h9;exact h9
end
end
section
open Go.RowKit Go.Shelf
attribute [local go_sem] Oper.semAt_some
section
variable {X:World}{bx:Array Value}{nb mb:Nat}{ns:List Sym}{es:List Elem}{AO:Option Addr}{cO:Nat}{vcs:List VCo}{AC:Option Addr}{cC:Nat}{tags:List Int}{At:Option Addr}{ct:Nat}{D:Nat→Prop}
def Zf4 (X:World) (bx:Array Value) (nb mb:Nat) (ns:List Sym) (es:List Elem) (AO:Option Addr) (cO:Nat) (vcs:List VCo) (AC:Option Addr) (cC:Nat) (tags:List Int) (At:Option Addr) (ct:Nat) (D:Nat→Prop) (vss:List (List Z0z)) (w':World):Prop:=
 ∃vcs':List VCo,P3 X bx nb mb ns es AO cO vcs' AC cC tags At ct D w'∧vcs'.map VCo.vs=vss∧vcs'.map VCo.hd=vcs.map VCo.hd
theorem Zq2 (id c:Sym) (w:World) (h:P3 X bx nb mb ns es AO cO vcs AC cC tags At ct D w) (hl:vcs.length=es.length) (hvl :∀v∈vcs,v.vs.length≤1000) :
 Calls Tryz.prog 110 #[.pointer (some ⟨mb,0,none⟩),.agg (Q1d id),.agg (Q1d c)] w fun e w'=>e = .returned (.tuple #[])∧Zf4 X bx nb mb ns es AO cO vcs AC cC tags At ct D (oneV es id c (vcs.map VCo.vs)) w':=by
 have H:=hU h;have ei:=hU hvl;have hlc:=(Z0e Elem.cells_length h.cs.eo).cap;obtain ⟨m0,m1,m2⟩:=h.cs.mkb.c3;have mz:=h.cs.mkb.lt;clear h hvl;go_enter Tryz.func110,Tryz.ntmps110;go_upto_region 2 with fail;clear m0 m1 m2 mz;obtain ⟨W1,Wo⟩:∃W,W=(w.alloc (.cells (Q1d id) 41)).alloc (.cells (Q1d c) 41):=⟨_,rfl⟩;obtain ⟨b4,Pn⟩:∃b,b=w.heap.size:=⟨_,rfl⟩;obtain ⟨b5,ww⟩:∃b,b=w.heap.size+1:=⟨_,rfl⟩;have K4:=hU (show Blk W1 b4 41 (Q1d id) by rw [Wo,Pn];exact (Blk.new _ _ _).alloc _);have K5:=hU (show Blk W1 b5 41 (Q1d c) by rw [Wo,ww];have hh:=Blk.new (w.alloc (.cells (Q1d id) 41)) 41 (Q1d c);simp only [Zti] at hh;exact hh);have HB:=hU (show Below w.heap.size w W1 from Y6);(try simp only [Zti]);rw [←Wo];(try rw [←ww]);(try rw [←Pn]);clear Wo Pn ww
 go_loopw [13] (fun v wr=>∃i:Nat,v = .int .i64 (i:Int)∧i≤es.length∧oneF id 0 es=oneF id i (es.drop i)∧Below W1.heap.size W1 wr) (fun v wr=>es.length - (intOf v).toNat)
 case atStart=>exact ⟨0,rfl,Nat.zero_le _,rfl,Zst _ _⟩
 case round=>
  obtain ⟨i,rfl,hi,vh,U9⟩:=hrel;refine Ynr ?_;intro V7 Jm Ge;clear vh U9;by_cases hlt:i<es.length
  · skip
    obtain ⟨y,hy⟩:∃y,y=es[i]:=⟨_,rfl⟩;obtain ⟨g,off,Jo,Gb,Gk⟩:=(Z0e Elem.cells_length (H.o.new_ Ge.o).cs.eo).range hlt;rw [←hy] at Gk;subst Jo;have Pc:=hU (show es.drop i=y :: es.drop (i+1) by rw [hy];exact Ztt hlt);refine Ybc ?_;intro ly W5 wv Tq oq ww Ew o9 Nw pd Ov;have Kj:=hU (H.o.new_ Ov.o);refine Yim ?_;intro q6 q7 q8 qz j1 j2 v1;clear wv Tq Gk hy Gb;obtain ⟨s0,s1,s2⟩:=(K4.o.new_ pd.o).c3;have sz:=(K4.o.new_ pd.o).lt;obtain ⟨r0,r1,r2⟩:=(K5.o.new_ pd.o).c3;have rz:=(K5.o.new_ pd.o).lt;clear oq ww Ew;have Fo:=Z5y y.value id;by_cases he:y.value=id
    case pos=>
     rw [Zt9 he] at Fo;have HF:=hU (show oneV es id c (vcs.map VCo.vs)=putT (vcs.map VCo.vs) i ⟨2,⟨#[]⟩,c,[]⟩ by unfold oneV;rw [V7.o,Pc.o,oneF,if_pos he]);clear he;have xd:=hU (Zk8 i ⟨2,⟨#[]⟩,c,[]⟩ W5 Kj.o Ya rfl (ei.o _ (Ztf Ya)))
     go_wp2_with (first
      | (with_reducible refine wpList_load_mid rfl 50 _ rfl g (off+i*12) rfl (Q0i y) _ ly.o Tryz.underlying50 rfl Yb ?_)
      | ((with_reducible refine wpList_store_mid rfl 50 _ _ rfl wr.heap.size 0 (Q0j y) rfl rfl Nw.o Yb Yb ?_);rw [←o9.o]))
     refine xd.o.mono ?_;rintro e w9 ⟨vcs',rfl,hp,Ag,Vb⟩;have HR:=hU (show Zf4 X bx nb mb ns es _ cO vcs AC cC tags At ct D (oneV es id c (vcs.map VCo.vs)) w9 from ⟨vcs',hp,by rw [HF.o];exact Ag,Vb⟩);clear hp Ag Vb q6 q7 q8 qz s0 s1 s2 sz r0 r1 r2 rz;go_wp2_with fail
     refine Ykv ?_
     refine bodyPost_ret (results_none rfl _ _ _) rfl ?_;exact ⟨rfl,HR.o⟩
    rw [Zsx he] at Fo;have HN:=hU (show oneF id 0 es=oneF id (i+1) (es.drop (i+1)) by rw [V7.o,Pc.o,oneF,if_neg he]);clear he
    go_wp2_with (first
     | (with_reducible refine wpList_load_mid rfl 50 _ rfl g (off+i*12) rfl (Q0i y) _ ly.o Tryz.underlying50 rfl Yb ?_)
     | ((with_reducible refine wpList_store_mid rfl 50 _ _ rfl wr.heap.size 0 (Q0j y) rfl rfl Nw.o Yb Yb ?_);rw [←o9.o]))
    go_roundw
    case rel=>exact ⟨i+1,Yn,Ya,HN.o,pd.o⟩
    case measure=>simp [intOf]<;>omega
  · obtain rfl:i=es.length:=by omega
    have jz :¬(es.length:Int)<(es.length:Int):=Ya;have HF:=hU (show oneV es id c (vcs.map VCo.vs)=vcs.map VCo.vs by unfold oneV;rw [V7.o,Zuc,oneF]);go_wp2_with fail;go_end0;exact ⟨rfl,vcs,H.o.new_ Ge.o,HF.o.symm,rfl⟩
end
end
section
open Go.RowKit Go.Shelf
attribute [local go_sem] Oper.semAt_some
section
variable {X:World}{bx:Array Value}{nb mb:Nat}{ns:List Sym}{es:List Elem}{AO:Option Addr}{cO:Nat}{vcs:List VCo}{AC:Option Addr}{cC:Nat}{tags:List Int}{At:Option Addr}{ct:Nat}{D:Nat→Prop}
theorem Blk.setAllE {w:World}{g:Nat}{t:TypeId}{cs:Array Value}{vs:List Value}(h:Blk w g t cs) (hl:cs.size=vs.length):Blk (w.setCells g 0 vs) g t vs.toArray:=by
 exact Y7o
def Zs0 (X:World) (bx:Array Value) (nb mb:Nat) (ns:List Sym) (es:List Elem) (AO:Option Addr) (cO:Nat) (vcs:List VCo) (AC:Option Addr) (cC:Nat) (tags:List Int) (At:Option Addr) (ct:Nat) (D:Nat→Prop) (r:Option (List (List Z0z))) (e:Ending) (w':World):Prop:=
 match r with
 | none=>e = .returned (.bool false)∧P3 X bx nb mb ns es AO cO vcs AC cC tags At ct D w'
 | some vss=>e = .returned (.bool true)∧Zf4 X bx nb mb ns es AO cO vcs AC cC tags At ct D vss w'
theorem Zsg (x:Z1a) (w:World) (h:P3 X bx nb mb ns es AO cO vcs AC cC tags At ct D w) (hl:vcs.length=es.length) (hvl :∀v∈vcs,v.vs.length≤1000) (hn:ns.length≤1000) (hel:es.length≤1000) :
 Calls Tryz.prog 109 #[.pointer (some ⟨mb,0,none⟩),.agg (Q0z x)] w (Zs0 X bx nb mb ns es AO cO vcs AC cC tags At ct D (twoV ns es x (vcs.map VCo.vs))):=by
 have H:=hU h;have ei:=hU hvl;have nc:=hU hn;have hlc:=(Z0e Elem.cells_length h.cs.eo).cap;obtain ⟨m0,m1,m2⟩:=h.cs.mkb.c3;have mz:=h.cs.mkb.lt;clear h hvl hn;go_enter Tryz.func109,Tryz.ntmps109;go_upto_region 2 with fail;clear m0 m1 m2 mz;obtain ⟨W1,Wo⟩:∃W,W=w.alloc (.cells (Q0z x) 122):=⟨_,rfl⟩;obtain ⟨b3,Ri⟩:∃b,b=w.heap.size:=⟨_,rfl⟩;have K3:=hU (show Blk W1 b3 122 (Q0z x) from YN6);refine Ywp ?_;intro HB;rw [←Wo,←Ri];clear Wo Ri
 go_loopw [13] (fun v wr=>∃i:Nat,v = .int .i64 (i:Int)∧i≤es.length∧twoF es x.a x.b 0 es=twoF es x.a x.b i (es.drop i)∧Below W1.heap.size W1 wr) (fun v wr=>es.length - (intOf v).toNat)
 case atStart=>exact ⟨0,rfl,Nat.zero_le _,rfl,Zst _ _⟩
 case round=>
  obtain ⟨i,rfl,hi,vh,U9⟩:=hrel;refine Ynr ?_;intro V7 Jm Ge;clear vh U9;by_cases hlt:i<es.length
  · skip
    obtain ⟨y,hy⟩:∃y,y=es[i]:=⟨_,rfl⟩;obtain ⟨g,off,Jo,Gb,Gk⟩:=(Z0e Elem.cells_length (H.o.new_ Ge.o).cs.eo).range hlt;rw [←hy] at Gk;subst Jo;have Pc:=hU (show es.drop i=y :: es.drop (i+1) by rw [hy];exact Ztt hlt);refine Ybc ?_;intro ly W5 wv Tq oq ww Ew o9 Nw pd Ov;have HP5:=hU (H.o.new_ Ov.o);refine Yim ?_;intro q6 q7 q8 qz j1 j2 v1;clear wv Tq Gk hy Gb;clear oq;obtain ⟨W6,xy,Up,Dc,un,hz6⟩:=Z4b (w:=W5) (t:=41) Q2z (Q1c x.b) rfl;have F1:=hU xy;have Mi:=hU Up;have HB56:=hU (ww.trans (un.mono ww.size));have jk:=hU (show Blk W5 wr.heap.size 50 (Q0j y) from Z3m (zs:=Q2x) (vs:=(Q0i y)) rfl o9.o (by rw [o9.o];exact Zsy _ _ _ _ Nw.o));have Sh:=hU (show Blk W6 W5.heap.size 41 (Q1d x.b) from Z3m (zs:=Q2z) (vs:=(Q1c x.b)) rfl xy Dc);have yu:=hU (jk.o.new_ un);have Pt:=hU (pd.o.trans (un.mono pd.o.size));have Jf:=hU (Ov.o.trans (un.mono Ov.o.size));have Ti:=hU (K3.o.new_ Pt.o);clear q6 q7 q8 qz xy Up Dc un hz6 ww Ew;have q6:=(yu.o.cell 6).trans rfl;have q7:=(yu.o.cell 7).trans rfl;have q8:=(yu.o.cell 8).trans rfl;have qz:=yu.o.lt;obtain ⟨x0,x1,x2,x3,x4,x5,x6⟩:=Ti.o.c7;have xz:=Ti.o.lt;have K35:=hU (K3.o.new_ pd.o);obtain ⟨p0,p1,p2,p3,p4,p5,p6⟩:=K35.o.c7;have pz:=K35.o.lt
    have Oh:=Z5y y.value x.b;have jh:=Zc3 y.value x.a;by_cases he1:y.value=x.b
    case pos=>
     rw [Zt9 he1] at Oh;have HO:=hU (show Za7 x.a x.b y.value=some x.a by rw [Za7,if_pos he1]);obtain ⟨W7,pn⟩:∃W,W=W6.setCells W5.heap.size 0 (Q1c x.a):=⟨_,rfl⟩;have Me:=hU pn;have I3:=hU (show Blk W7 W5.heap.size 41 (Q1d x.a) by rw [pn];exact Blk.setAllE Sh.o rfl);have jr:=hU (show Below W1.heap.size W1 W7 by rw [pn];exact Below.setCells' _ _ Pt.o pd.o.size);have C8:=hU (show Below w.heap.size w W7 by rw [pn];exact Below.setCells' _ _ Jf.o Ov.o.size);have HTO:=hU (show W6.there W5.heap.size 0 ((Q1d x.a):Array Value).size from Sh.o.there);obtain ⟨o0,o1,o2⟩:=I3.o.c3;have oz:=I3.o.lt;clear pn he1 jh;have HMT:=hU (Zq0 i (x.a) W7 (H.o.new_ C8.o).cs hlt hel)
     go_wp2_with (first
      | (with_reducible refine wpList_load_mid rfl 50 _ rfl g (off+i*12) rfl (Q0i y) _ ly.o Tryz.underlying50 rfl Yb ?_)
      | ((with_reducible refine wpList_store_mid rfl 50 _ _ rfl wr.heap.size 0 (Q0j y) rfl rfl Nw.o Yb Yb ?_);rw [←o9.o])
      | ((with_reducible refine wpList_store_mid rfl 41 _ _ rfl W5.heap.size 0 (Q1d x.b) rfl rfl Mi.o Yb Yb ?_);rw [←F1.o])
      | ((with_reducible refine wpList_store_mid rfl 41 _ _ rfl W5.heap.size 0 (Q1d x.a) rfl rfl HTO.o Yb Yb ?_);rw [←Me.o]))
     refine HMT.o.mono ?_;rintro e w8 ⟨rfl,gl⟩;clear o0 o1 o2 oz q6 q7 q8 qz x0 x1 x2 x3 x4 x5 x6 xz p0 p1 p2 p3 p4 p5 p6 pz Oh;have ld:=hU gl;have po:=hU (jr.o.trans (gl.mono jr.o.size));have Wl:=hU (C8.o.trans (gl.mono C8.o.size));clear gl;obtain ⟨m,hm⟩:∃m,m=metV es i (x.a):=⟨_,rfl⟩;rw [←hm];cases m
     case false=>
      exact Y1q
     have HE:=hU (show twoV ns es x (vcs.map VCo.vs)=some (putT (vcs.map VCo.vs) i (Z2x ns x.rel (x.a))) by
      have e:twoF es x.a x.b 0 es=some (i,x.a):=by rw [V7.o,Pc.o,twoF,HO.o];exact if_pos hm.symm
      unfold twoV;rw [e])
     clear hm;obtain ⟨o0,o1,o2⟩:=(I3.o.new_ ld.o).c3;have oz:=(I3.o.new_ ld.o).lt;obtain ⟨x0,x1,x2,x3,x4,x5,x6⟩:=(K3.o.new_ po.o).c7;have xz:=(K3.o.new_ po.o).lt;have Uw:=hU (H.o.new_ Wl.o);have No:=hU (Zc2 x.rel (x.a) w8 Uw.o.cs.nm Uw.o.cs.mk_ nc.o);go_wp2_with fail;refine No.o.mono ?_;rintro e w9 ⟨rfl,Ct⟩;have db:=hU (Uw.o.new_ Ct);have xd:=hU (Zk8 i (Z2x ns x.rel (x.a)) w9 db.o Ya (by unfold Z2x;split<;>rfl) (ei.o _ (Ztf Ya)));clear o0 o1 o2 oz x0 x1 x2 x3 x4 x5 x6 xz Ct;go_wp2_with fail;refine xd.o.mono ?_;rintro e fo ⟨vcs',rfl,hp,Ag,Vb⟩;have HR:=hU (show Zf4 X bx nb mb ns es _ cO vcs AC cC tags At ct D (putT (vcs.map VCo.vs) i (Z2x ns x.rel (x.a))) fo from ⟨vcs',hp,Ag,Vb⟩);exact Y8l
    rw [Zsx he1] at Oh;by_cases he2:y.value=x.a
    case pos=>
     rw [Zt9 he2] at jh;simp only [Bool.not_true] at jh;have HO:=hU (show Za7 x.a x.b y.value=some x.b by rw [Za7,if_neg he1,if_pos he2]);obtain ⟨o0,o1,o2⟩:=Sh.o.c3;have oz:=Sh.o.lt;clear he1 he2;have HMT:=hU (Zq0 i (x.b) W6 (H.o.new_ Jf.o).cs hlt hel)
     go_wp2_with (first
      | (with_reducible refine wpList_load_mid rfl 50 _ rfl g (off+i*12) rfl (Q0i y) _ ly.o Tryz.underlying50 rfl Yb ?_)
      | ((with_reducible refine wpList_store_mid rfl 50 _ _ rfl wr.heap.size 0 (Q0j y) rfl rfl Nw.o Yb Yb ?_);rw [←o9.o])
      | ((with_reducible refine wpList_store_mid rfl 41 _ _ rfl W5.heap.size 0 (Q1d x.b) rfl rfl Mi.o Yb Yb ?_);rw [←F1.o]))
     refine HMT.o.mono ?_;rintro e w8 ⟨rfl,gl⟩;clear o0 o1 o2 oz q6 q7 q8 qz x0 x1 x2 x3 x4 x5 x6 xz p0 p1 p2 p3 p4 p5 p6 pz Oh jh;have ld:=hU gl;have po:=hU (Pt.o.trans (gl.mono Pt.o.size));have Wl:=hU (Jf.o.trans (gl.mono Jf.o.size));clear gl;obtain ⟨m,hm⟩:∃m,m=metV es i (x.b):=⟨_,rfl⟩;rw [←hm];cases m
     case false=>
      exact Y1q
     have HE:=hU (show twoV ns es x (vcs.map VCo.vs)=some (putT (vcs.map VCo.vs) i (Z2x ns x.rel (x.b))) by
      have e:twoF es x.a x.b 0 es=some (i,x.b):=by rw [V7.o,Pc.o,twoF,HO.o];exact if_pos hm.symm
      unfold twoV;rw [e])
     clear hm;obtain ⟨o0,o1,o2⟩:=(Sh.o.new_ ld.o).c3;have oz:=(Sh.o.new_ ld.o).lt;obtain ⟨x0,x1,x2,x3,x4,x5,x6⟩:=(K3.o.new_ po.o).c7;have xz:=(K3.o.new_ po.o).lt;have Uw:=hU (H.o.new_ Wl.o);have No:=hU (Zc2 x.rel (x.b) w8 Uw.o.cs.nm Uw.o.cs.mk_ nc.o);go_wp2_with fail;refine No.o.mono ?_;rintro e w9 ⟨rfl,Ct⟩;have db:=hU (Uw.o.new_ Ct);have xd:=hU (Zk8 i (Z2x ns x.rel (x.b)) w9 db.o Ya (by unfold Z2x;split<;>rfl) (ei.o _ (Ztf Ya)));clear o0 o1 o2 oz x0 x1 x2 x3 x4 x5 x6 xz Ct;go_wp2_with fail;refine xd.o.mono ?_;rintro e fo ⟨vcs',rfl,hp,Ag,Vb⟩;have HR:=hU (show Zf4 X bx nb mb ns es _ cO vcs AC cC tags At ct D (putT (vcs.map VCo.vs) i (Z2x ns x.rel (x.b))) fo from ⟨vcs',hp,Ag,Vb⟩);exact Y8l
    rw [Zsx he2] at jh;simp only [Bool.not_false] at jh;have HN:=hU (show twoF es x.a x.b 0 es=twoF es x.a x.b (i+1) (es.drop (i+1)) by rw [V7.o,Pc.o,twoF,show Za7 x.a x.b y.value=none by rw [Za7,if_neg he1,if_neg he2]]);clear he1 he2
    go_wp2_with (first
     | (with_reducible refine wpList_load_mid rfl 50 _ rfl g (off+i*12) rfl (Q0i y) _ ly.o Tryz.underlying50 rfl Yb ?_)
     | ((with_reducible refine wpList_store_mid rfl 50 _ _ rfl wr.heap.size 0 (Q0j y) rfl rfl Nw.o Yb Yb ?_);rw [←o9.o])
     | ((with_reducible refine wpList_store_mid rfl 41 _ _ rfl W5.heap.size 0 (Q1d x.b) rfl rfl Mi.o Yb Yb ?_);rw [←F1.o]))
    go_roundw
    case rel=>exact ⟨i+1,Yn,Ya,HN.o,Pt.o⟩
    case measure=>simp [intOf]<;>omega
  · obtain rfl:i=es.length:=by omega
    have jz :¬(es.length:Int)<(es.length:Int):=Ya;have HF:=hU (show twoV ns es x (vcs.map VCo.vs)=none by unfold twoV;rw [V7.o,Zuc,twoF]);go_wp2_with fail;go_ret;rw [HF.o];exact ⟨rfl,H.o.new_ Ge.o⟩
end
end
section
open Go.RowKit Go.Shelf
attribute [local go_sem] Oper.semAt_some
set_option maxRecDepth 100000
set_option maxHeartbeats 16000000
theorem Zjr (ns:List Sym) (bs:List Z0t) (t:Z0z) (own:List Z0t):(Z3f ns bs t own).1.list=t.list:=by unfold Z3f;split<;>rfl
theorem Z87 (ns:List Sym) (bs:List Z0t){l:List Z0z}(h:SmT l) (own:List Z0t):SmT (mapS (Z3f ns bs) l own).1:=by
 refine ⟨by rw [Z4c];exact h.1,?_⟩
 have :∀(l:List Z0z) (o:List Z0t),(∀t∈l,t.list.length≤1000)→∀t∈(mapS (Z3f ns bs) l o).1,t.list.length≤1000:=fun l=>by
  induction l with
  | nil=>intro o _ t ht;cases ht
  | cons x l ih=>
    intro o hl t ht;rw [mapS] at ht;rcases Ztb.1 ht with rfl|ht
    · rw [Zjr];exact hl x Ye
    · exact ih _ (fun t ht=>hl t (by simp [ht])) t ht
 exact this l own h.2
theorem Zh0 (ns:List Sym) (bs:List Z0t):∀(n:Nat) (x:Z0a) (own:List Z0t),SmC (n+1) x→SmC (n+1) (Z6o ns bs n x own).1
 | 0,x,own,h=>⟨Z87 ns bs h.1 _,Z87 ns bs h.2.1 _,YC2,fun _ _=>trivial⟩
 | n+1,x,own,h=>by
   refine ⟨Z87 ns bs h.1 _,Z87 ns bs h.2.1 _,YC2,?_⟩
   have :∀(l:List Z0a) (o:List Z0t),(∀c∈l,SmC (n+1) c)→∀c∈(mapS (Z6o ns bs n) l o).1,SmC (n+1) c:=fun l=>by
    induction l with
    | nil=>intro o _ c hc;cases hc
    | cons y l ih=>
      intro o hl c hc;rw [mapS] at hc;rcases Ztb.1 hc with rfl|hc
      · exact Zh0 ns bs n y o (hl y Ye)
      · exact ih _ (fun c hc=>hl c YMk) c hc
   exact this x.conds _ h.2.2.2
theorem Blk.c8 {w:World}{g:Nat}{t:TypeId}{v0 v1 v2 v3 v4 v5 v6 v7:Value}(h:Blk w g t #[v0,v1,v2,v3,v4,v5,v6,v7]):w.cell? ⟨g,0,none⟩=some v0∧w.cell? ⟨g,1,none⟩=some v1∧w.cell? ⟨g,2,none⟩=some v2∧w.cell? ⟨g,3,none⟩=some v3∧w.cell? ⟨g,4,none⟩=some v4∧w.cell? ⟨g,5,none⟩=some v5∧w.cell? ⟨g,6,none⟩=some v6∧w.cell? ⟨g,7,none⟩=some v7:=⟨(h.cell 0).trans rfl,(h.cell 1).trans rfl,(h.cell 2).trans rfl,(h.cell 3).trans rfl,(h.cell 4).trans rfl,(h.cell 5).trans rfl,(h.cell 6).trans rfl,(h.cell 7).trans rfl⟩
theorem RowR.suf {α:Type}{r:RepT α}{D:Nat→Prop}{W:World}{g c:Nat}{l m:List α}(h:RowR r D W (some ⟨g,0,none⟩) c (l++m)):RowR r D W (if c=l.length then some ⟨g,0,none⟩ else some ⟨g,l.length*r.size,none⟩) (c - l.length) m:=by
 have h1:=h.1;have h2:=h.2.1;rw [Ztd] at h1;refine ⟨Ya,Ya,fun h0=>?_⟩;rw [if_neg Ya];obtain ⟨b,off,e,hD,hb,hc⟩:=h.2.2 (by rw [Ztd];omega);injection e with e;injection e with e1 e2;subst e1;subst e2;refine ⟨_,_,rfl,hD,hb,fun k hk=>?_⟩;obtain ⟨cs,h3,h4⟩:=hc (l.length+k) (by rw [Ztd];omega);(have e3:(l++m)[l.length+k]'(by rw [Ztd];omega)=m[k]:=by rw [List.getElem_append_right Ya];simp);rw [e3] at h3;refine ⟨cs,h3,fun j u hu=>?_⟩;have:=h4 j u hu;rw [show 0+(l.length+k)*r.size+j=l.length*r.size+k*r.size+j by rw [Nat.add_mul];omega] at this;exact this
def Zrw (X:World) (bx:Array Value) (nb mb:Nat) (ns:List Sym) (AO:Option Addr) (eL cO n:Nat) (tags:List Int) (At:Option Addr) (ct:Nat) (D:Nat→Prop) (pos:List Z0a) (r:Option (List Z0a)) (e:Ending) (w':World):Prop:=
 ∃hs' AC' cC',e = .returned (.bool r.isSome)∧r=(if r.isSome=true then some hs' else none)∧MH X bx nb mb ns AO eL cO (n+1) tags At ct D (pos++hs') AC' cC' w'
theorem Zqx {X:World}{bx:Array Value}{nb mb:Nat}{ns:List Sym}{AO:Option Addr}{cO n:Nat}{tags:List Int}{At:Option Addr}{ct:Nat}{D DX:Nat→Prop}(pos hs:List Z0a){AC:Option Addr}{cC:Nat}(h:Z43) (A1:Option Addr) (a1:Nat) (A2:Option Addr) (a2:Nat) (A3:Option Addr) (a3:Nat) (AB:Option Addr) (cB:Nat) (w:World)
 (hM:MH X bx nb mb ns AO pos.length cO (n+1) tags At ct D (pos++hs) AC cC w) (hp:0<pos.length) (hml:(pos++hs).length≤10000) (hns:ns.length≤1000)
 (g1:RowR Z07 DX w A1 a1 h.cond.attr) (g2:RowR Z07 DX w A2 a2 h.cond.value) (g3:RowR (Z09 n) DX w A3 a3 h.cond.conds) (g4:Z0y w 4 Z0t.cells AB cB h.binds) (hD :∀k,DX k→k<w.heap.size) (hsm:SmC (n+1) h.cond) (hz:szH n h.cond≤90000) (hn:n≤1000) :
 Calls Tryz.prog 82 #[.pointer (some ⟨mb,0,none⟩),.agg #[.int .i64 h.cond.kind,.bool h.cond.goal,.string h.cond.id,.slice A1 h.cond.attr.length a1,.slice A2 h.cond.value.length a2,.bool h.cond.acc,.slice A3 h.cond.conds.length a3,.slice AB h.binds.length cB]] w (Zrw X bx nb mb ns AO pos.length cO n tags At ct D pos (holeV n ns h hs)):=by
 obtain ⟨x,hx⟩:∃x,x=h.cond:=⟨_,rfl⟩;obtain ⟨bs,Xe⟩:∃b,b=h.binds:=⟨_,rfl⟩;obtain ⟨r,hr⟩:∃r,r=holeV n ns h hs:=⟨_,rfl⟩;unfold holeV at hr;rw [←hx,←Xe] at hr;rw [←hx] at g1 g2 g3 hsm hz ⊢;rw [←Xe] at g4 ⊢;have Nr:=hU hr;rw [show holeV n ns h hs=r by rw [hr,hx,Xe];rfl];have HM:=hU hM;refine Ys5 ?_;intro G1 G2 G3;have G4:=hU g4;have HD:=hU hD;have Lx:=hU hsm;have xp:=hU hz;have hbc:=g4.cap;clear hx Xe hr hM g1 g2 g3 g4 hD hsm hz;go_enter Tryz.func82,Tryz.ntmps82;go_upto_region 1 with fail;obtain ⟨W1,Wo⟩:∃W,W=w.alloc (.cells #[.int .i64 x.kind,.bool x.goal,.string x.id,.slice A1 x.attr.length a1,.slice A2 x.value.length a2,.bool x.acc,.slice A3 x.conds.length a3,.slice AB bs.length cB] 80):=⟨_,rfl⟩;have HB:=hU (show Below w.heap.size w W1 from YD4);have HX:=hU (show Blk W1 w.heap.size 80 #[.int .i64 x.kind,.bool x.goal,.string x.id,.slice A1 x.attr.length a1,.slice A2 x.value.length a2,.bool x.acc,.slice A3 x.conds.length a3,.slice AB bs.length cB] from YBf);rw [←Wo];clear Wo;have q7:=(HX.o.cell 7).trans rfl;have qz:=HX.o.lt;go_wp2_with fail;clear q7 qz
 go_loopw [15] (fun s W=>∃k:Nat,s = .int .i64 k∧k≤bs.length∧(∀b∈bs.take k,¬Z4t ns b.sym=true)∧Below W1.heap.size W1 W) (fun s W=>bs.length - (intOf s).toNat)
 case atStart=>exact ⟨0,rfl,Nat.zero_le _,(fun b hb=>by cases hb),Zst _ _⟩
 case round=>
  obtain ⟨k,rfl,hk,uu,L0⟩:=hrel;have T7:=hU (HB.o.trans (L0.mono HB.o.size));have Nk:=hU L0;have U7:=hU uu;clear L0 uu;by_cases hlt:k<bs.length
  · obtain ⟨u,hu⟩:∃u,u=bs[k]:=⟨_,rfl⟩
    obtain ⟨g,off,rfl,Fu,Gk⟩:=(G4.o.new_ T7.o).range hlt;rw [←hu] at Gk;refine Y5v ?_;intro q0 q1 q2 q3;have dc:u∈bs:=YC5;have V7:=hU (show Z4t ns u.sym=true→r=none from fun h=>by rw [Nr.o,if_pos (.inl ⟨u,dc,h⟩)])
    have jc:=hU (show ¬Z4t ns u.sym=true→∀b∈bs.take (k+1),¬Z4t ns b.sym=true from fun h y hy=>by
     rw [Ztq,Zt3 hlt,←hu] at hy;rcases Ztu.1 hy with h1|h1
     · exact U7.o y h1
     · simp at h1;rw [h1];exact h)
    have e1:(0:Int)≤(k:Int):=Ya;have e2:(k:Int)<(bs.length:Int):=Ya;have o9:=hU (show Below w.heap.size w (wr.alloc (.cells #[.string u.var,.int .i64 u.sym.kind,.string u.sym.text,.int .i64 u.sym.n] 126)) from T7.o.alloc T7.o.size _);have HC:=hU (Zhm u.sym (wr.alloc (.cells #[.string u.var,.int .i64 u.sym.kind,.string u.sym.text,.int .i64 u.sym.n] 126)) (HM.o.nm.new_ o9.o) ((show MK w mb nb from ⟨(HM.o.mkb.cell 0).trans rfl,HM.o.mkb.lt⟩).new_ o9.o) hns);obtain ⟨z,hzz⟩:∃z,z=Z4t ns u.sym:=⟨_,rfl⟩;rw [←hzz] at HC V7 jc;clear hu Gk dc hzz;go_wp2_with fail;refine HC.o.mono ?_;rintro e w5 ⟨rfl,hb⟩;have Xp:=hU (o9.o.trans (hb.mono o9.o.size));have L6:=hU ((Nk.o.alloc Nk.o.size (.cells #[.string u.var,.int .i64 u.sym.kind,.string u.sym.text,.int .i64 u.sym.n] 126)).trans (hb.mono (Nk.o.alloc Nk.o.size (.cells #[.string u.var,.int .i64 u.sym.kind,.string u.sym.text,.int .i64 u.sym.n] 126)).size));clear hb q0 q1 q2 q3
    cases z with
    | true=>
      go_wp2_with fail;go_ret;have mp:=V7.o Ye;exact ⟨hs,AC,cC,YYf,YYf,HM.o.new_ Xp.o⟩
    | false=>
      have HE:=hU (jc.o Ye);exact Yh2
  · obtain rfl:k=bs.length:=by omega
    have HAB:=hU (show ¬∃b∈bs,Z4t ns b.sym=true from fun ⟨b,h1,h2⟩=>U7.o b (by rw [Ztc];exact h1) h2);have HX:=hU (HX.o.new_ Nk.o);have HB:=T7;obtain ⟨q0,q1,q2,q3,q4,q5,q6,q7⟩:=HX.o.c8;have qz:=HX.o.lt;have HC:=hU (Zdi n DX x 0 A1 a1 A2 a2 A3 a3 wr (G1.o.new_ HB.o) (G2.o.new_ HB.o) (G3.o.new_ HB.o) (fun k hk=>Zsw (HD.o k hk) HB.o.size) (by have:=xp.o;omega) Ya);have V7:=hU (show ¬Z45 n 0 x∨Z9y n x→r=none from fun h=>by rw [Nr.o,if_pos (.inr h)]);clear T7 Nk U7 hlt hk;go_wp2_with fail;refine HC.o.mono ?_;rintro e w3 ⟨⟨z,rfl,hz⟩,hb⟩;have ja:=hU hz;have HX:=hU (HX.o.new_ hb);have HB:=hU (HB.o.trans (hb.mono HB.o.size));clear hz hb HC q0 q1 q2 q3 q4 q5 q6 q7 qz;obtain ⟨q0,q1,q2,q3,q4,q5,q6,q7⟩:=HX.o.c8;have qz:=HX.o.lt
    cases z with
    | false=>
      go_wp2_with fail;go_ret;have mp:=V7.o (.inl (fun h=>by have:=ja.o.2 h;cases this));exact ⟨hs,AC,cC,YYf,YYf,HM.o.new_ HB.o⟩
    | true=>
    have HFO:=hU (ja.o.1 Ye);have HC:=hU (Zoj n x A1 a1 A2 a2 A3 a3 w3 (G1.o.new_ HB.o) (G2.o.new_ HB.o) (G3.o.new_ HB.o) (fun k hk=>Zsw (HD.o k hk) HB.o.size) (by have:=Z9f n 0 x;have:=xp.o;omega) Ya);go_wp2_with fail;refine HC.o.mono ?_;rintro e w4 ⟨⟨z,rfl,hz⟩,hb⟩;have X7:=hU hz;have HX:=hU (HX.o.new_ hb);have HB:=hU (HB.o.trans (hb.mono HB.o.size));clear hz hb HC q0 q1 q2 q3 q4 q5 q6 q7 qz;obtain ⟨q0,q1,q2,q3,q4,q5,q6,q7⟩:=HX.o.c8;have qz:=HX.o.lt
    cases z with
    | true=>
      go_wp2_with fail;go_ret;have mp:=V7.o (.inr (X7.o.1 Ye));exact ⟨hs,AC,cC,YYf,YYf,HM.o.new_ HB.o⟩
    | false=>
    have Nr:=hU (show r=holeE n hs (Z6o ns bs n x []).1 by
     rw [Nr.o,if_neg];rintro (h|h|h)
     · exact HAB.o h
     · exact h HFO.o
     · have:=X7.o.2 h;cases this)
    clear V7 HFO ja X7 HAB;obtain ⟨W5,wv⟩:∃W,W=w4.alloc (.cells #[.pointer (some ⟨mb,0,none⟩),.slice AB bs.length cB,.slice none 0 0] 222):=⟨_,rfl⟩;have ww:Below w4.heap.size w4 W5:=YFf;have K8:=hU (show FS w4 w4.heap.size mb AB bs.length cB [] W5 from ⟨ww,Zsu _,none,0,YOa,⟨Ye,.inl ⟨rfl,rfl⟩⟩,AIn.none_ _⟩);have HX:=hU (HX.o.new_ ww);have HFI:=hU (show Fill w4 mb nb D ns bs AB cB from ⟨HM.o.nm.new_ HB.o,(show MK w mb nb from ⟨(HM.o.mkb.cell 0).trans rfl,HM.o.mkb.lt⟩).new_ HB.o,hns,G4.o.new_ HB.o⟩);have HC:=hU (Zgz HFI.o n DX x A1 a1 A2 a2 A3 a3 [] W5 (G1.o.new_ HB.o) (G2.o.new_ HB.o) (G3.o.new_ HB.o) Lx.o K8.o (by have:=xp.o;simp;omega));go_upto_region 10 with fail;rw [←wv];clear wv ww q0 q1 q2 q3 q4 q5 q6 q7 qz;obtain ⟨q0,q1,q2,q3,q4,q5,q6,q7⟩:=HX.o.c8;have qz:=HX.o.lt;obtain ⟨y,hy⟩:∃y,y=(Z6o ns bs n x []).1:=⟨_,rfl⟩;rw [←hy] at HC Nr;have Tn:=hU (show SmC (n+1) y by rw [hy];exact Zh0 ns bs n x [] Lx.o);clear hy;go_wp2_with fail;refine HC.o.mono ?_;rintro e w6 ⟨Y1,y1,Y2,y2,Y3,y3,rfl,r1,r2,r3,Us,Fk⟩;have gi:=hU (HB.o.trans (Us.bel.mono HB.o.size));have Nq:=hU (r1.weaken (D':=fun k=>w4.heap.size≤k∧k<w6.heap.size) (fun k hk=>⟨YU0,hk.1.2⟩));have O8:=hU (r2.weaken (D':=fun k=>w4.heap.size≤k∧k<w6.heap.size) (fun k hk=>⟨YU0,hk.1.2⟩));have ll:=hU (r3.weaken (D':=fun k=>w4.heap.size≤k∧k<w6.heap.size) (fun k hk=>⟨YU0,hk.1.2⟩));have vu:=hU HB.o.size;have Xc:=hU Us.bel.size;clear r1 r2 r3 Us Fk HC K8 HX HFI q0 q1 q2 q3 q4 q5 q6 q7 qz;obtain ⟨W7,pn⟩:∃W,W=w6.alloc (.cells (Q0r y Y1 y1 Y2 y2 Y3 y3) 77):=⟨_,rfl⟩;(have Vn:Below w6.heap.size w6 W7:=by rw [pn];exact Below.al (Zst _ _) _);have ms:=hU (gi.o.trans (Vn.mono gi.o.size));have HY7:=hU (show Blk W7 w6.heap.size 77 (Q0r y Y1 y1 Y2 y2 Y3 y3) by rw [pn];exact Blk.new _ _ _);have Nq:=hU (Nq.o.new_ Vn);have O8:=hU (O8.o.new_ Vn);have ll:=hU (ll.o.new_ Vn);have HZ6:=hU (show w4.heap.size≤w6.heap.size∧w6.heap.size≤W7.heap.size from ⟨by have:=Xc.o;exact this,Vn.size⟩);have HC:=hU (Zcx n y Y1 y1 Y2 y2 Y3 y3 W7 ll.o);go_upto_region 11 with fail;rw [←pn];clear pn Vn;obtain ⟨q0,q1,q2,q3,q4,q5,q6⟩:=HY7.o.c7;have qz:=HY7.o.lt;go_wp2_with fail
    refine HC.o.mono ?_;rintro e w8 ⟨⟨z,rfl,hz⟩,hb⟩;have ja:=hU hz;have cy:=hU (HY7.o.new_ hb);have ld:=hU (ms.o.trans (hb.mono ms.o.size));have Nq:=hU (Nq.o.new_ hb);have O8:=hU (O8.o.new_ hb);have ll:=hU (ll.o.new_ hb);have G7:=hU (show w6.heap.size<w8.heap.size from cy.o.lt);clear hz hb HC q0 q1 q2 q3 q4 q5 q6 qz;obtain ⟨q0,q1,q2,q3,q4,q5,q6⟩:=cy.o.c7;have qz:=cy.o.lt
    cases z with
    | true=>
      go_wp2_with fail;go_ret;(have mp:r=some hs:=by rw [Nr.o,holeE,if_pos (ja.o.1 Ye)]);exact ⟨hs,AC,cC,YYf,YYf,HM.o.new_ ld.o⟩
    | false=>
    obtain ⟨ok,oc⟩:∃o,o=Z5s n y:=⟨_,rfl⟩;have Nr:=hU (show r=ok.bind (addU hs) by rw [Nr.o,holeE,if_neg (fun h=>by have:=ja.o.2 h;cases this),oc]);have HC:=hU (Zlf n _ y Y1 y1 Y2 y2 Y3 y3 w8 Nq.o O8.o ll.o (fun k hk=>by have:=G7.o;have:=hk.2;omega) Tn.o);rw [←oc] at HC;clear oc;go_wp2_with fail;refine HC.o.mono ?_;rintro e w9 ⟨v,V1,v1,V2,v2,V3,v3,rfl,hv,hb⟩;have HV:=hU hv;have HY9:=hU (cy.o.new_ hb);have yq:=hU (ld.o.trans (hb.mono ld.o.size));have HZ9:=hU hb.size;have HT:=hU (show w9.there w6.heap.size 0 ((Q0r v V1 v1 V2 v2 V3 v3):Array Value).size from HY9.o.there);clear hv hb HC q0 q1 q2 q3 q4 q5 q6 qz;(go_upto_region 14 with (with_reducible refine wpList_store_mid rfl 77 _ _ rfl w6.heap.size 0 (Q0r v V1 v1 V2 v2 V3 v3) rfl rfl HT.o Yb Yb ?_));obtain ⟨io,my⟩:∃W,W=w9.setCells w6.heap.size 0 (Q0q v V1 v1 V2 v2 V3 v3):=⟨_,rfl⟩;have Uf:=hU (show Below w.heap.size w io by rw [my];exact Below.setCells' _ _ yq.o (by have:=vu.o;have:=Xc.o;omega));have HYX:=hU (show Blk io w6.heap.size 77 (Q0r v V1 v1 V2 v2 V3 v3) by rw [my];exact HY9.o.setAllE rfl);have gq:=hU (show io.heap.size=w9.heap.size∧∀j,j≠w6.heap.size→io.heap[j]? = w9.heap[j]? by rw [my];exact ⟨Z06 _ _ _ _,fun j hj=>Z1d _ _ _ _ _ hj⟩);rw [←my];clear my
    cases ok with
    | none=>
      go_wp2_with fail;go_ret;have mp:r=none:=Nr.o;exact ⟨hs,AC,cC,YYf,YYf,HM.o.new_ Uf.o⟩
    | some v'=>
    obtain ⟨rfl,r1,r2,r3⟩:=HV.o v' rfl;simp only [Option.isSome_some]
    have up :∀k,Plus (fun k=>w4.heap.size≤k∧k<w6.heap.size) w8 w9 k→k<w9.heap.size→((w4.heap.size≤k∧k<io.heap.size∧k≠w6.heap.size))∧io.heap[k]? = w9.heap[k]?:=fun k hk hl=>by
     have h1:=gq.o.1;have h2:=Xc.o;have h3:=G7.o;(have Xf:k≠w6.heap.size:=by rcases hk with hk|hk<;>omega);exact ⟨⟨by rcases hk with hk|hk<;>omega,Ya,Xf⟩,gq.o.2 k Xf⟩
    have Nq:=hU (r1.keep (Nat.le_of_eq gq.o.1.symm) up);have O8:=hU (r2.keep (Nat.le_of_eq gq.o.1.symm) up);have ll:=hU (r3.keep (Nat.le_of_eq gq.o.1.symm) up);have Nr:=hU (show r=addU hs v from Nr.o);have B7:=hU (HM.o.new_ Uf.o);clear HV r1 r2 r3 up HY9 yq HT ld cy ms HY7 gi
    obtain ⟨ga,Gs⟩:∃g,AC=some ⟨g,0,none⟩:=by
     obtain ⟨C,⟨css,ho,_⟩,_⟩:=B7.o.co;exact Z61 ho Yk
    subst Gs;obtain ⟨m0,m1,m2⟩:=B7.o.mkb.c3;have mz:=B7.o.mkb.lt;have hcl:=B7.o.row.1;have hc2:=B7.o.row.2.1;have Ve:=hU (show (pos++hs).length=pos.length+hs.length from Ztd);have j1:(0:Int)≤(pos.length:Int):=Ya;(have j2:(pos.length:Int)≤((pos++hs).length:Int):=by rw [Ve.o];omega);(have hhl:hs.length≤10000:=by have:=Ve.o;omega);go_upto_region 16 with fail;go_quiet (fail);obtain ⟨As,rs⟩:∃A,A=(if cC=pos.length then (some ⟨ga,0,none⟩:Option Addr) else some ⟨ga,pos.length*7,none⟩):=⟨_,rfl⟩;rw [←rs];have HRS:=hU (show RowR (Z09 (n+1)) (fun k=>X.heap.size≤k∧¬D k∧k<io.heap.size∧k≠X.heap.size+1) io As (cC - pos.length) hs by rw [rs];have:=B7.o.row.suf;rw [show (Z09 (n+1)).size=7 from rfl] at this;exact this);have HBW0:=hU (show Below io.heap.size io (io.drewN nq) from Below.drewN' (Zst _ _) nq);clear rs m0 m1 m2 mz j1 j2;go_upto_region 17 with fail
    go_loopw [62] (fun s W=>∃k:Nat,s = .int .i64 k∧k≤hs.length∧(∀y∈hs.take k,¬y=v)∧Below io.heap.size io W) (fun s W=>hs.length - (intOf s).toNat)
    case atStart=>exact ⟨0,rfl,Nat.zero_le _,(fun y hy=>by cases hy),HBW0.o⟩
    case round=>
    obtain ⟨k,rfl,hk,uu,L0⟩:=hrel;have T7:=hU L0;have Jm:=hU (Uf.o.trans (L0.mono Uf.o.size));have U7:=hU uu;have HYR:=hU (HYX.o.new_ L0);clear L0 uu;by_cases hlt:k<hs.length
    · obtain ⟨u,hu⟩:∃u,u=hs[k]:=⟨_,rfl⟩
      obtain ⟨g,off,C1,c1,C2,c2,C3,c3,rfl,_,Fu,q0,q1,q2,q3,q4,q5,q6,r1,r2,r3⟩:=Z31 (HRS.o.new_ T7.o) hlt;rw [←hu] at q0 q1 q2 q3 q4 q5 q6 r1 r2 r3;have e1:(0:Int)≤(k:Int):=Ya;have e2:(k:Int)<(hs.length:Int):=Ya;have wo:=hU (show u=v→r=some hs from fun h=>by rw [Nr.o];exact Zqj (by rw [←h,hu];exact Ztf hlt))
      have jc:=hU (show ¬u=v→∀y∈hs.take (k+1),¬y=v from fun h y hy=>by
       rw [Ztq,Zt3 hlt,←hu] at hy;rcases Ztu.1 hy with h1|h1
       · exact U7.o y h1
       · simp at h1;rw [h1];exact h)
      refine Yzg ?_;intro W5 wv;have ww:Below wr.heap.size wr W5:=YFf;have iq:Blk W5 wr.heap.size 77 (Q0r u C1 c1 C2 c2 C3 c3):=YOa;have Xp:=hU (T7.o.trans (ww.mono T7.o.size));have HC:=hU (Zmy n _ _ u v C1 c1 C2 c2 C3 c3 V1 v1 V2 v2 V3 v3 W5 (r1.new_ ww) (r2.new_ ww) (r3.new_ ww) (Nq.o.new_ Xp.o) (O8.o.new_ Xp.o) (ll.o.new_ Xp.o));have HYW:=hU (HYR.o.new_ ww);have Mc:=hU iq;have o9:=hU wv;clear hu wv ww iq r1 r2 r3;go_upto_region 19 with fail;rw [←o9.o];clear o9 q0 q1 q2 q3 q4 q5 q6;obtain ⟨q0,q1,q2,q3,q4,q5,q6⟩:=HYW.o.c7;have qz:=HYW.o.lt;obtain ⟨m0,m1,m2,m3,m4,m5,m6⟩:=Mc.o.c7;have mz:=Mc.o.lt;go_wp2_with fail;refine HC.o.mono ?_;rintro e w12 ⟨⟨z,rfl,hz⟩,hb⟩;have ja:=hU hz;have mg:=hU (Xp.o.trans (hb.mono Xp.o.size));clear hz hb q0 q1 q2 q3 q4 q5 q6 qz m0 m1 m2 m3 m4 m5 m6 mz
      cases z with
      | true=>
        go_wp2_with fail;go_ret;have mp:=wo.o (ja.o.1 Ye);exact ⟨hs,_,cC,YYf,YYf,B7.o.new_ mg.o⟩
      | false=>
        have HE:=hU (jc.o (fun h=>by have:=ja.o.2 h;cases this));go_wp2_with fail;go_roundw
        case rel=>exact ⟨k+1,Yn,Ya,HE.o,mg.o⟩
        case measure=>simp [intOf]<;>omega
    · obtain rfl:k=hs.length:=by omega
      have N9:=hU (show ¬v∈hs from fun h=>U7.o v (by rw [Ztc];exact h) rfl);obtain ⟨q0,q1,q2,q3,q4,q5,q6⟩:=HYR.o.c7;have qz:=HYR.o.lt;obtain ⟨m0,m1,m2⟩:=(HM.o.new_ Jm.o).mkb.c3;have mz:=(HM.o.new_ Jm.o).mkb.lt;rw [Ve.o] at m2;obtain ⟨i1,F6,ye,J8,Cq⟩:=infp Z7x;have n1:((0:Int)≤(pos.length:Int)+(hs.length:Int))=True:=eq_true Ya;have n4:((pos.length:Int)+(hs.length:Int)).toNat=pos.length+hs.length:=Ya;have n1b:((pos.length:Int)+(hs.length:Int)<(pos.length:Int)+(hs.length:Int)+1)=True:=eq_true Ya;clear U7 hlt hk;go_upto_region 22 with fail;refine Z1g (fun w9=>Below wr.heap.size wr w9) [0,1,2,3,4,5,8,10,11] [3,4] (.fork [(0,0),(1,0),(2,0),(3,1),(4,1),(5,0),(6,2),(7,2),(8,0),(10,0),(11,0)] 9 (.fin [(12,2)]) 12 (.fin [(9,2)])) Yb Yb Yb (fun KK hKK=>?_);refine Ypt ?_;refine Ydr ?_;refine Z1n (fun K9 hK9=>?_);go_simp;obtain ⟨V,hV⟩:∃V,V=(wr.alloc (.cells Q2g 77)).drew:=⟨_,rfl⟩;obtain ⟨gz,Cv⟩:∃g,g=wr.heap.size:=⟨_,rfl⟩;(have hbV:Below wr.heap.size wr V:=by rw [hV];exact ((Zst _ _).alloc (Zsu _) _).drew);have KZ:=hU (show Blk V gz 77 Q2g from YG3);rw [←hV,←Cv];clear hV Cv;refine hK9 _ _ (hbV) ?_;clear hK9 K9;(try go_frame);refine Z6y Yb (fun K9 hK9=>?_);have U9:Below w.heap.size w V:=Jm.o.trans (hbV.mono Jm.o.size);have im:Below io.heap.size io V:=T7.o.trans (hbV.mono T7.o.size);obtain ⟨C,⟨css,ho,he,hof⟩,hC⟩:=HM.o.co;refine Z0l _ Yd _ _ _ Yd 77 i1 _ 7 112 Tryz.underlying26 F6 ye J8 Cq rfl Ya (.slice (some ⟨ga,0,none⟩) (pos++hs).length cC) (pos++hs).length css.flatten (by rw [Ve.o];rfl) (Z02 ho U9) (some ⟨gz,0,none⟩) 1 1 Z6n.cells Yd Yd (fun _=>⟨_,rfl,Zbp KZ.o⟩) (Zm7) Yj Ya ?_;intro v2 Y Od Cf Si Xd;obtain ⟨A2,c2,rfl,hF,hA,hO⟩:=Z2h (E:=fun j=>∃a,(some ⟨ga,0,none⟩:Option Addr)=some a∧a.block=j) (fun a ha=>⟨a,ha,rfl⟩) Od Cf Xd;obtain ⟨gy,ar⟩:=Z61 hO (Nat.succ_pos _);subst ar;obtain ⟨pth,Ph,eh,Ob,Aj,Xf,M6,Dm,pall⟩:=HM.o.push (c:=v) (E:=fun k=>w4.heap.size≤k∧k<io.heap.size∧k≠w6.heap.size) U9 (fun k hk=>⟨Zt6 vu.o hk.1,Zsw hk.2.1 im.size⟩) (Z64 (Nq.o.new_ im) (O8.o.new_ im) (ll.o.new_ im)) ho he hof hC hF hO rfl rfl hA;rw [Ve.o] at pth Ph eh M6 Dm pall;have Nw:=hU pth;have Ei:=hU Ph;have HCE:=hU M6;have yg:=hU Dm
      have Ci:=hU pall;have Ux:=hU Xf;clear pth Ph M6 Dm pall Xf Od Cf Si Xd hF hA hO ho he hof hC q0 q1 q2 q3 q4 q5 q6 qz m0 m1 m2 mz U9 im;refine Y8n ?_;clear hK9 K9;(try go_frame);refine Ydr ?_;refine Z0p ⟨?_,?_⟩
      · refine Z1c rfl (fun K9 hK9=>?_)
        refine Z0h rfl 77 _ _ rfl gy ((pos.length+hs.length)*7) (Q0r v V1 v1 V2 v2 V3 v3) rfl rfl Nw.o Yb Yb ?_;obtain ⟨Z,hZ⟩:∃Z,Z=Y.setCells gy ((pos.length+hs.length)*7) (Q0q v V1 v1 V2 v2 V3 v3):=⟨_,rfl⟩;have HZZ:=hU hZ
        first|rw [←hZ]|rw [show ((Q0r v V1 v1 V2 v2 V3 v3):Array Value).toList=(Q0q v V1 v1 V2 v2 V3 v3) from rfl,←hZ]
        (have eh:Z.cell? ⟨mb,2,none⟩=some (.slice (some ⟨ga,0,none⟩) (pos.length+hs.length) cC):=by rw [hZ];exact HCE.o);(have Ob:Z.frozen? ⟨mb,2,none⟩=false:=by rw [hZ];exact yg.o);(have Aj:mb<Z.heap.size:=by rw [hZ,Z06];exact Aj);clear hZ;refine hK9 _ _ (fun h=>absurd (h.symm.trans (by kernel_rfl:_=false)) Yc) ?_;clear hK9 K9;refine Ymp ?_;refine Z6y Yb (fun K9 hK9=>?_);go_simp;refine Y8n ?_;clear hK9 K9;(try go_frame);refine Y1g ?_;clear hKK KK;obtain ⟨Vz,hV⟩:∃Vz,Vz=Z.setCell ⟨mb,2,none⟩ (.slice (some ⟨gy,0,none⟩) (pos.length+hs.length+1) c2):=⟨_,rfl⟩;rw [←hV];have M1:=Ci.o Vz (by rw [hV,HZZ.o]);exact Yxj
      · refine Y03 ?_;intro K9 hK9;refine hK9 _ _ (fun h=>absurd (h.symm.trans (by kernel_rfl:_=false)) Yc) ?_;clear hK9 K9;refine Ymp ?_;refine Z6y Yb (fun K9 hK9=>?_);refine Z0h rfl 77 _ _ rfl gy ((pos.length+hs.length)*7) (Q0r v V1 v1 V2 v2 V3 v3) rfl rfl Ei.o Yb Yb ?_;refine Y8n ?_;clear hK9 K9;(try go_frame);refine Y1g ?_;clear hKK KK;obtain ⟨Vz,hV⟩:∃Vz,Vz=(Y.setCell ⟨mb,2,none⟩ (.slice (some ⟨gy,0,none⟩) (pos.length+hs.length+1) c2)).setCells gy ((pos.length+hs.length)*7) (Q0q v V1 v1 V2 v2 V3 v3):=⟨_,rfl⟩
        first|rw [←hV]|rw [show ((Q0r v V1 v1 V2 v2 V3 v3):Array Value).toList=(Q0q v V1 v1 V2 v2 V3 v3) from rfl,←hV]
        have M1:=Ci.o Vz (by rw [hV,Zcn Ux.o]);exact Yxj
end
section
open Go.RowKit Go.Shelf
def hdP (ns:List Sym) (e:Elem):HdV:=⟨e.goal,Z3y e.id (plV ns e.id),⟨1,⟨#[]⟩,e.attr,[]⟩,e.acc⟩
theorem Zeg (ns:List Sym):∀(vcs:List VCo) (o:List Elem),vcs.map VCo.cond=o.map (posV ns)→vcs.map VCo.vs=o.map (vs0 ns)∧vcs.map VCo.hd=o.map (hdP ns)
 | [],[],_=>⟨rfl,rfl⟩
 | [],_ :: _,h=>YSi
 | _ :: _,[],h=>YSi
 | v :: vs,e :: o,h=>by
   rw [List.map_cons,List.map_cons] at h;injection h with h1 h2;obtain ⟨a,b⟩:=Zeg ns vs o h2;unfold VCo.cond posV at h1;injection h1 with _ g1 g2 g3 g4 g5 _;injection g3 with g3 _;rw [List.map_cons,List.map_cons,List.map_cons,List.map_cons,a,b];refine ⟨?_,?_⟩
   · congr 1
   · congr 1
     unfold VCo.hd hdP;rw [g1,g2,g3,g5]
theorem Zhz (ns:List Sym):∀(vcs:List VCo) (o:List Elem),vcs.map VCo.hd=o.map (hdP ns)→vcs.map VCo.cond=List.zipWith (Z7a ns) o (vcs.map VCo.vs)
 | [],[],_=>rfl
 | [],_ :: _,h=>YSi
 | _ :: _,[],h=>YSi
 | v :: vs,e :: o,h=>by
   rw [List.map_cons,List.map_cons] at h;injection h with h1 h2;rw [List.map_cons,List.map_cons,List.zipWith_cons_cons,Zhz ns vs o h2];congr 1;unfold VCo.hd hdP at h1;injection h1 with g1 g2 g3 g4;unfold VCo.cond Z7a;rw [g1,g2,g3,g4]
theorem Zk6 (t:Z0z) (l:List Z0z) (n:Nat) (h:l.length≤n):(addT t l).length≤n+1:=by
 unfold addT
 split
 · omega
 · simp;omega
theorem Za9 (t:Z0z) (n:Nat):∀(vss:List (List Z0z)) (k:Nat),(∀v∈vss,v.length≤n)→∀v∈putT vss k t,v.length≤n+1
 | [],k,_,v,hv=>by unfold putT at hv;cases k<;>simp at hv
 | a :: l,0,h,v,hv=>by
   unfold putT at hv;rw [List.modify_zero_cons] at hv;rcases Ztb.1 hv with rfl|hv
   · exact Zk6 t a n (h a Zuj)
   · have:=h v (Zug _ hv);omega
 | a :: l,k+1,h,v,hv=>by
   unfold putT at hv;rw [List.modify_succ_cons] at hv;rcases Ztb.1 hv with rfl|hv
   · have:=h _ Zuj;omega
   · exact Za9 t n l k (fun u hu=>h u (Zug _ hu)) v hv
theorem Zm4 {es:List Elem}{a c:Sym}{vss:List (List Z0z)}{n:Nat}(h :∀v∈vss,v.length≤n):∀v∈oneV es a c vss,v.length≤n+1:=by
 unfold oneV
 split
 · exact fun v hv=>by have:=h v hv;omega
 · exact Za9 _ n _ _ h
theorem Zn7 {ns:List Sym}{es:List Elem}{x:Z1a}{vss r:List (List Z0z)}{n:Nat}(h :∀v∈vss,v.length≤n) (hr:twoV ns es x vss=some r):∀v∈r,v.length≤n+1:=by
 unfold twoV at hr
 split at hr
 · cases hr
 · cases hr
   exact Za9 _ n _ _ h
theorem Zf5 {ns:List Sym}{es:List Elem}{x:Z1a}{vss r:List (List Z0z)}{n:Nat}(h :∀v∈vss,v.length≤n) (hr:Z3t ns es x vss=some r):∀v∈r,v.length≤n+1:=by
 (have h1 :∀v∈vss,v.length≤n+1:=fun v hv=>by have:=h v hv;omega);unfold Z3t at hr
 repeat' split at hr
 all_goals first
  | (cases hr;done)
  | (cases hr;exact h1)
  | exact Zn7 h hr
  | (cases hr;exact Zm4 h)
theorem Zof (m:Nat) (ns:List Sym):∀(l:List Elem) (vss:List (List Z0z)),vss.length=l.length→(Z17 (m+1) 0 (List.zipWith (Z7a ns) l vss)).length=l.length:=by
 (have h0 :∀d,(Z17 m d []).length=0:=fun d=>by cases m<;>rfl);intro l
 induction l with
 | nil=>intro vss _;cases vss<;>rfl
 | cons x l ih=>
   intro vss hl
   match vss,hl with
   | v :: vss,hl=>
     have:=ih vss YPw;rw [List.zipWith_cons_cons];show (((Z7a ns x v) :: List.zipWith (Z7a ns) l vss).flatMap fun c=>(0,c) :: Z17 m 1 c.conds).length=_;rw [Zu6,Ztd,Ztg,Ztg,show (Z7a ns x v).conds = [] from rfl,h0];have e:((List.zipWith (Z7a ns) l vss).flatMap fun c=>(0,c) :: Z17 m 1 c.conds).length=l.length:=this;omega
theorem Zro {ns:List Sym}{vcs:List VCo}{o:List Elem}(h:vcs.map VCo.vs=o.map (vs0 ns)):∀v∈vcs.map VCo.vs,v.length≤1:=by
 rw [h];intro v hv;obtain ⟨e,_,rfl⟩:=List.mem_map.1 hv;exact Zsu _
noncomputable def afterH (m:Nat) (name:ByteArray) (o:List Elem) (holes:List Z43) (old:Sym→Bool) (ns:List Sym) (l:List Z24):Option (List (List Z0z))→Option (Z3r×List Int)
 | none=>none
 | some vss=>(holesV m ns holes []).bind fun hs=>Zap (m+1) name (List.zipWith (Z7a ns) o vss++hs) (o.map Elem.tag) old ns l
noncomputable def prodH (m:Nat) (name:ByteArray) (es:List Elem) (as_:List Z1a) (holes:List Z43) (old:Sym→Bool) (news:List Sym) (l:List Z24):Option (Z3r×List Int):=
 (Z5d es).bind fun z=>if z.1 = [] then none else if (news.any fun s=>!decide (plV z.2 s=0))=true then none else afterH m name z.1 holes old z.2 l (Z3l z.2 z.1 as_ (z.1.map (vs0 z.2)))
theorem Zjl {m:Nat}{name:ByteArray}{es:List Elem}{as_:List Z1a}{holes:List Z43}{old:Sym→Bool}{news:List Sym}{l:List Z24}{o:List Elem}{ns:List Sym}(h:Z5d es=some (o,ns)) (h1 :¬o = []) (h2 :¬(news.any fun s=>!decide (plV ns s=0))=true) :
 prodH m name es as_ holes old news l=afterH m name o holes old ns l (Z3l ns o as_ (o.map (vs0 ns))):=by
 unfold prodH;rw [h];show (if o = [] then none else _)=_;rw [if_neg h1,if_neg h2]
theorem Zmh (m:Nat) (name:ByteArray) (es:List Elem) (old:Sym→Bool) (news:List Sym) (l:List Z24):prodH m name es [] [] old news l=Zrh (m+1) name es old news l:=by
 unfold prodH Zrh
 cases Z5d es with
 | none=>rfl
 | some z=>
   obtain ⟨o,ns⟩:=z;show (if o = [] then none else if _ then none else afterH m name o [] old ns l (some (o.map (vs0 ns))))=if o = [] then none else if _ then none else _
   split
   · rfl
   · split
     · rfl
     · show Zap _ _ (List.zipWith (Z7a ns) o (o.map (vs0 ns)) ++ []) _ _ _ _=_
       rw [Zu9,Zng]
theorem Zbf {α:Type}(f:α→Nat):∀(l:List α) (n:Nat),(∀x∈l,f x≤n)→(l.map f).sum≤l.length*n
 | [],n,_=>Ye
 | x :: l,n,h=>by
   have:=Zbf f l n (fun y hy=>h y (by simp [hy]));have:=h x Ye;rw [List.map_cons,List.sum_cons,Ztg,Nat.add_mul];omega
theorem Zes (ns:List Sym) (bs:List Z0t):∀(n:Nat) (x:Z0a) (own:List Z0t),szH n (Z6o ns bs n x own).1=szH n x
 | 0,x,own=>by
   show 1+(mapS (Z3f ns bs) x.attr _).1.length+(mapS (Z3f ns bs) x.value _).1.length=_;rw [Z4c,Z4c];rfl
 | n+1,x,own=>by
   have h :∀(l:List Z0a) (o:List Z0t),((mapS (Z6o ns bs n) l o).1.map (szH n)).sum=(l.map (szH n)).sum:=fun l=>by
    induction l with
    | nil=>intro o;rfl
    | cons y l ih=>intro o;rw [mapS,List.map_cons,List.map_cons,List.sum_cons,List.sum_cons,Zes ns bs n,ih]
   show 1+(mapS (Z3f ns bs) x.attr _).1.length+(mapS (Z3f ns bs) x.value _).1.length+((mapS (Z6o ns bs n) x.conds _).1.map (szH n)).sum=_;rw [Z4c,Z4c,h];rfl
theorem Zhw :∀(n:Nat) (x y:Z0a),Z5s n x=some y→szH n y≤szH n x
 | 0,x,y,h=>by
   unfold Z5s at h
   split at h
   · cases h
   · injection h with h;rw [h];exact Zsu _
 | n+1,x,y,h=>by
   have hl :∀(l acc r:List Z0a),Z7b (Z5s n) l acc=some r→(r.map (szH n)).sum≤(acc.map (szH n)).sum+(l.map (szH n)).sum:=fun l=>by
    induction l with
    | nil=>intro acc r h;injection h with h;rw [h];simp
    | cons c l ih=>
      intro acc r h;rw [Z7b] at h;rw [List.map_cons,List.sum_cons]
      split at h
      · have:=ih _ _ h;omega
      · obtain ⟨z,hz,h⟩:=Option.bind_eq_some_iff.1 h
        have h1:=ih _ _ h;have h2:=Zhw n c z hz;simp only [Ztm,List.map_cons,List.map_nil,List.sum_append,List.sum_cons,List.sum_nil] at h1;omega
   unfold Z5s at h
   split at h
   · obtain ⟨r,hr,h⟩:=Option.bind_eq_some_iff.1 h
     split at h
     · cases h
     · injection h with h
       have:=hl _ _ _ hr;rw [←h];show 1+x.attr.length+x.value.length+(r.map (szH n)).sum≤1+x.attr.length+x.value.length+(x.conds.map (szH n)).sum;simp at this;omega
   · injection h with h;rw [h];exact Zsu _
theorem Zop {n:Nat}{ns:List Sym}{h:Z43}{hs r:List Z0a}{N:Nat}(e:holeV n ns h hs=some r) (hz:szH n h.cond≤N) (ha :∀c∈hs,szH n c≤N):r.length≤hs.length+1∧∀c∈r,szH n c≤N:=by
 unfold holeV at e
 split at e
 · cases e
 · unfold holeE at e
   split at e
   · injection e with e;rw [←e];exact ⟨Ya,ha⟩
   · obtain ⟨y,hy,e⟩:=Option.bind_eq_some_iff.1 e
     have Cq:=Zhw _ _ _ hy;rw [Zes] at Cq;unfold addU at e
     split at e
     · injection e with e;rw [←e];exact ⟨Ya,ha⟩
     · injection e with e
       rw [←e];refine ⟨Ye,fun c hc=>?_⟩;rcases Ztu.1 hc with hc|hc
       · exact ha c hc
       · rw [Zua.1 hc];omega
theorem Zoe (n:Nat) (l hs:List Z0a) (h :∀c∈hs,szH n c≤90000):(Z17 (n+1) 0 (l++hs)).length≤(Z17 (n+1) 0 l).length+hs.length*90000:=by
 rw [Z1z,Z1z,Zta,Ztd]
 have :∀l:List Z0a,(∀c∈l,szH n c≤90000)→(Z17 (n+1) 0 l).length≤l.length*90000:=fun l hl=>by
  rw [Z5p];refine Zbf _ l _ (fun c hc=>?_);have h1:=Z9f n 0 c;have h2:=hl c hc;rw [Z5p] at h1;simp at h1 ⊢;omega
 have:=this hs h;rw [Z1z] at this;omega
theorem Z32.map2 {α β γ:Type}{R:α→β→Prop}{f:γ→α}{g:γ→β} :∀(l:List γ),(∀x∈l,R (f x) (g x))→Z32 R (l.map f) (l.map g)
 | [],_=>.nil
 | x :: l,h=>.cons (h x Ye) (Z32.map2 l (fun y hy=>h y (by simp [hy])))
theorem P3.mh {X w:World}{bx:Array Value}{nb mb:Nat}{ns:List Sym}{es:List Elem}{AO:Option Addr}{cO:Nat}{vcs:List VCo}{AC:Option Addr}{cC:Nat}{tags:List Int}{At:Option Addr}{ct:Nat}{D:Nat→Prop}
 (h:P3 X bx nb mb ns es AO cO vcs AC cC tags At ct D w) (m:Nat):MH X bx nb mb ns AO es.length cO (m+1) tags At ct D (vcs.map VCo.cond) AC cC w:=by
 have Tk:=h.cs.co
 have hC :∀k,(∃v∈vcs,k=v.ga∨k=v.gv)→X.heap.size≤k∧¬D k∧k<w.heap.size∧k≠X.heap.size+1∧k≠mb:=by
  rintro k ⟨v,hv,rfl|rfl⟩
  · have hb:=(h.cs.ok v hv).at_
    exact ⟨(h.cs.bl v hv).1.1,(h.cs.bl v hv).1.2,hb.lt,fun e=>(e ▸ hb).ne_ h.pb.r Yc rfl,fun e=>hb.ne_ h.cs.mkb Yc e⟩
  · have hb:=(h.cs.ok v hv).vr
    exact ⟨(h.cs.bl v hv).2.1,(h.cs.bl v hv).2.2,(h.cs.ok v hv).ltv,fun e=>Z01 hb h.pb.r Yc YVh,fun e=>Z01 hb h.cs.mkb Yc YVh⟩
 refine ⟨h.cs.nm,h.dn2,by rw [Ztl];exact h.cs.mkb,h.cs.mge,h.cs.mnd,h.pb,⟨fun k=>∃v∈vcs,k=v.ga∨k=v.gv,⟨vcs.map VCo.cells,?_,?_,?_⟩,hC⟩,fun a ha=>⟨(h.cs.ca a ha).1,(h.cs.ca a ha).2,fun e=>Z01 Tk h.pb.r Yc (by rw [ha,←e];rfl)⟩,h.tg,h.ta⟩
 · rw [Ztl,Z23,←List.flatMap_def];exact Tk
 · refine Z32.map2 vcs (fun v hv=>?_)
   have oc:=h.cs.ok v hv;have t0 :∀{t:Z0z},t.list = []→Z07.rep (fun k=>∃v∈vcs,k=v.ga∨k=v.gv) w t t.cell0:=fun {t} ht=>⟨none,0,by unfold Z0z.cell0;rw [ht];rfl,by rw [ht];exact RowR.nil _ _ _⟩;refine ⟨some ⟨v.ga,0,none⟩,1,some ⟨v.gv,0,none⟩,v.cap,none,0,rfl,?_,?_,RowR.nil _ _ _⟩
   · refine ⟨Zsu _,YAk,fun _=>⟨v.ga,0,rfl,⟨v,hv,.inl rfl⟩,oc.at_.lt,fun i hi=>?_⟩⟩
     (obtain rfl:i=0:=by simp [VCo.cond,Z0a.attr] at hi;exact hi);refine ⟨_,t0 oc.la,fun j u hu=>?_⟩;rw [show (0:Nat)+0*Z07.size+j=j from Ya,oc.at_.cell];simpa [Z0z.cell0,VCo.cond,Z0a.attr] using hu
   · have j4:=Z0e Z0z.cell0_length oc.vr
     refine ⟨j4.1,j4.2.1,fun h1=>?_⟩;obtain ⟨b2,off2,lg,ve,Kz⟩:=j4.2.2 h1;injection lg with lg;injection lg with e1 e2;subst e1;subst e2;exact ⟨_,_,rfl,⟨v,hv,.inr rfl⟩,ve,fun i hi=>⟨_,t0 (oc.lv _ (Ztf hi)),fun j u hu=>Kz i hi j u hu⟩⟩
 · rw [Ztl]
   rintro k hk ⟨v,hv,rfl|rfl⟩
   · exact Z01 Tk (h.cs.ok v hv).at_ Yc hk
   · exact Z1p Tk (h.cs.ok v hv).vr Yc hk rfl
end
section
theorem Z90 {ns:List Sym}{es:List Elem} :∀{as_:List Z1a}{vss r:List (List Z0z)},Z3l ns es as_ vss=some r→r.length=vss.length
 | [],vss,r,h=>by injection h with h;rw [h]
 | x :: l,vss,r,h=>by
   rw [Z3l] at h
   split at h
   · cases h
   · rename_i v hv
     rw [Z90 h,Zi9 hv]
theorem Zjm {m:Nat}{nm:ByteArray}{es:List Elem}{as_:List Z1a}{holes:List Z43}{old:Sym→Bool}{news:List Sym}{l:List Z24}{p:Z3r}{tags:List Int}(h:prodH m nm es as_ holes old news l=some (p,tags)) :
 ∃o:List Elem,o.Perm es∧tags=o.map Elem.tag∧o.length≤p.conds.length:=by
 unfold prodH at h;obtain ⟨⟨o,ns⟩,hz,h⟩:=Option.bind_eq_some_iff.1 h;refine ⟨o,(Za6 hz).1,?_⟩
 split at h
 · cases h
 split at h
 · cases h
 unfold afterH at h
 split at h
 · cases h
 rename_i vss hv;obtain ⟨hs,_,h⟩:=Option.bind_eq_some_iff.1 h;unfold Zap at h
 split at h
 · cases h
 split at h
 · injection h with h
   injection h with h1 h2;refine ⟨h2.symm,?_⟩;rw [←h1];have:=Z90 hv;rw [Ztl] at this;simp [this]
 · cases h
def Zrv (on:Bool) (l:List Z24) (M:Znq):Prop:=
 (M.kind=0∧(l = []∨M.trail.elems = [])∧M.tags = [])∨
 ((M.kind=1∧on=true∧M.tags.length≤M.prod.conds.length∨M.kind=2∧∀i j,(hi:i<M.tags.length)→(hj:j<M.tags.length)→j<i→M.tags[j]<M.tags[i])∧
   M.tags.length=M.trail.elems.length∧0<M.tags.length∧∀x∈M.trail.elems,x.elem.tag∈M.tags)
theorem Zp2 (on:Bool) (r:Option (Z3r×List Int)) (recs:List Z0c) (lv:Int) (l:List Z24) (h :∀r∈recs,r.elems.length≤20) (h2:recs.length≤20):(Z5c on r recs lv l).trail.elems.length≤400:=by
 have h3:=Z7p h lv (Z3q l);have h4:(Z3k recs lv (Z3q l)).elems.length≤400:=Ya;unfold Z5c Za3
 repeat' split
 · exact Nat.zero_le _
 all_goals exact h4
theorem Zlv (on:Bool) (n:Nat) (nm:ByteArray) (old:Sym→Bool) (recs:List Z0c) (lv:Int) (l:List Z24) :
 Zrv on l (Z5c on (prodH n nm ((Z3k recs lv (Z3q l)).elems.map Z0j.elem) (Z3k recs lv (Z3q l)).aparts (Z3k recs lv (Z3q l)).holes old (Z3k recs lv (Z3q l)).news l) recs lv l):=by
 unfold Z5c
 split
 · rename_i h;exact .inl ⟨rfl,.inl h,rfl⟩
 obtain ⟨T,hT⟩:∃T,T=Z3k recs lv (Z3q l):=⟨_,rfl⟩;(have hs:Srt Z7u T.elems:=by rw [hT];exact Zgo _ _);rw [←hT];unfold Za3
 split
 · rename_i h;exact .inl ⟨rfl,.inr h,rfl⟩
 rename_i hne;refine .inr ?_
 split
 · rename_i z hz
   obtain ⟨p,tags⟩:=z
   split at hz
   · rename_i hon
     obtain ⟨o,ho,rfl,hl⟩:=Zjm hz;have Vx:=ho.length_eq;rw [Ztl] at Vx;refine ⟨.inl ⟨rfl,hon.1,YPw⟩,by simpa using Vx,?_,fun x hx=>?_⟩
     · show 0<(o.map Elem.tag).length
       rw [Ztl,Vx];exact List.length_pos_iff.2 hne
     · exact List.mem_map.2 ⟨x.elem,ho.mem_iff.2 (List.mem_map_of_mem hx),rfl⟩
   · cases hz
 · refine ⟨.inr ⟨rfl,fun i j hi hj hij=>?_⟩,Ye,?_,fun x hx=>List.mem_map_of_mem hx⟩
   · simp only [Ztl] at hi hj
     have:=hs.lt hij hi;unfold Z7u Z1b at this;simp only [List.getElem_map]
     split at this
     · assumption
     · split at this<;>omega
   · show 0<(T.elems.map _).length
     rw [Ztl];exact List.length_pos_iff.2 hne
end
end Go.Proofs.YtcnnofgaifcgaaaGreat
