/-
  Texts put together: XCond, XFormed, XMh, VaryA1, VaryA2, VaryA3.
-/
import Derived.Test.YtcnnofgaifcgaaaGreatPTs
namespace Go.Proofs.YtcnnofgaifcgaaaGreat
set_option maxRecDepth 100000
set_option maxHeartbeats 32000000
set_option linter.unusedSimpArgs false
section
open Go.RowKit Go.Shelf
attribute [local go_sem] Oper.semAt_some
set_option maxRecDepth 100000
set_option maxHeartbeats 8000000
def NB (X w w':World):Nat→Prop:=fun j=>(w.heap.size≤j∧j<w'.heap.size)∧¬BF X j w'.heap[j]?
theorem LsC.rowN {α:Type}{r:RepT α}{e:TypeId}{X w0:World}{b:Nat}{l:List α}{A:Option Addr}{c:Nat}{w:World}(h:LsC r e (fun _=>False) (BF X) w0.heap.size b l A c w) (h1:e≠126) (h2:e≠222):RowR r (NB X w0 w) w A c l:=by
 refine h.row.weaken (fun j hj=>?_);have hb:=h.1;rcases hj.1 with hf|hf
 · exact hf.elim
 · refine ⟨⟨hf.1,Ya⟩,?_⟩
   rcases hj.2 with h3|h3
   · exact h3
   · obtain ⟨_,_,cur,h5⟩:=h.obj j h3
     rw [h5];exact BF.not X h1 h2 _ _ _
def GF (X:World) (g:Nat) (w w':World):Prop:=Fr (fun j=>BF X j w.heap[j]?∨j=g) w w'
section
variable {X w0 w w':World}{g:Nat}
theorem Fl.gf (h:Fl X w w') (g:Nat):GF X g w w':=h.mono (fun _ _ hm=>.inl hm)
theorem GF.trans {a b c:World}(h:GF X g a b) (k:GF X g b c):GF X g a c:=by
 exact Y39
theorem GF.fl {a b c:World}(h:Fl X a b) (k:GF X g b c) (hg:a.heap.size≤g):Fl X a c:=by
 refine Fr.into h k (fun i hi=>?_);rcases Nat.lt_or_ge i a.heap.size with hl|hg2
 · refine .inl (Ztz fun hn=>hn ?_)
   have:=h.block i hl hn;rw [this] at hi;exact hi.elim id (fun e=>Ya)
 · exact .inr hg2
theorem GF.set_ (h:GF X g w w') (i:Nat) (v:Value):GF X g w (w'.setCell ⟨g,i,none⟩ v):=Fr.setCell (p:=⟨g,i,none⟩) h (.inl (.inr rfl)) v
theorem GF.blk {b:Nat}{t:TypeId}{cs:Array Value}(h:GF X g w w') (hK:Blk w b t cs) (h1:t≠126) (h2:t≠222) (hb:b≠g):Blk w' b t cs:=
 hK.fr h (fun hm=>hm.elim (by rw [show w.heap[b]? = _ from hK];exact BF.not X h1 h2 _ _ _) hb)
theorem RowR.gf {α:Type}{r:RepT α}{A:Option Addr}{c:Nat}{l:List α}(h:RowR r (NB X w0 w) w A c l) (hF:GF X g w w') (hg:g<w0.heap.size):RowR r (NB X w0 w') w' A c l:=
 h.keep hF.size (fun j hj hl=>by
  have:=hF.block j hl (fun hm=>hm.elim hj.2 (fun e=>by have:=hj.1.1;omega))
  exact ⟨⟨⟨hj.1.1,Zsw hl hF.size⟩,by rw [this];exact hj.2⟩,this⟩)
theorem RowR.nb {α:Type}{r:RepT α}{A:Option Addr}{c:Nat}{l:List α}(h:RowR r (NB X w0 w) w A c l) (hF:Fl X w w'):RowR r (NB X w0 w') w' A c l:=
 h.keep hF.size (fun j hj hl=>by
  have:=hF.block j hl hj.2
  exact ⟨⟨⟨hj.1.1,Zsw hl hF.size⟩,by rw [this];exact hj.2⟩,this⟩)
end
theorem RowR.nbUp {α:Type}{r:RepT α}{X w0 w1 w:World}{A:Option Addr}{c:Nat}{l:List α}(h:RowR r (NB X w1 w) w A c l) (hB:w0.heap.size≤w1.heap.size):RowR r (NB X w0 w) w A c l:=h.weaken (fun j hj=>⟨⟨by have:=hj.1.1;omega,hj.1.2⟩,hj.2⟩)
theorem Zfj (ns:List Sym) (bs:List Z0t) (v:ByteArray) (own:List Z0t):(idH ns bs v own).2.length≤own.length+1:=by
 unfold idH;split
 · simp
 · exact Zm3 ns bs _ own
def Zrs (X:World) (fb mb:Nat) (AB:Option Addr) (nB cB:Nat) (n:Nat) (w:World) (y:Z0a) (own:List Z0t) (e:Ending) (w':World):Prop:=
 ∃A1 a1 A2 a2 A3 a3,e = .returned (.agg (Q0r y A1 a1 A2 a2 A3 a3))∧RowR Z07 (NB X w w') w' A1 a1 y.attr∧RowR Z07 (NB X w w') w' A2 a2 y.value∧RowR (Z09 n) (NB X w w') w' A3 a3 y.conds∧FS X fb mb AB nB cB own w'∧Fl X w w'
abbrev Zez (X:World) (fb mb:Nat) (ns:List Sym) (bs:List Z0t) (AB:Option Addr) (cB:Nat) (n:Nat):Prop:=
 ∀(DX:Nat→Prop) (x:Z0a) (A1:Option Addr) (a1:Nat) (A2:Option Addr) (a2:Nat) (A3:Option Addr) (a3:Nat) (own:List Z0t) (w:World),
  RowR Z07 DX X A1 a1 x.attr→RowR Z07 DX X A2 a2 x.value→RowR (Z09 n) DX X A3 a3 x.conds→SmC (n+1) x→FS X fb mb AB bs.length cB own w→own.length+szH n x≤100000→
  Calls Tryz.prog 113 #[.pointer (some ⟨fb,0,none⟩),.agg (Q0r x A1 a1 A2 a2 A3 a3)] w (Zrs X fb mb AB bs.length cB n w (Z6o ns bs n x own).1 (Z6o ns bs n x own).2)
theorem Zkw (ns:List Sym) (bs:List Z0t) (n:Nat) (x:Z0a) (own:List Z0t) (h0:n=0→x.conds = []):∃f:Z0a→List Z0t→Z0a×List Z0t,∃sz:Z0a→Nat,(∀m,n=m+1→f=Z6o ns bs m∧sz=szH m)∧Z6o ns bs n x own=Zd5 ns bs f x own∧szH n x=1+x.attr.length+x.value.length+(x.conds.map sz).sum:=by
 cases n with
 | zero=>exact ⟨fun c own=>(c,own),fun _=>0,fun m h=>Ya,rfl,by rw [szH,h0 rfl];rfl⟩
 | succ m=>exact ⟨Z6o ns bs m,szH m,fun k h=>by rw [show k=m from Ya];exact ⟨rfl,rfl⟩,rfl,rfl⟩
theorem Zkx {ns:List Sym}{bs:List Z0t}{f:Z0a→List Z0t→Z0a×List Z0t}{sz:Z0a→Nat}{x:Z0a}(hf :∀c∈x.conds,∀own,(f c own).2.length≤own.length+sz c) (own:List Z0t):(Zd5 ns bs f x own).2.length≤own.length+(1+x.attr.length+x.value.length+(x.conds.map sz).sum):=by
 have h1:=Zfj ns bs x.id own;have h2:=Z3p ns bs x.attr (idH ns bs x.id own).2;have h3:=Z3p ns bs x.value (mapS (Z3f ns bs) x.attr (idH ns bs x.id own).2).2
 have h4 :∀(l:List Z0a) (o:List Z0t),(∀c∈l,∀own,(f c own).2.length≤own.length+sz c)→(mapS f l o).2.length≤o.length+(l.map sz).sum:=fun l=>by
  induction l with
  | nil=>intro o _;exact Zsu _
  | cons c l ih=>
    intro o h;have g1:=h c Ye o;have g2:=ih (f c o).2 (fun d hd=>h d (by simp [hd]));rw [mapS,List.map_cons,List.sum_cons];simp only;omega
 have h5:=h4 x.conds (mapS (Z3f ns bs) x.value (mapS (Z3f ns bs) x.attr (idH ns bs x.id own).2).2).2 hf;unfold Zd5;simp only;omega
theorem Zd6 (ns:List Sym) (bs:List Z0t):∀(n:Nat) (x:Z0a) (own:List Z0t),(Z6o ns bs n x own).2.length≤own.length+szH n x
 | 0,x,own=>by
   have h1:=Zfj ns bs x.id own;have h2:=Z3p ns bs x.attr (idH ns bs x.id own).2;have h3:=Z3p ns bs x.value (mapS (Z3f ns bs) x.attr (idH ns bs x.id own).2).2
   have h4 :∀(l:List Z0a) (o:List Z0t),(mapS (fun (c:Z0a) (own:List Z0t)=>(c,own)) l o).2=o:=fun l=>by
    induction l with
    | nil=>intro o;rfl
    | cons c l ih=>intro o;rw [mapS];exact ih o
   rw [Z6o,szH];unfold Zd5;simp only [h4];omega
 | n+1,x,own=>Zkx (fun c _ own=>Zd6 ns bs n c own) own
theorem Zay {X:World}{fb mb nb:Nat}{D:Nat→Prop}{ns:List Sym}{bs:List Z0t}{AB:Option Addr}{cB:Nat}(hF:Fill X mb nb D ns bs AB cB) (n:Nat) (ih :∀m,n=m+1→Zez X fb mb ns bs AB cB m):Zez X fb mb ns bs AB cB n:=by
 intro DX x A1 a1 A2 a2 A3 a3 own w g1 g2 g3 hs h ho;obtain ⟨f,sz,hf,hV,hZ⟩:=Zkw ns bs n x own (fun h0=>by subst h0;exact row0 g3);rw [hV];rw [hZ] at ho;have tx:=hU h.bel.size;have hac:=g3.cap;have hs3:=hs.2.2.1;refine Ys5 ?_;intro G1 G2 G3;have IH:=hU ih;have Re:=hU hf;have HT1:=hU hs.1;have Ei:=hU hs.2.1;have j8:=hU hs.2.2.2;have HS:=hU h;have HF:=hU hF;obtain ⟨ra,O4⟩:∃r,r=idH ns bs x.id own:=⟨_,rfl⟩;have V8:=Zfj ns bs x.id own;rw [←O4] at V8;obtain ⟨s,o1⟩:=ra;have xm:=hU O4;simp only at V8;clear g1 g2 g3 ih hs h hF hf hV hZ O4;go_enter Tryz.func113,Tryz.ntmps113;go_upto_region 2 with fail;obtain ⟨W3,jb⟩:∃W,W=((w.alloc (.cells (Q0r x A1 a1 A2 a2 A3 a3) 77)).alloc (.cells Q2g 77)).alloc (.cells #[.int .i64 x.kind,.bool x.goal,.string ⟨#[]⟩,.slice none 0 0,.slice none 0 0,.bool x.acc,.slice none 0 0] 77):=⟨_,rfl⟩;have HB:=hU (show Below w.heap.size w W3 by rw [jb];exact Below.al (Below.al (Below.al (Zst _ _) _) _) _);have HX:=hU (show Blk W3 w.heap.size 77 (Q0r x A1 a1 A2 a2 A3 a3) by rw [jb];exact ((Blk.new _ _ _).alloc _).alloc _);have HR:=hU (show Blk W3 (w.heap.size+1) 77 Q2g by rw [jb];have hh:=(Blk.new (w.alloc (.cells (Q0r x A1 a1 A2 a2 A3 a3) 77)) 77 Q2g).alloc (.cells #[.int .i64 x.kind,.bool x.goal,.string ⟨#[]⟩,.slice none 0 0,.slice none 0 0,.bool x.acc,.slice none 0 0] 77);simp only [Zti] at hh;exact hh);have HO:=hU (show Blk W3 (w.heap.size+2) 77 #[.int .i64 x.kind,.bool x.goal,.string ⟨#[]⟩,.slice none 0 0,.slice none 0 0,.bool x.acc,.slice none 0 0] by rw [jb];have hh:=Blk.new ((w.alloc (.cells (Q0r x A1 a1 A2 a2 A3 a3) 77)).alloc (.cells Q2g 77)) 77 #[.int .i64 x.kind,.bool x.goal,.string ⟨#[]⟩,.slice none 0 0,.slice none 0 0,.bool x.acc,.slice none 0 0];simp only [Zti,Zub,Nat.reduceAdd] at hh;exact hh);have HZ:=hU (show W3.heap.size=w.heap.size+3 by rw [jb];simp);rw [←jb];clear jb;obtain ⟨q0,q1,q2,q3,q4,q5,q6⟩:=HX.o.c7;have qz:=HX.o.lt;simp only [Zub,Nat.reduceAdd]
 go_upto_if 17 with fail
 go_cut [] from 15 (fun wc=>FS X fb mb AB bs.length cB o1 wc∧Fl X w wc∧Blk wc w.heap.size 77 (Q0r x A1 a1 A2 a2 A3 a3)∧Blk wc (w.heap.size+1) 77 Q2g∧Blk wc (w.heap.size+2) 77 #[.int .i64 x.kind,.bool x.goal,.string s,.slice none 0 0,.slice none 0 0,.bool x.acc,.slice none 0 0])
 · by_cases he:x.id.toList = []
   · have k1:(!x.id.toList.isEmpty)=false:=by simp [he]
     have O4:=xm.o;rw [idH,if_pos he] at O4;injection O4 with h1 h2;subst h1 h2;clear he;rw [k1];go_wp2_with fail;go_meet
     case rel=>exact ⟨HS.o.new_ HB.o,Fl.of_new HB.o,HX.o,HR.o,HO.o⟩
   have k1:(!x.id.toList.isEmpty)=true:=by simp [he]
   have xm:=hU (show s=(ofV ns bs x.id own).1.1∧o1=(ofV ns bs x.id own).2 by
    have O4:=xm.o;rw [idH,if_neg he] at O4;injection O4 with h1 h2
    exact ⟨h1,h2⟩)
   have hc:=Zq1 HF.o.nm HF.o.mkr HF.o.le HF.o.rd x.id W3 (HS.o.new_ HB.o) Ya;rw [←xm.o.1,←xm.o.2] at hc;obtain ⟨q,hq⟩:∃q,q=(ofV ns bs x.id own).1.2:=⟨_,rfl⟩;rw [←hq] at hc;have HC:=hU hc;clear hc hq he;rw [k1];go_wp2_with fail;refine HC.o.mono ?_;rintro e w4 ⟨rfl,Eb,M0⟩;have ya:=hU (M0.blk HX.o Yc Yc);have pq:=hU (M0.blk HR.o Yc Yc);have zu:=hU (M0.blk HO.o Yc Yc);have HS4:=hU (Eb.set_ (i:=2) zu.o (by have:=HS.o.bel.size;omega) Yc Yc (.string s));have ae:=hU (((Fl.of_new (X:=X) HB.o).trans M0).setCell (p:=⟨w.heap.size+2,2,none⟩) (.inr Ye) (.string s));have u2:=(zu.o.cell 2).trans rfl;have f2:=zu.o.frozen 2;have uz:=zu.o.lt;clear Eb M0 q0 q1 q2 q3 q4 q5 q6 qz k1;go_wp2_with fail;go_meet
   case rel=>exact ⟨HS4.o,ae.o,ya.o.far Ye _,pq.o.far Ye _,zu.o.set_ 2 _⟩
 obtain ⟨hs,hf,hx,hr,Bl⟩:=hcut;obtain ⟨⟨la,o2⟩,zj⟩:∃r,r=mapS (Z3f ns bs) x.attr o1:=⟨_,rfl⟩;obtain ⟨⟨lv,o3⟩,Pe⟩:∃r,r=mapS (Z3f ns bs) x.value o2:=⟨_,rfl⟩;have X4:=Z3p ns bs x.attr o1;have ho3:=Z3p ns bs x.value o2;rw [←zj] at X4;rw [←Pe] at ho3;simp only at X4 ho3
 have HCG:=hU (show Zd5 ns bs f x own=(.mk x.kind x.goal s la lv x.acc (mapS f x.conds o3).1,(mapS f x.conds o3).2) by
  unfold Zd5;simp only
  rw [←xm.o,←zj,←Pe])
 have rt:=hU (show w.heap.size+3≤wc.heap.size by have:=hr.lt;have:=Bl.lt;omega);have pr:=hU (Zet HF.o A1 a1 x.attr G1.o HT1.o wc hs Ya);rw [←zj] at pr;have HX:=hU hx;have HR:=hU hr;have HO:=hU Bl;have Tm:=hU hf;have HXS:=hU hs.bel.size;have p3:=(hx.cell 3).trans rfl;have pz:=hx.lt;clear hs hf hx hr Bl zj q0 q1 q2 q3 q4 q5 q6 qz;go_wp2_with fail;refine pr.o.mono ?_;rintro e w4 ⟨B1,d1,rfl,ti,Eb,M0⟩;have r4:=ti.rowN Yc Yc;have zu:=hU (M0.blk HO.o Yc Yc);have u3:=(zu.o.cell 3).trans rfl;have f3:=zu.o.frozen 3;have uz:=zu.o.lt;obtain ⟨W4,rj⟩:∃W,W=w4.setCell ⟨w.heap.size+2,3,none⟩ (.slice B1 la.length d1):=⟨_,rfl⟩;(have V6:GF X (w.heap.size+2) wc W4:=by rw [rj];exact (M0.gf _).set_ 3 _);(have I1:GF X (w.heap.size+2) w4 W4:=by rw [rj];exact ((Fl.refl X w4).gf _).set_ 3 _);have dh:=hU V6;have Cx:=hU (r4.gf I1 (by have:=rt.o;omega));have ya:=hU (V6.blk HX.o Yc Yc Ya);have pq:=hU (V6.blk HR.o Yc Yc Ya);have V0:=hU (show Blk W4 (w.heap.size+2) 77 #[.int .i64 x.kind,.bool x.goal,.string s,.slice B1 la.length d1,.slice none 0 0,.bool x.acc,.slice none 0 0] by rw [rj];exact zu.o.set_ 3 _);(have Ef:FS X fb mb AB bs.length cB o2 W4:=by rw [rj];exact Eb.set_ zu.o (by have:=tx.o;omega) Yc Yc _);have ij:=hU (Zet HF.o A2 a2 x.value G2.o Ei.o W4 Ef Ya);rw [←Pe] at ij;clear ti Eb M0 r4 V6 I1 Ef Pe p3 pz;go_upto_region 5 with fail;rw [←rj];clear rj u3 f3 uz;have p4:=(ya.o.cell 4).trans rfl;have pz:=ya.o.lt;go_wp2_with fail;refine ij.o.mono ?_;rintro e w6 ⟨B2,d2,rfl,lz,Us,Fk⟩;have r6:=lz.rowN Yc Yc;have Cy:=hU (Fk.blk V0.o Yc Yc)
 have u4:=(Cy.o.cell 4).trans rfl;have f4:=Cy.o.frozen 4;have uz:=Cy.o.lt;obtain ⟨W6,xy⟩:∃W,W=w6.setCell ⟨w.heap.size+2,4,none⟩ (.slice B2 lv.length d2):=⟨_,rfl⟩;(have kr:GF X (w.heap.size+2) W4 W6:=by rw [xy];exact (Fk.gf _).set_ 4 _);(have zq:GF X (w.heap.size+2) w6 W6:=by rw [xy];exact ((Fl.refl X w6).gf _).set_ 4 _);have HG6:=hU (dh.o.trans kr);have hzc:wc.heap.size≤W4.heap.size:=dh.o.size;have Cx:=hU (Cx.o.gf kr (by have:=rt.o;omega));have Dh:=hU ((r6.gf zq (by have:=rt.o;omega)).nbUp hzc);have D0:=hU (kr.blk ya.o Yc Yc Ya);have fc:=hU (kr.blk pq.o Yc Yc Ya);have Cy:=hU (show Blk W6 (w.heap.size+2) 77 #[.int .i64 x.kind,.bool x.goal,.string s,.slice B1 la.length d1,.slice B2 lv.length d2,.bool x.acc,.slice none 0 0] by rw [xy];exact Cy.o.set_ 4 _);have T9:=hU (show FS X fb mb AB bs.length cB o3 W6 by rw [xy];exact Us.set_ (Fk.blk V0.o Yc Yc) (by have:=tx.o;omega) Yc Yc _);have HZ6:=hU (show wc.heap.size≤W6.heap.size from HG6.o.size);clear lz Us Fk r6 kr zq hzc p4 pz;go_upto_region 6 with fail;rw [←xy];clear xy u4 f4 uz;have p6:=(D0.o.cell 6).trans rfl;have pz:=D0.o.lt;obtain ⟨j0,E6,ye,Xh,L7⟩:=infp Z7x;go_wp2_with fail;clear p6 pz;have Nh:o3.length+(x.conds.map sz).sum≤100000:=Ya
 go_loopw [39] (fun v W=>∃(k:Nat) (p:List Z0a×List Z0t) (A:Option Addr) (c:Nat),v = .int .i64 k∧k≤x.conds.length∧p=mapS f (x.conds.take k) o3∧p.2.length+((x.conds.drop k).map sz).sum≤100000∧LsC (Z09 n) 77 (fun _=>False) (BF X) W6.heap.size W.heap.size p.1 A c W∧FS X fb mb AB bs.length cB p.2 W∧GF X (w.heap.size+2) W6 W∧
  Blk W (w.heap.size+2) 77 #[.int .i64 x.kind,.bool x.goal,.string s,.slice B1 la.length d1,.slice B2 lv.length d2,.bool x.acc,.slice A p.1.length c]) (fun v W=>x.conds.length - (intOf v).toNat)
 case atStart=>exact ⟨0,([],o3),none,0,rfl,Nat.zero_le _,rfl,Nh,LsC.nil _ _ _ (Zsu _) (fun j hj=>hj.elim),T9.o,(Fl.refl X W6).gf _,Cy.o⟩
 case round=>
  obtain ⟨k,⟨out,js⟩,A,c,rfl,hk,hp,Ib,bf,Cl,Ip,hox⟩:=hrel;simp only at bf Cl hox Ib;have HP:=hU hp;have Lf:=hU bf;have R0:=hU Cl;have Rb:=hU Ip;have HOX:=hU hox;have HSU:=hU Ib;have ji:=hU (show out.length=k from YZv);have hz:=Ip.size;clear hp bf Cl Ip hox Ib Nh;by_cases hlt:k<x.conds.length
  · obtain ⟨m,hm⟩:∃m,n=m+1:=by
     cases n with
     | zero=>have h0:=row0 G3.o;rw [h0] at hlt;simp at hlt
     | succ m=>exact ⟨m,rfl⟩
    subst hm;obtain ⟨y,hy⟩:∃y,y=x.conds[k]:=⟨_,rfl⟩;obtain ⟨g,off,C1,c1,C2,c2,C3,c3,rfl,_,Fu,q0,q1,q2,q3,q4,q5,q6,r1,r2,r3⟩:=Z31 G3.o hlt;rw [←hy] at q0 q1 q2 q3 q4 q5 q6 r1 r2 r3;have im:=R0.o.bel;have q0:=(im.cell (p:=⟨g,off+k*7,none⟩) Fu).trans q0;have q1:=(im.cell (p:=⟨g,off+k*7+1,none⟩) Fu).trans q1;have q2:=(im.cell (p:=⟨g,off+k*7+2,none⟩) Fu).trans q2;have q3:=(im.cell (p:=⟨g,off+k*7+3,none⟩) Fu).trans q3;have q4:=(im.cell (p:=⟨g,off+k*7+4,none⟩) Fu).trans q4;have q5:=(im.cell (p:=⟨g,off+k*7+5,none⟩) Fu).trans q5;have q6:=(im.cell (p:=⟨g,off+k*7+6,none⟩) Fu).trans q6;have Fu:=Zsw Fu im.size;(have Tl:x.conds.drop k=y :: x.conds.drop (k+1):=by rw [hy];exact Ztt hlt);have hsu:=HSU.o;rw [Tl,List.map_cons,List.sum_cons] at hsu;obtain ⟨z,Aj⟩:∃z,z=Z6o ns bs m y js:=⟨_,rfl⟩;have hzl:=Zd6 ns bs m y js;rw [←Aj] at hzl;obtain ⟨hf1,Ob⟩:=Re.o m rfl;rw [Ob] at hsu;have Wh:=hU (show z.2.length+((x.conds.drop (k+1)).map sz).sum≤100000 by rw [Ob];omega);have If:=hU (fun W (hW:FS X fb mb AB bs.length cB js W)=>IH.o m rfl DX y C1 c1 C2 c2 C3 c3 js W r1 r2 r3 (j8.o y (by rw [hy];exact Ztf hlt)) hW Ya);rw [←Aj] at If;have HN:=hU (show (out ++ [z.1],z.2)=mapS f (x.conds.take (k+1)) o3 by rw [Zdx _ _ _ _ hlt,←HP.o,←hy,hf1,Aj]);refine Y5s ?_;intro e1 e2;clear hy im r1 r2 r3 Tl hsu Aj hzl hf1 Ob;go_upto_region 9 with fail;obtain ⟨W5,wv⟩:∃W,W=wr.alloc (.cells (Q0r y C1 c1 C2 c2 C3 c3) 77):=⟨_,rfl⟩;have ww:Below wr.heap.size wr W5:=YFf;have HY5:=hU (show Blk W5 wr.heap.size 77 (Q0r y C1 c1 C2 c2 C3 c3) from YOa);have K8:=hU (R0.o.new_ ww);have HL5:=hU (Lf.o.new_ (BF.not X Yc Yc) ww);have vy:=hU (HOX.o.new_ ww);have Vu:=hU (show wr.heap.size≤W5.heap.size∧W6.heap.size≤wr.heap.size from ⟨ww.size,hz⟩);have HG5:=hU (Rb.o.trans ((Fl.of_new (X:=X) ww).gf _))
    have il:=hU (show ∀w9,Fl X W5 w9→w9.cell? ⟨w.heap.size+2,6,none⟩=some (.slice A out.length c)∧w.heap.size+2<w9.heap.size∧w9.cell? ⟨wr.heap.size,0,none⟩=some (.int .i64 y.kind)∧w9.cell? ⟨wr.heap.size,1,none⟩=some (.bool y.goal)∧w9.cell? ⟨wr.heap.size,2,none⟩=some (.string y.id)∧w9.cell? ⟨wr.heap.size,3,none⟩=some (.slice C1 y.attr.length c1)∧w9.cell? ⟨wr.heap.size,4,none⟩=some (.slice C2 y.value.length c2)∧w9.cell? ⟨wr.heap.size,5,none⟩=some (.bool y.acc)∧w9.cell? ⟨wr.heap.size,6,none⟩=some (.slice C3 y.conds.length c3)∧wr.heap.size<w9.heap.size from fun w9 hw9=>by
     have h1:=hw9.blk vy.o Yc Yc;have h2:=hw9.blk HY5.o Yc Yc;obtain ⟨m0,m1,m2,m3,m4,m5,m6⟩:=h2.c7
     exact ⟨(h1.cell 6).trans rfl,h1.lt,m0,m1,m2,m3,m4,m5,m6,h2.lt⟩)
    rw [←wv];clear wv ww q0 q1 q2 q3 q4 q5 q6 hz Fu;refine Z03 (fun w9=>Fl X W5 w9) [(0,0),(1,1),(2,0),(3,1),(4,2),(5,2),(6,2),(7,0),(8,2)] Yb Yb (fun KK hKK=>?_);refine Y9j ?_;(repeat ((first|(refine Z05 ?_ (Or.inl ⟨Yd,fun w9=>?_⟩) ?_;rotate_left 1;go_simp;with_reducible rfl)|(refine Z04 ?_ (((Fl.refl X W5).drew)) (Or.inl ⟨Yd,fun w9 hw9=>?_⟩) ?_;rotate_left 1;obtain ⟨n6,gl5,m0,m1,m2,m3,m4,m5,m6,ml⟩:=il.o w9 hw9;go_simp;with_reducible rfl)|refine Z05 undef (Or.inr ⟨Yd,rfl⟩) ?_|refine Z04 undef (((Fl.refl X W5).drew)) (Or.inr ⟨Yd,rfl⟩) ?_);go_frame));refine Ysm ?_;intro K9 hK9;refine (If.o _ K8.o.drew_).mono ?_;rintro e wa ⟨Y1,y1,Y2,y2,Y3,y3,rfl,r1,r2,r3,Sr,Pu⟩;have ek:=hU (show Fl X W5 wa from Fl.trans (Fl.refl X W5).drew Pu);have R1:=hU r1;have R2:=hU r2;have R3:=hU r3;have fm:=hU Sr;clear r1 r2 r3 Sr Pu;refine hK9 _ _ ek.o ?_;clear hK9 K9;refine Ysm ?_;intro K9 hK9;have Fj:=hU (show Fl X W5 (wa.alloc (.cells (Q0r z.1 Y1 y1 Y2 y2 Y3 y3) 77)) from ek.o.alloc _);refine hK9 _ _ Fj.o ?_;clear hK9 K9;refine Z1m Yb (fun K9 hK9=>?_);have Ct:Below wa.heap.size wa (wa.alloc (.cells (Q0r z.1 Y1 y1 Y2 y2 Y3 y3) 77)):=(Zst _ _).alloc (Zsu _) _;have zr:=hU ((HL5.o.fl ek.o Yc Yc).new_ (BF.not X Yc Yc) Ct);have Oo:=hU (Z64 (n:=m) (y:=z.1) (R1.o.nb (Fl.of_new Ct)) (R2.o.nb (Fl.of_new Ct)) (R3.o.nb (Fl.of_new Ct)));have Ff:=hU (show W6.heap.size≤((wa.alloc (.cells (Q0r z.1 Y1 y1 Y2 y2 Y3 y3) 77))).heap.size by have:=ek.o.size;have:=Ct.size;have:=Vu.o.1;have:=Vu.o.2;omega);have sl:=hU (show ∀j,NB X W5 (wa.alloc (.cells (Q0r z.1 Y1 y1 Y2 y2 Y3 y3) 77)) j→(False∨(W6.heap.size≤j∧wr.heap.size≤j∧j<((wa.alloc (.cells (Q0r z.1 Y1 y1 Y2 y2 Y3 y3) 77))).heap.size))∧¬BF X j ((wa.alloc (.cells (Q0r z.1 Y1 y1 Y2 y2 Y3 y3) 77))).heap[j]? from fun j hj=>⟨.inr ⟨by have:=hj.1.1;have:=Vu.o.1;have:=Vu.o.2;omega,by have:=hj.1.1;have:=Vu.o.1;have:=Vu.o.2;omega,hj.1.2⟩,hj.2⟩);have Gg:=hU (fm.o.new_ Ct);have xx:=hU (show Fl X W5 (wa.alloc (.cells (Q0r z.1 Y1 y1 Y2 y2 Y3 y3) 77)) from Fj.o);refine Zcr _ rfl _ _ 26 rfl 77 j0 _ 7 112 Tryz.underlying26 E6 ye Xh L7 rfl rfl Ya zr.o Ff.o rfl ⟨wa.heap.size,0,none⟩ 1 z.1 (Q0q z.1 Y1 y1 Y2 y2 Y3 y3) rfl (Zte (heap_alloc_new _ _)) (by intro u hu;simp only [Ztb,Zth,or_false] at hu;rcases hu with rfl|rfl|rfl|rfl|rfl|rfl|rfl<;>rfl) _ sl.o Oo.o YY4 (by rw [ji.o];omega) ?_;intro A' c' w9 hL hA;have mr:=hU hL
    have Mv:=hU (Gg.o.frT hA (fun j hj=>by
     obtain ⟨h1,h2,cur,h3⟩:=zr.o.obj j hj
     exact ⟨Zt6 T9.o.bel.size h1,fun _=>YFe⟩))
    have yg:=hU (show GF X (w.heap.size+2) W6 w9 from Fr.into (HG5.o.trans (xx.o.gf _)) hA (fun j hj=>.inr (zr.o.obj j hj).1));have lq:=hU ((xx.o.blk vy.o Yc Yc).fr hA (fun hj=>by have:=(zr.o.obj _ hj).1;have:=rt.o;have:=HZ6.o;omega));have u6:=(lq.o.cell 6).trans rfl;have f6:=lq.o.frozen 6;have gl9:=lq.o.lt;clear Ct hL hA;refine Y8n ?_;clear hK9 K9;(repeat ((first|(refine Z05 ?_ (Or.inl ⟨Yd,fun w9=>?_⟩) ?_;rotate_left 1;go_simp;with_reducible rfl)|(refine Z04 ?_ (Fj.o) (Or.inl ⟨Yd,fun w9 hw9=>?_⟩) ?_;rotate_left 1;obtain ⟨n6,gl5,m0,m1,m2,m3,m4,m5,m6,ml⟩:=il.o w9 hw9;go_simp;with_reducible rfl)|refine Z05 undef (Or.inr ⟨Yd,rfl⟩) ?_|refine Z04 undef (Fj.o) (Or.inr ⟨Yd,rfl⟩) ?_);go_frame));refine Y1l ?_;clear hKK KK;have e3:(out ++ [z.1]).length=out.length+1:=Ye;have HKF:=hU (show Blk (w9.setCell ⟨w.heap.size+2,6,none⟩ (.slice A' (out.length+1) c')) (w.heap.size+2) 77 #[.int .i64 x.kind,.bool x.goal,.string s,.slice B1 la.length d1,.slice B2 lv.length d2,.bool x.acc,.slice A' (out ++ [z.1]).length c'] by rw [e3];exact lq.o.set_ 6 _);have HLE:=hU ((mr.o.keep (w':=w9.setCell ⟨w.heap.size+2,6,none⟩ (.slice A' (out.length+1) c')) (BF.not X Yc Yc) Ye (fun j _ hd _=>Below.heap_setCell _ _ _ _ (by have:=HZ6.o;have:=rt.o;rcases hd with h|h;exact h.elim;simp;omega))).up (b':=(w9.setCell ⟨w.heap.size+2,6,none⟩ (.slice A' (out.length+1) c')).heap.size) Ye (Zsu _));have og:=hU (Mv.o.set_ (i:=6) lq.o (by have:=tx.o;omega) Yc Yc (.slice A' (out.length+1) c'));have gj:=hU (yg.o.set_ 6 (.slice A' (out.length+1) c'));clear u6 f6 gl9 e3;go_wp2_with fail;go_roundw
    case rel=>exact ⟨k+1,(out ++ [z.1],z.2),A',c',Yn,Ya,HN.o,Wh.o,HLE.o,og.o,gj.o,HKF.o⟩
    case measure=>simp [intOf]<;>omega
  · obtain rfl:k=x.conds.length:=by omega
    have HE:=hU (show (out,js)=mapS f x.conds o3 by rw [HP.o,Ztc]);have hw:=Zst w.heap.size w;have Kd:=hU (Rb.o.blk fc.o Yc Yc Ya);have HT:=hU (show wr.there (w.heap.size+1) 0 (#[.int .i64 x.kind,.bool x.goal,.string s,.slice B1 la.length d1,.slice B2 lv.length d2,.bool x.acc,.slice A out.length c]:Array Value).size from Kd.o.there);have ly:=hU (show wr.rangeAt (w.heap.size+2) 0 [.int .i64 x.kind,.bool x.goal,.string s,.slice B1 la.length d1,.slice B2 lv.length d2,.bool x.acc,.slice A out.length c] from by have:=HOX.o.range;exact this);clear hw
    go_wp2_with (first
     | (with_reducible refine wpList_load_mid rfl 77 _ rfl (w.heap.size+2) 0 rfl _ _ ly.o Tryz.underlying77 rfl Yb ?_)
     | (with_reducible refine wpList_store_mid rfl 77 _ _ rfl (w.heap.size+1) 0 #[.int .i64 x.kind,.bool x.goal,.string s,.slice B1 la.length d1,.slice B2 lv.length d2,.bool x.acc,.slice A out.length c] rfl rfl HT.o Yb Yb ?_))
    refine Ykv ?_;refine bodyPost_ret (v:=.agg #[.int .i64 x.kind,.bool x.goal,.string s,.slice B1 la.length d1,.slice B2 lv.length d2,.bool x.acc,.slice A out.length c]) ?_ rfl ?_
    · exact Z1j (t:=4) (T:=77) rfl _ _ (w.heap.size+1) [.int .i64 x.kind,.bool x.goal,.string s,.slice B1 la.length d1,.slice B2 lv.length d2,.bool x.acc,.slice A out.length c] _ rfl (Zsy _ _ _ _ HT.o) Tryz.underlying77 rfl Yb
    · have hz:=rt.o
      have hz6:=HZ6.o;have hg:GF X (w.heap.size+1) wr (wr.setCells (w.heap.size+1) 0 [.int .i64 x.kind,.bool x.goal,.string s,.slice B1 la.length d1,.slice B2 lv.length d2,.bool x.acc,.slice A out.length c]):=Fr.cells (g:=w.heap.size+1) (.inl (.inr rfl)) _ 0 (Fr.refl _ _);rw [HCG.o,←HE.o];exact ⟨B1,d1,B2,d2,A,c,rfl,((Cx.o.gf Rb.o Ya).gf hg Ya).nbUp Ya,((Dh.o.gf Rb.o Ya).gf hg Ya).nbUp Ya,((Lf.o.rowN Yc Yc).gf hg Ya).nbUp Ya,R0.o.cells Kd.o (by have:=tx.o;omega) Yc Yc 0 _,GF.fl (GF.fl Tm.o (HG6.o.trans Rb.o) Ya) hg Ya⟩
theorem Zgz {X:World}{fb mb nb:Nat}{D:Nat→Prop}{ns:List Sym}{bs:List Z0t}{AB:Option Addr}{cB:Nat}(hF:Fill X mb nb D ns bs AB cB):∀n,Zez X fb mb ns bs AB cB n
 | 0=>Zay hF 0 (fun m h=>Ya)
 | n+1=>Zay hF (n+1) (fun m h=>by obtain rfl:m=n:=by omega
                                  exact Zgz hF m)
end
section
open Go.RowKit Go.Shelf
attribute [local go_sem] Oper.semAt_some
set_option maxRecDepth 100000
set_option maxHeartbeats 8000000
theorem Zrk (n:Nat) (x:Z0a):1≤szH n x:=by cases n<;>simp only [szH]<;>omega
theorem Z9f :∀(n d:Nat) (x:Z0a),(Z17 (n+1) d [x]).length≤szH n x
 | 0,d,x=>by rw [Z5p];have:Z17 0 (d+1) x.conds = []:=by cases x.conds<;>rfl
             simp [this];exact Zrk 0 x
 | n+1,d,x=>by
   rw [Z5p]
   have h :∀l:List Z0a,(Z17 (n+1) (d+1) l).length≤(l.map (szH n)).sum:=fun l=>by
    rw [Z5p];refine Zer _ _ l (fun c _=>?_);have:=Z9f n (d+1) c;rw [Z5p] at this;simpa using this
   have:=h x.conds;simp only [List.map_cons,List.map_nil,List.sum_cons,List.sum_nil,szH];omega
theorem Zsf {n:Nat}{x y:Z0a}(hy:y∈x.conds):szH n y≤szH (n+1) x:=by
 have h :∀l:List Z0a,y∈l→szH n y≤(l.map (szH n)).sum:=fun l=>by
  induction l with
  | nil=>intro h;cases h
  | cons c l ih=>
    intro h;rw [List.map_cons,List.sum_cons];rcases Ztb.1 h with rfl|h
    · omega
    · have:=ih h;omega
 have:=h x.conds hy;rw [szH];omega
abbrev Zbi (n:Nat):Prop:=∀(D:Nat→Prop) (x:Z0a) (deep:Nat) (A1:Option Addr) (a1:Nat) (A2:Option Addr) (a2:Nat) (A3:Option Addr) (a3:Nat) (w:World),
 RowR Z07 D w A1 a1 x.attr→RowR Z07 D w A2 a2 x.value→RowR (Z09 n) D w A3 a3 x.conds→(∀k,D k→k<w.heap.size)→szH n x≤100000→n+deep≤100000→
 Calls Tryz.prog 111 #[.agg (Q0r x A1 a1 A2 a2 A3 a3),.int .i64 (deep:Int)] w fun e w'=>EqB (Z45 n deep x) e∧Below w.heap.size w w'
theorem Zfi {n deep:Nat}{x:Z0a}(hk :¬x.kind=3):Z45 n deep x↔(Z2e (n+1) ⟨⟨#[120]⟩,[x],[actX]⟩).2=0:=by cases n<;>rw [Z45,if_neg hk]
theorem Zfh {n deep:Nat}{x:Z0a}(hk:x.kind=3) (h0:n=0→x.conds = []):∃f:Z0a→Prop,(∀m,n=m+1→f=Z45 m (deep+1))∧(Z45 n deep x↔¬badA x deep∧∀y∈x.conds,f y):=by
 cases n with
 | zero=>exact ⟨fun _=>True,fun m h=>Ya,by rw [Z45,if_pos hk,h0 rfl];simp⟩
 | succ m=>exact ⟨Z45 m (deep+1),fun k h=>by rw [show k=m from Ya],by rw [Z45,if_pos hk]⟩
theorem Zmu {α:Type}{size:Nat}{cells:α→List Value}{hs :∀a,(cells a).length=size}{D':Nat→Prop}{W:World}{g:Nat}{t:TypeId}{y:α}(hb:Blk W g t (cells y).toArray) (hg:D' g):RowR (RepT.flat size cells hs) D' W (some ⟨g,0,none⟩) 1 [y]:=by
 refine ⟨Zsu _,Yc,fun _=>⟨g,0,rfl,hg,hb.lt,fun k hk=>?_⟩⟩;(obtain rfl:k=0:=YUq);refine ⟨_,rfl,fun j u hu=>?_⟩;rw [show 0+0*(RepT.flat size cells hs).size+j=j from Ya,hb.cell];simpa using hu
theorem Z9w (n:Nat) (ih :∀m,n=m+1→Zbi m):Zbi n:=by
 intro D x deep A1 a1 A2 a2 A3 a3 w g1 g2 g3 hD hz hn;have hac:=g3.cap;have h1c:=g1.cap;have h2c:=g2.cap;refine Ys5 ?_;intro G1 G2 G3;have IH:=hU ih;have HD:=hU hD;have xp:=hU hz;clear g1 g2 g3 ih hD hz;go_enter Tryz.func111,Tryz.ntmps111;go_upto_region 1 with fail;obtain ⟨W1,Wo⟩:∃W,W=w.alloc (.cells (Q0r x A1 a1 A2 a2 A3 a3) 77):=⟨_,rfl⟩;have HB:=hU (show Below w.heap.size w W1 from YD4);have HX:=hU (show Blk W1 w.heap.size 77 (Q0r x A1 a1 A2 a2 A3 a3) from YBf);rw [←Wo];clear Wo;obtain ⟨q0,q1,q2,q3,q4,q5,q6⟩:=HX.o.c7;have qz:=HX.o.lt;by_cases hk:x.kind=3
 case neg=>
  have k1:(x.kind != 3)=true:=YCl;have HV:=hU (Zfi (n:=n) (deep:=deep) hk);clear hk;go_upto_region 4 with fail;simp only [Zub,Nat.reduceAdd];obtain ⟨W5,wv⟩:∃W,W=(((W1.alloc (.cells Q3a 177)).alloc (.cells (Q0r x A1 a1 A2 a2 A3 a3) 77)).alloc (.cells #[.string ⟨#[120]⟩,.string ⟨#[]⟩,.int .i64 2,.string ⟨#[]⟩,.int .i64 1,.int .i64 0,.string ⟨#[]⟩,.int .i64 2,.string ⟨#[]⟩,.int .i64 1,.string ⟨#[]⟩,.int .i64 0,.string ⟨#[]⟩,.int .i64 0,.int .i64 1,.string ⟨#[]⟩,.int .i64 0,.string ⟨#[]⟩,.int .i64 0] 181)).alloc (.cells #[.string ⟨#[120]⟩,.slice (some ⟨W1.heap.size+1,0,none⟩) 1 1,.slice (some ⟨W1.heap.size+2,0,none⟩) 1 1] 29):=⟨_,rfl⟩;(have ww:Below W1.heap.size W1 W5:=by rw [wv];exact Below.al (Below.al (Below.al (Below.al (Zst _ _) _) _) _) _);have Xp:=hU (HB.o.trans (ww.mono HB.o.size));(have zc:Blk W5 (W1.heap.size+1) 77 (Q0r x A1 a1 A2 a2 A3 a3):=by rw [wv];have hh:=((Blk.new (W1.alloc (.cells Q3a 177)) 77 (Q0r x A1 a1 A2 a2 A3 a3)).alloc (.cells #[.string ⟨#[120]⟩,.string ⟨#[]⟩,.int .i64 2,.string ⟨#[]⟩,.int .i64 1,.int .i64 0,.string ⟨#[]⟩,.int .i64 2,.string ⟨#[]⟩,.int .i64 1,.string ⟨#[]⟩,.int .i64 0,.string ⟨#[]⟩,.int .i64 0,.int .i64 1,.string ⟨#[]⟩,.int .i64 0,.string ⟨#[]⟩,.int .i64 0] 181)).alloc (.cells #[.string ⟨#[120]⟩,.slice (some ⟨W1.heap.size+1,0,none⟩) 1 1,.slice (some ⟨W1.heap.size+2,0,none⟩) 1 1] 29);simp only [Zti] at hh;exact hh);(have ha5:Blk W5 (W1.heap.size+2) 181 (ActT.cells actX).toArray:=by rw [wv];have hh:=(Blk.new ((W1.alloc (.cells Q3a 177)).alloc (.cells (Q0r x A1 a1 A2 a2 A3 a3) 77)) 181 #[.string ⟨#[120]⟩,.string ⟨#[]⟩,.int .i64 2,.string ⟨#[]⟩,.int .i64 1,.int .i64 0,.string ⟨#[]⟩,.int .i64 2,.string ⟨#[]⟩,.int .i64 1,.string ⟨#[]⟩,.int .i64 0,.string ⟨#[]⟩,.int .i64 0,.int .i64 1,.string ⟨#[]⟩,.int .i64 0,.string ⟨#[]⟩,.int .i64 0]).alloc (.cells #[.string ⟨#[120]⟩,.slice (some ⟨W1.heap.size+1,0,none⟩) 1 1,.slice (some ⟨W1.heap.size+2,0,none⟩) 1 1] 29);simp only [Zti,Zub,Nat.reduceAdd] at hh;exact hh);(have hp5:Blk W5 (W1.heap.size+3) 29 #[.string ⟨#[120]⟩,.slice (some ⟨W1.heap.size+1,0,none⟩) 1 1,.slice (some ⟨W1.heap.size+2,0,none⟩) 1 1]:=by rw [wv];have hh:=Blk.new (((W1.alloc (.cells Q3a 177)).alloc (.cells (Q0r x A1 a1 A2 a2 A3 a3) 77)).alloc (.cells #[.string ⟨#[120]⟩,.string ⟨#[]⟩,.int .i64 2,.string ⟨#[]⟩,.int .i64 1,.int .i64 0,.string ⟨#[]⟩,.int .i64 2,.string ⟨#[]⟩,.int .i64 1,.string ⟨#[]⟩,.int .i64 0,.string ⟨#[]⟩,.int .i64 0,.int .i64 1,.string ⟨#[]⟩,.int .i64 0,.string ⟨#[]⟩,.int .i64 0] 181)) 29 #[.string ⟨#[120]⟩,.slice (some ⟨W1.heap.size+1,0,none⟩) 1 1,.slice (some ⟨W1.heap.size+2,0,none⟩) 1 1];simp only [Zti,Zub,Nat.reduceAdd] at hh;exact hh);have sd:=hp5.lt
  have HC:=hU (Zhu (D:=fun k=>D k∨k=W1.heap.size+1∨k=W1.heap.size+2) ⟨⟨#[120]⟩,[x],[actX]⟩ (n+1) _ _ 1 1 W5 (Zmv zc (G1.o.new_ Xp.o) (G2.o.new_ Xp.o) (G3.o.new_ Xp.o) (fun k hk=>.inl hk) (.inr (.inl rfl))) (Zmu ha5 (.inr (.inr rfl)))
   (fun k hk=>by rcases hk with hk|hk|hk;exact Zsw (HD.o k hk) Xp.o.size;omega;omega) (by have:=Z9f n 0 x;have:=xp.o;show (Z17 (n+1) 0 [x]).length≤_;omega) Ya)
  obtain ⟨q,hq⟩:∃q,q=(Z2e (n+1) ⟨⟨#[120]⟩,[x],[actX]⟩).2:=⟨_,rfl⟩;obtain ⟨q',hq'⟩:∃q,q=(Z2e (n+1) ⟨⟨#[120]⟩,[x],[actX]⟩).1:=⟨_,rfl⟩;rw [←hq,←hq'] at HC;rw [←hq] at HV;obtain ⟨u0,u1,u2⟩:=hp5.c3;rw [←wv];clear wv ww zc ha5 hp5 q0 q1 q2 q3 q4 q5 q6 qz hq hq' k1;go_wp2_with fail;refine HC.o.mono ?_;rintro e w6 ⟨rfl,hb⟩;have gi:=hU (Xp.o.trans (hb.mono Xp.o.size));clear u0 u1 u2 sd hb;go_wp2_with fail;go_ret;exact ⟨⟨q == 0,rfl,by rw [HV.o];simp⟩,gi.o⟩
 obtain ⟨f,hf,hV⟩:=Zfh (n:=n) (deep:=deep) hk (fun h0=>by subst h0;exact row0 G3.o);have HF:=hU hf;have HV:=hU hV;have k1:(x.kind != 3)=false:=YCl;clear hf hV;have a0:decide ((0:Int)<(x.attr.length:Int))=decide (0<x.attr.length):=Ye;have v0:decide ((0:Int)<(x.value.length:Int))=decide (0<x.value.length):=Ye;by_cases ha:0<x.attr.length<;>by_cases hv:0<x.value.length<;>simp only [ha,hv,decide_true,decide_false] at a0 v0<;>go_wp2_with fail
 all_goals first
  | (go_ret;exact ⟨EqB.no (fun h=>(HV.o.1 h).1 (by unfold badA;first|(simp_all;done)|(simp_all;omega))),HB.o⟩)
  | skip
 have HNB:=hU (show ¬badA x deep by unfold badA;first|(simp_all;done)|(simp_all;omega));rename_i h1 h2 h3 h4 h5 K9 a9;clear q0 q1 q2 q3 q4 q5 q6 qz a0 v0 k1 h1 h2 h3 h4 h5 ha hv hk
 go_loopw [67] (fun s W=>∃k:Nat,s = .int .i64 k∧k≤x.conds.length∧(∀y∈x.conds.take k,f y)∧Below w.heap.size w W) (fun s W=>x.conds.length - (intOf s).toNat)
 case atStart=>exact ⟨0,rfl,Nat.zero_le _,(fun y hy=>by cases hy),HB.o⟩
 case round=>
  obtain ⟨k,rfl,hk,uu,L0⟩:=hrel;have T7:=hU L0;have U7:=hU uu;clear L0 uu;by_cases sd:k<x.conds.length
  · obtain ⟨m,hm⟩:∃m,n=m+1:=by
     cases n with
     | zero=>have h0:=row0 G3.o;rw [h0] at sd;simp at sd
     | succ m=>exact ⟨m,rfl⟩
    subst hm;obtain ⟨u,hu⟩:∃u,u=x.conds[k]:=⟨_,rfl⟩;obtain ⟨g,off,C1,c1,C2,c2,C3,c3,rfl,_,hgs,q0,q1,q2,q3,q4,q5,q6,r1,r2,r3⟩:=Z31 (G3.o.new_ T7.o) sd;rw [←hu] at q0 q1 q2 q3 q4 q5 q6 r1 r2 r3;(have dc:u∈x.conds:=by rw [hu];exact Ztf sd);refine Y5s ?_;intro e1 e2;have v1:IntKind.i64.wrap ((deep:Int)+1)=((deep+1:Nat):Int):=YL9;refine Yzg ?_;intro W5 wv;have ww:Below wr.heap.size wr W5:=YFf;have Xp:=hU (T7.o.trans (ww.mono T7.o.size));have iq:Blk W5 wr.heap.size 77 (Q0r u C1 c1 C2 c2 C3 c3):=YOa;have HC:=hU (IH.o m rfl D u (deep+1) C1 c1 C2 c2 C3 c3 W5 (r1.new_ ww) (r2.new_ ww) (r3.new_ ww) (fun j hj=>Zsw (HD.o j hj) Xp.o.size) (by have:=Zsf (n:=m) dc;have:=xp.o;omega) Ya);have Tm:=hU (HF.o m rfl)
    have jc:=hU (show f u→∀y∈x.conds.take (k+1),f y from fun h y hy=>by
     rw [Ztq,Zt3 sd,←hu] at hy;rcases Ztu.1 hy with h1|h1
     · exact U7.o y h1
     · simp at h1;rw [h1];exact h)
    have V7:=hU (show ¬f u→¬Z45 (m+1) deep x from fun h h2=>h ((HV.o.1 h2).2 u dc));have o9:=hU wv;clear hu wv dc;go_upto_region 11 with fail;rw [←o9.o];clear o9;obtain ⟨m0,m1,m2,m3,m4,m5,m6⟩:=iq.c7;have mz:=iq.lt;clear ww iq q0 q1 q2 q3 q4 q5 q6 r1 r2 r3;go_wp2_with fail;refine HC.o.mono ?_;rintro e w6 ⟨⟨z,rfl,hz⟩,hb⟩;have HZ:=hU hz;have gi:=hU (Xp.o.trans (hb.mono Xp.o.size));clear hz hb m0 m1 m2 m3 m4 m5 m6 mz v1
    cases z with
    | false=>
      go_wp2_with fail;go_ret;exact ⟨EqB.no (V7.o (fun h=>by rw [Tm.o] at h;have:=HZ.o.2 h;cases this)),gi.o⟩
    | true=>
      have HE:=hU (jc.o (by rw [Tm.o];exact HZ.o.1 Ye));go_wp2_with fail;go_roundw
      case rel=>exact ⟨k+1,Yn,Ya,HE.o,gi.o⟩
      case measure=>simp [intOf]<;>omega
  · obtain rfl:k=x.conds.length:=by omega
    have HR:=hU (show Z45 n deep x from HV.o.2 ⟨HNB.o,by have:=U7.o;rw [Ztc] at this;exact this⟩);go_wp2_with fail;go_ret;exact ⟨EqB.yes HR.o,T7.o⟩
theorem Zdi :∀n,Zbi n
 | 0=>Z9w 0 (fun m h=>Ya)
 | n+1=>Z9w (n+1) (fun m h=>by obtain rfl:m=n:=by omega
                               exact Zdi m)
end
section
open Go.RowKit Go.Shelf
theorem Zdh :∀(ys zs xs:List Value),ys.length=zs.length→(ys.zipIdx xs.length).foldl (fun l (v,j)=>l.set j v) (xs++zs)=xs++ys
 | [],[],xs,_=>rfl
 | y :: ys,z :: zs,xs,h=>by
   have ih:=Zdh ys zs (xs ++ [y]) YIz;rw [List.zipIdx_cons,List.foldl_cons];(have e:(xs++z :: zs).set xs.length y=xs ++ [y]++zs:=by rw [List.set_append_right _ _ (Zsu _)];simp);show List.foldl _ ((xs++z :: zs).set xs.length y) _=_;rw [e,show xs.length+1=(xs ++ [y]).length from Ye,ih,Zu8];rfl
theorem Zph {Y:World}{g n cap size:Nat}{e:TypeId}{xs zs ys:List Value}(hO:Y.ownsRow 0 e size (.slice (some ⟨g,0,none⟩) (n+1) cap) (n+1) (xs++zs)) (hx:xs.length=n*size) (hz:ys.length=zs.length):(Y.setCells g (n*size) ys).ownsRow 0 e size (.slice (some ⟨g,0,none⟩) (n+1) cap) (n+1) (xs++ys):=by
 have h:=Z4k (g:=g) ys (n*size) hO;rw [←hx,Zdh ys zs xs hz] at h;rw [←hx];exact h
structure MH (X:World) (bx:Array Value) (nb mb:Nat) (ns:List Sym) (AO:Option Addr) (eL cO n:Nat) (tags:List Int) (At:Option Addr) (ct:Nat) (D:Nat→Prop) (cs:List Z0a) (AC:Option Addr) (cC:Nat) (w:World):Prop where
 nm:Nm D w nb ns
 dn :∀k,D k→X.heap.size+2≤k
 mkb:Blk w mb 173 #[.pointer (some ⟨nb,0,none⟩),.slice AO eL cO,.slice AC cs.length cC]
 mge:X.heap.size≤mb
 mnd :¬D mb
 pb:PB X bx w
 co :∃C,OwnC (Z09 n) 77 C w (.slice AC cs.length cC) cs∧∀k,C k→X.heap.size≤k∧¬D k∧k<w.heap.size∧k≠X.heap.size+1∧k≠mb
 ca:AIn AC (fun k=>X.heap.size≤k∧¬D k∧k≠X.heap.size+1)
 tg:w.ownsRow 0 3 1 (.slice At tags.length ct) tags.length (tags.flatMap Int.cells1)
 ta:AIn At (fun k=>X.heap.size≤k∧¬D k)
section
variable {X w w':World}{bx:Array Value}{nb mb:Nat}{ns:List Sym}{AO:Option Addr}{eL cO n:Nat}{tags:List Int}{At:Option Addr}{ct:Nat}{D:Nat→Prop}{cs:List Z0a}{AC:Option Addr}{cC:Nat}
theorem MH.bel (h:MH X bx nb mb ns AO eL cO n tags At ct D cs AC cC w):Below X.heap.size X w:=h.pb.bel
theorem MH.new_ (h:MH X bx nb mb ns AO eL cO n tags At ct D cs AC cC w) (hb:Below w.heap.size w w'):MH X bx nb mb ns AO eL cO n tags At ct D cs AC cC w':=by
 obtain ⟨C,h1,h2⟩:=h.co
 exact ⟨h.nm.new_ hb,h.dn,h.mkb.new_ hb,h.mge,h.mnd,h.pb.new_ hb,⟨C,h1.new_ hb,fun k hk=>by
  obtain ⟨g1,g2,g3,g4⟩:=h2 k hk
  exact ⟨g1,g2,Zsw g3 hb.size,g4⟩⟩,h.ca,Z02 h.tg hb,h.ta⟩
theorem MH.row (h:MH X bx nb mb ns AO eL cO n tags At ct D cs AC cC w):RowR (Z09 n) (fun k=>X.heap.size≤k∧¬D k∧k<w.heap.size∧k≠X.heap.size+1) w AC cC cs:=by
 obtain ⟨C,h1,h2⟩:=h.co;refine h1.row (fun k hk=>⟨(h2 k hk).1,(h2 k hk).2.1,(h2 k hk).2.2.1,(h2 k hk).2.2.2.1⟩) (fun a ha=>⟨(h.ca a ha).1,(h.ca a ha).2.1,?_,(h.ca a ha).2.2⟩);exact h1.lt a.block (by rw [ha];rfl)
structure Zsl (X:World) (bx:Array Value) (nb mb:Nat) (ns:List Sym) (AO:Option Addr) (eL cO n:Nat) (tags:List Int) (At:Option Addr) (ct:Nat) (D:Nat→Prop) (cs:List Z0a) (AC:Option Addr) (cC:Nat) (c:Z0a) (cells:List Value) (g c':Nat) (Y:World):Prop where
 th:Y.there g (cs.length*7) 7
 th2:(Y.setCell ⟨mb,2,none⟩ (.slice (some ⟨g,0,none⟩) (cs.length+1) c')).there g (cs.length*7) 7
 c2:Y.cell? ⟨mb,2,none⟩=some (.slice AC cs.length cC)
 f2:Y.frozen? ⟨mb,2,none⟩=false
 z2:mb<Y.heap.size
 ne:mb≠g
 c2e:(Y.setCells g (cs.length*7) cells).cell? ⟨mb,2,none⟩=some (.slice AC cs.length cC)
 f2e:(Y.setCells g (cs.length*7) cells).frozen? ⟨mb,2,none⟩=false
 all :∀V,V=(Y.setCells g (cs.length*7) cells).setCell ⟨mb,2,none⟩ (.slice (some ⟨g,0,none⟩) (cs.length+1) c')→MH X bx nb mb ns AO eL cO n tags At ct D (cs ++ [c]) (some ⟨g,0,none⟩) c' V
theorem MH.push {c:Z0a}{css:List (List Value)}{C E:Nat→Prop}{cells z0:List Value}{W1 Y:World}{g c':Nat}(h:MH X bx nb mb ns AO eL cO n tags At ct D cs AC cC w) (hb:Below w.heap.size w W1)
 (hE :∀k,E k→w.heap.size≤k∧k<W1.heap.size) (hrep:(Z09 n).rep E W1 c cells) (hown:w.ownsRow 0 77 7 (.slice AC cs.length cC) cs.length css.flatten) (he:Z32 (fun a cs=>(Z09 n).rep C w a cs) cs css)
 (hoff :∀k,(Value.slice AC cs.length cC).ownBlock=some k→¬C k) (hC :∀k,C k→X.heap.size≤k∧¬D k∧k<w.heap.size∧k≠X.heap.size+1∧k≠mb)
 (hY:Fr (fun k=>∃a,AC=some a∧a.block=k) W1 Y) (hO:Y.ownsRow 0 77 7 (.slice (some ⟨g,0,none⟩) (cs.length+1) c') (cs.length+1) (css.flatten++z0)) (hz0:z0.length=7) (hn:(Z09 n).size=7) (hA:AIn (some ⟨g,0,none⟩) (Plus (fun k=>∃a,AC=some a∧a.block=k) W1 Y)) :
 Zsl X bx nb mb ns AO eL cO n tags At ct D cs AC cC c cells g c' Y:=by
 have h1:=h.new_ hb;have hzw:=h.bel.size;have hzb:=hb.size;(have O0:cells.length=7:=by rw [(Z09 n).len hrep,hn]);have rn:=Z02 hown hb;have o6:Blk Y mb 173 _:=h1.mkb.fr hY (fun ⟨a,ha,e⟩=>Z01 rn h1.mkb Yc YBr);have Xf:mb≠g:=fun e=>Z01 hO o6 Yc YVh;have hr:=Z2m hO;(have Rr:css.flatten.length=cs.length*7:=by rw [←hn];exact Zfc rfl he);have h3:=Zph (ys:=cells) hO Rr (by rw [O0,hz0]);have Wt:=ownsRow_setCell_other (a:=⟨mb,2,none⟩) hO YHs (.slice (some ⟨g,0,none⟩) (cs.length+1) c');have Gz:=Z2m Wt
 have Ip:(∃a,AC=some a∧a.block=g)∨W1.heap.size≤g:=by
  rcases hA _ rfl with h4|h4
  · exact .inl h4
  · exact .inr h4.1
 have Wj:Fr (fun k=>k=mb∨k=g∨∃a,AC=some a∧a.block=k) W1 Y:=hY.mono (fun k _ hk=>.inr (.inr hk));refine ⟨hr.1.there (by have:=hr.2.1;omega),Gz.1.there (by have:=Gz.2.1;omega),(o6.cell 2).trans rfl,o6.frozen 2,o6.lt,Xf,((Blk.farCells _ _ o6 Xf).cell 2).trans rfl,(Blk.farCells _ _ o6 Xf).frozen 2,fun V hV=>?_⟩;have hF:Fr (fun k=>k=mb∨k=g∨∃a,AC=some a∧a.block=k) W1 V:=by rw [hV];exact (Fr.setCells cells _ Wj (.inl (.inr (.inl rfl)))).setCell (p:=⟨mb,2,none⟩) (.inl (.inl rfl)) _
 have hgX:X.heap.size≤g∧¬D g∧g≠X.heap.size+1:=by
  rcases Ip with ⟨a,e1,e2⟩|hg
  · have:=h.ca a e1;rw [e2] at this;exact this
  · refine ⟨Ya,fun hd=>YSh,fun e=>?_⟩
    have:=h.pb.r.lt;omega
 have nB :∀{b:Nat}{t:TypeId}{cur:Array Value},Blk W1 b t cur→b≠mb→t≠77→¬(b=mb∨b=g∨∃a,AC=some a∧a.block=b):=by
  rintro b t cur L0 n1 n2 (e|e|⟨a,ha,e⟩)
  · exact n1 e
  · rcases Ip with ⟨a,ha,e2⟩|hg
    · exact Z01 rn L0 (Ne.symm n2) (by subst ha;rw [←e2] at e;rw [e];rfl)
    · have:=L0.lt;omega
  · exact Z01 rn L0 (Ne.symm n2) YBr
 have nT :∀{b:Nat}{t:TypeId}{cur:Array Value},Blk W1 b t cur→t≠173→t≠77→¬(b=mb∨b=g∨∃a,AC=some a∧a.block=b):=fun L0 n1 n2=>nB L0 (L0.ne_ h1.mkb n1) n2
 have nD :∀k,D k→¬(k=mb∨k=g∨∃a,AC=some a∧a.block=k):=by
  rintro k hk (e|e|⟨a,ha,e⟩)
  · exact h.mnd (e ▸ hk)
  · exact hgX.2.1 (e ▸ hk)
  · exact (h.ca a ha).2.1 (e ▸ hk)
 have hCE :∀k,C k∨E k→k<W1.heap.size∧¬(k=mb∨k=g∨∃a,AC=some a∧a.block=k):=by
  rintro k (hk|hk)
  · obtain ⟨g1,g2,g3,g4,g5⟩:=hC k hk
    refine ⟨Ya,?_⟩;rintro (e|e|⟨a,ha,e⟩)
    · exact g5 e
    · rcases Ip with ⟨a,ha,e2⟩|hg
      · exact hoff k (by rw [ha];simp [Value.ownBlock,e2,e]) hk
      · omega
    · exact hoff k YVi hk
  · obtain ⟨g1,g2⟩:=hE k hk
    refine ⟨g2,?_⟩;rintro (e|e|⟨a,ha,e⟩)
    · have:=h.mkb.lt;omega
    · rcases Ip with ⟨a,ha,e2⟩|hg
      · have:=Z3i hown a.block (by rw [ha];rfl);omega
      · omega
    · have:=Z3i hown a.block (by rw [ha];rfl);omega
 have e1:(cs ++ [c]).length=cs.length+1:=Ye;refine ⟨h1.nm.fr hF nD,h.dn,?_,h.mge,h.mnd,?_,⟨fun k=>C k∨E k,⟨css ++ [cells],?_,?_,?_⟩,?_⟩,?_,?_,h.ta⟩
 · rw [hV,e1];exact (Blk.farCells _ _ o6 Xf).set_ 2 _
 · exact ⟨h1.pb.t.fr hF (nT h1.pb.t Yc Yc),h1.pb.r.fr hF (nT h1.pb.r Yc Yc),h1.bel.trans (hF.below h1.bel.size (fun k hk hm=>by
    rcases hm with e|e|⟨a,ha,e⟩
    · have:=h.mge;omega
    · have:=hgX.1;omega
    · have:=(h.ca a ha).1;omega))⟩
 · rw [hV,e1,List.flatten_append,Zl2,hn]
   exact ownsRow_setCell_other h3 YHs _
 · have up :∀{E':Nat→Prop}{W:World}(a:Z0a) (xs:List Value),(∀k,E' k→C k∨E k)→(∀k,E' k→k<W.heap.size→W1.heap[k]? = W.heap[k]?)→W.heap.size≤W1.heap.size→(Z09 n).rep E' W a xs→(Z09 n).rep (fun k=>C k∨E k) V a xs:=fun a xs hs hh hz hr=>(Z09 n).keep (Zt6 hz hF.size) (fun k hk hl=>⟨hs k hk,(hF.block k (hCE k (hs k hk)).1 (hCE k (hs k hk)).2).trans (hh k hk hl)⟩) hr
   exact (he.imp (fun a xs hr=>up a xs (fun _=>.inl) (fun k hk hl=>hb.block k hl) hb.size hr)).append (.cons (up c cells (fun _=>.inr) (fun _ _ _=>rfl) (Zsu _) hrep) .nil)
 · intro k hk
   simp only [Value.ownBlock,Option.some.injEq] at hk;subst hk;exact fun hce=>(hCE _ hce).2 (.inr (.inl rfl))
 · rintro k hk
   have zi:=hCE k hk;rcases hk with hk|hk
   · obtain ⟨g1,g2,g3,g4⟩:=hC k hk
     exact ⟨g1,g2,Zsw zi.1 hF.size,g4⟩
   · obtain ⟨g1,g2⟩:=hE k hk
     exact ⟨Ya,fun hd=>YSh,Zsw g2 hF.size,by have:=h.pb.r.lt;omega,by have:=h.mkb.lt;omega⟩
 · intro a ha
   injection ha with ha;subst ha;exact hgX
 · exact Z0s h1.tg hF (fun b hg hm=>by
    rcases hm with e|e|⟨a,ha,e⟩
    · exact Z01 h1.tg h1.mkb Yc (by rw [hg,e])
    · rcases Ip with ⟨a,ha,e2⟩|hgz
      · exact Z1p h1.tg rn Yc hg (by subst ha;rw [e,←e2];rfl)
      · have:=Z3i h1.tg b hg;omega
    · exact Z1p h1.tg rn Yc hg YBr)
end
end
section
open Go.RowKit Go.Shelf
attribute [local go_sem] Oper.semAt_some
theorem Z8x {α:Type}{l:List α}{i:Nat}(h:i<l.length):l.take (i+1)=l.take i ++ [l[i]]:=by rw [Ztq,Zt3 h];rfl
theorem Zgp {X:World}{nb mb:Nat}{ns:List Sym}{es:List Elem}{AO:Option Addr}{cO:Nat}{vcs:List VCo}{AC:Option Addr}{cC:Nat}{D:Nat→Prop}(s:Sym) (w:World) (h:CS X nb mb ns es AO cO vcs AC cC D w):Calls Tryz.prog 108 #[.pointer (some ⟨mb,0,none⟩),.agg (Q1d s)] w fun e w'=>e = .returned (.bool (Z5t es s))∧Below w.heap.size w w':=by
 have H:=hU h;have hlc:=(Z0e Elem.cells_length h.eo).cap;obtain ⟨m0,m1,m2⟩:=h.mkb.c3;have mz:=h.mkb.lt;clear h;go_enter Tryz.func108,Tryz.ntmps108;go_upto_region 2 with fail;clear m0 m1 m2 mz;refine Yxo ?_;intro W1 b3 K3 HB
 go_loopw [12] (fun v wr=>∃i:Nat,v = .int .i64 (i:Int)∧i≤es.length∧Z5t (es.take i) s=false∧Below W1.heap.size W1 wr) (fun v wr=>es.length - (intOf v).toNat)
 case atStart=>exact ⟨0,rfl,Nat.zero_le _,by simp [Z5t],Zst _ _⟩
 case round=>
  obtain ⟨i,rfl,hi,vh,U9⟩:=hrel;refine Ynr ?_;intro V7 Jm Ge;clear vh U9;by_cases hlt:i<es.length
  · obtain ⟨y,hy⟩:∃y,y=es[i]:=⟨_,rfl⟩
    obtain ⟨g,off,Jo,hgl,Gk⟩:=(Z0e Elem.cells_length (H.o.new_ Ge.o).eo).range hlt;rw [←hy] at Gk;subst Jo;have jc:=hU (show Z5t (es.take (i+1)) s=decide (y.id=s) by rw [Z8x hlt,←hy,Z5t,List.any_append,show ((es.take i).any fun e=>decide (e.id=s))=false from V7.o];simp);have wo:=hU (show y∈es by rw [hy];exact Ztf hlt);refine Ybc ?_;intro ly W5 wv Tq oq ww Ew o9 Nw pd Ov;have q0:W5.cell? ⟨wr.heap.size,0,none⟩=some (.int .i64 y.id.kind):=oq 0 _ rfl;have q1:W5.cell? ⟨wr.heap.size,1,none⟩=some (.string y.id.text):=oq 1 _ rfl;have q2:W5.cell? ⟨wr.heap.size,2,none⟩=some (.int .i64 y.id.n):=oq 2 _ rfl;have qz:wr.heap.size<W5.heap.size:=Ya;obtain ⟨s0,s1,s2⟩:=(K3.o.new_ pd.o).c3;have sz:=(K3.o.new_ pd.o).lt;have j1:(0:Int)≤(i:Int):=Ya;have j2:(i:Int)<(es.length:Int):=Ya;refine Yyc ?_;intro v1;have Fo:=Z5y y.id s;clear wv Tq oq ww Ew Gk hy;by_cases he:y.id=s
    · have t1:decide (y.id=s)=true:=by simpa using he
      rw [t1] at Fo jc;have HE:=hU (show Z5t es s=true from Zu7.2 ⟨y,wo.o,by simpa using he⟩);clear he t1
      go_wp2_with (first
       | (with_reducible refine wpList_load_mid rfl 50 _ rfl g (off+i*12) rfl (Q0i y) _ ly.o Tryz.underlying50 rfl Yb ?_)
       | ((with_reducible refine wpList_store_mid rfl 50 _ _ rfl wr.heap.size 0 (Q0j y) rfl rfl Nw.o Yb Yb ?_);rw [←o9.o]))
      go_ret;exact ⟨by rw [HE.o];rfl,Ov.o⟩
    · have t1:decide (y.id=s)=false:=by simpa using he
      rw [t1] at Fo jc;clear he t1
      go_wp2_with (first
       | (with_reducible refine wpList_load_mid rfl 50 _ rfl g (off+i*12) rfl (Q0i y) _ ly.o Tryz.underlying50 rfl Yb ?_)
       | ((with_reducible refine wpList_store_mid rfl 50 _ _ rfl wr.heap.size 0 (Q0j y) rfl rfl Nw.o Yb Yb ?_);rw [←o9.o]))
      go_roundw
      case rel=>exact ⟨i+1,Yn,Ya,jc.o,pd.o⟩
      case measure=>simp [intOf]<;>omega
  · obtain rfl:i=es.length:=by omega
    have jz :¬(es.length:Int)<(es.length:Int):=Ya;have V7:=hU (show Z5t es s=false by have:=V7.o;rwa [Ztc] at this);go_wp2_with fail;go_ret;exact ⟨by rw [V7.o];rfl,Ge.o⟩
theorem Zq0 {X:World}{nb mb:Nat}{ns:List Sym}{es:List Elem}{AO:Option Addr}{cO:Nat}{vcs:List VCo}{AC:Option Addr}{cC:Nat}{D:Nat→Prop}(k:Nat) (s:Sym) (w:World) (h:CS X nb mb ns es AO cO vcs AC cC D w) (hk:k<es.length) (hel:es.length≤1000):Calls Tryz.prog 132 #[.pointer (some ⟨mb,0,none⟩),.int .i64 (k:Int),.agg (Q1d s)] w fun e w'=>e = .returned (.bool (metV es k s))∧Below w.heap.size w w':=by
 have H:=hU h;have HK:=hU hk;clear h;go_enter Tryz.func132,Tryz.ntmps132;go_upto_region 2 with fail;refine Yxo ?_;intro W1 b3 K3 HB
 go_loopw [7] (fun v wr=>∃i:Nat,v = .int .i64 (i:Int)∧i≤k+1∧((es.take i).any fun e=>decide (e.id=s) ||decide (e.value=s))=false∧Below W1.heap.size W1 wr) (fun v wr=>k+1 - (intOf v).toNat)
 case atStart=>exact ⟨0,rfl,Nat.zero_le _,Ye,Zst _ _⟩
 case round=>
  obtain ⟨i,rfl,hi,vh,U9⟩:=hrel;refine Ynr ?_;intro V7 Jm Ge;clear vh U9;by_cases hlt:i≤k
  · have ve:i<es.length:=by omega
    obtain ⟨y,hy⟩:∃y,y=es[i]:=⟨_,rfl⟩;have HC:=hU (H.o.new_ Ge.o);obtain ⟨m0,m1,m2⟩:=HC.o.mkb.c3;have mz:=HC.o.mkb.lt;obtain ⟨g,off,Jo,hgl,R9⟩:=(Z0e Elem.cells_length HC.o.eo).at_ ve;rw [←hy] at R9;subst Jo;have jc:=hU (show ((es.take (i+1)).any fun e=>decide (e.id=s) ||decide (e.value=s))=(decide (y.id=s) ||decide (y.value=s)) by rw [Z8x ve,←hy,List.any_append,V7.o];simp);have HIK:=hU (show (decide (y.id=s) ||decide (y.value=s))=true→metV es k s=true from fun h=>Zu7.2 ⟨y,by rw [hy];exact List.mem_iff_getElem.2 ⟨i,by rw [Zu3];omega,by rw [List.getElem_take]⟩,h⟩);have q0:wr.cell? ⟨g,off+i*12,none⟩=some (.int .i64 y.id.kind):=Yq;have q1:wr.cell? ⟨g,off+i*12+1,none⟩=some (.string y.id.text):=YO5;have q2:wr.cell? ⟨g,off+i*12+2,none⟩=some (.int .i64 y.id.n):=YFu;have q6:wr.cell? ⟨g,off+i*12+6,none⟩=some (.int .i64 y.value.kind):=YTq;have q7:wr.cell? ⟨g,off+i*12+7,none⟩=some (.string y.value.text):=YN7;have q8:wr.cell? ⟨g,off+i*12+8,none⟩=some (.int .i64 y.value.n):=YQ3;obtain ⟨s0,s1,s2⟩:=(K3.o.new_ Jm.o).c3;have sz:=(K3.o.new_ Jm.o).lt;have j0:(i:Int)≤(k:Int):=Ya;have j1:(0:Int)≤(i:Int):=Ya;have j2:(i:Int)<(es.length:Int):=Ya;refine Yyc ?_;intro v1;have Oh:=Z5y y.id s;have jh:=Z5y y.value s;clear R9 hy;cases d1:decide (y.id=s)<;>cases d2:decide (y.value=s)
    all_goals
     rw [d1] at Oh jc HIK;rw [d2] at jh jc HIK;clear d1 d2;go_wp2_with fail;go_quiet (fail);have Un:=hU (Below.drewN' Ge.o nq);have Ue:=hU (Below.drewN' Jm.o nq);clear q0 q1 q2 q6 q7 q8 m0 m1 m2 mz s0 s1 s2 sz;go_wp2_with fail
     first
      | (go_ret;exact ⟨by rw [HIK.o rfl];rfl,Un.o⟩)
      | (go_roundw
         case rel=>exact ⟨i+1,Yn,Ya,jc.o,Ue.o⟩
         case measure=>simp [intOf]<;>omega)
  · obtain rfl:i=k+1:=by omega
    have jz :¬((k+1:Nat):Int)≤(k:Int):=Ya;have jz2 :¬(k:Int)+1≤(k:Int):=Ya;go_wp2_with fail;go_ret;exact ⟨by rw [metV,V7.o];rfl,Ge.o⟩
theorem Zhm {nb mb:Nat}{ns:List Sym}{D:Nat→Prop}(s:Sym) (w:World) (h:Nm D w nb ns) (hm:MK w mb nb) (hl:ns.length≤1000):Calls Tryz.prog 107 #[.pointer (some ⟨mb,0,none⟩),.agg (Q1d s)] w fun e w'=>e = .returned (.bool (Z4t ns s))∧Below w.heap.size w w':=by
 have HP:=hU (fun W (hW:Below w.heap.size w W)=>Z4d s W (h.new_ hW) Ya);have H:=hU hm;have Dh:=hU (show Z4t ns s=(decide (s.kind=1) && decide (plV ns s=0)) from rfl);obtain ⟨r,hr⟩:∃r,r=plV ns s:=⟨_,rfl⟩;rw [←hr] at HP Dh;clear h hm hl hr;go_enter Tryz.func107,Tryz.ntmps107;go_upto_region 1 with fail;refine Ytp ?_;intro w1 HB Kk k0 k1 k2 kz;obtain ⟨m0,mz⟩:=H.o.new_ HB.o;by_cases h1:s.kind=1
 case neg=>
  have e1:(s.kind == 1)=false:=YJc;have e2:decide (s.kind=1)=false:=YJc;rw [e2] at Dh;refine Z03 (fun w9=>Below w1.heap.size w1 w9) [(0,0),(1,1),(2,0),(3,0),(4,0),(5,0),(6,0),(7,1),(8,1),(9,2),(10,0),(11,0),(12,0)] Yb Yb (fun KK hKK=>?_);refine Ybp ?_;refine Y43 ?_;refine Yyj ?_;exact Yt6
 have e1:(s.kind == 1)=true:=YJc;have e2:decide (s.kind=1)=true:=YJc;rw [e2] at Dh;have HS1:=hU h1;clear h1;refine Z03 (fun w9=>Below w1.heap.size w1 w9) [(0,0),(1,1),(2,0),(3,0),(4,0),(5,0),(6,0),(7,1),(8,1),(9,2),(10,0),(11,0),(12,0)] Yb Yb (fun KK hKK=>?_);refine Ybp ?_;refine Yeh ?_;intro w5 Xp;refine Y8u ?_;refine Yf0 ?_;clear hKK KK;have mg:=hU (HB.o.trans (Xp.o.mono HB.o.size));clear k0 k1 k2 kz m0 mz;go_wp2_with fail;go_ret;refine ⟨?_,mg.o⟩;rw [Dh.o];by_cases hr:r=0
 · subst hr;rfl
 · have e5:((r:Int) == 0)=false:=by simp;omega
   have e6:decide ((r:Int)=0)=false:=Yk;simp [hr,e5,e6]
theorem Zll {X:World}{nb mb:Nat}{ns:List Sym}{es:List Elem}{AO:Option Addr}{cO:Nat}{vcs:List VCo}{AC:Option Addr}{cC:Nat}{D:Nat→Prop}(s:Sym) (w:World) (h:CS X nb mb ns es AO cO vcs AC cC D w) (hl:ns.length≤1000):Calls Tryz.prog 107 #[.pointer (some ⟨mb,0,none⟩),.agg (Q1d s)] w fun e w'=>e = .returned (.bool (Z4t ns s))∧Below w.heap.size w w':=Zhm s w h.nm h.mk_ hl
theorem Zhl {X:World}{nb mb:Nat}{ns:List Sym}{es:List Elem}{AO:Option Addr}{cO:Nat}{vcs:List VCo}{AC:Option Addr}{cC:Nat}{D:Nat→Prop}(s:Sym) (w:World) (h:CS X nb mb ns es AO cO vcs AC cC D w) (hl:ns.length≤1000):Calls Tryz.prog 106 #[.pointer (some ⟨mb,0,none⟩),.agg (Q1d s)] w fun e w'=>e = .returned (.bool (Z6a ns es s))∧Below w.heap.size w w':=by
 have HP:=hU (fun W (hW:Below w.heap.size w W)=>Z4d s W (h.nm.new_ hW) Ya);have HS:=hU (fun W (hW:Below w.heap.size w W)=>Zgp s W (h.new_ hW));have H:=hU h;have Dh:=hU (show Z6a ns es s=(decide (s.kind=1) && (!decide (plV ns s=0) && !Z5t es s)) from rfl);obtain ⟨r,hr⟩:∃r,r=plV ns s:=⟨_,rfl⟩;obtain ⟨u,hu⟩:∃u,u=Z5t es s:=⟨_,rfl⟩;rw [←hr] at HP Dh;rw [←hu] at HS Dh;clear h hl hr hu;go_enter Tryz.func106,Tryz.ntmps106;go_upto_region 1 with fail;refine Ytp ?_;intro w1 HB Kk k0 k1 k2 kz;obtain ⟨m0,m1,m2⟩:=(H.o.new_ HB.o).mkb.c3;have mz:=(H.o.new_ HB.o).mkb.lt;by_cases h1:s.kind=1
 case neg=>
  have e1:(s.kind == 1)=false:=YJc;have e2:decide (s.kind=1)=false:=YJc;rw [e2] at Dh;refine Z03 (fun w9=>Below w1.heap.size w1 w9) [(0,0),(1,1),(2,0),(3,0),(4,0),(5,0),(6,0),(7,1),(8,1),(9,2),(10,0),(11,0),(12,0),(13,0),(14,1),(15,2),(16,0),(17,0),(18,0)] Yb Yb (fun KK hKK=>?_);refine Ybp ?_;refine Y43 ?_;refine Yyj ?_;refine Y43 ?_;refine Yyj ?_;exact Yt6
 have e1:(s.kind == 1)=true:=YJc;have e2:decide (s.kind=1)=true:=YJc;rw [e2] at Dh;have HS1:=hU h1;clear h1;by_cases hr:r=0
 case pos=>
  subst hr;refine Z03 (fun w9=>Below w1.heap.size w1 w9) [(0,0),(1,1),(2,0),(3,0),(4,0),(5,0),(6,0),(7,1),(8,1),(9,2),(10,0),(11,0),(12,0),(13,0),(14,1),(15,2),(16,0),(17,0),(18,0)] Yb Yb (fun KK hKK=>?_);refine Ybp ?_;refine Yeh ?_;intro w5 Xp;refine Y8u ?_;refine Ysm ?_;intro K9 hK9;refine hK9 _ _ (Xp.o) ?_;clear hK9 K9;refine Y8u ?_;refine Yf0 ?_;clear hKK KK;have mg:=hU (HB.o.trans (Xp.o.mono HB.o.size));clear k0 k1 k2 kz m0 m1 m2 mz;go_wp2_with fail;go_ret;exact ⟨by rw [Dh.o];rfl,mg.o⟩
 have r1:(0:Int)<(r:Int):=Ya;have r2:decide ((0:Int)<(r:Int))=true:=Zt9 Ya;have r3:decide (0<r)=true:=Zt9 Ya;refine Z03 (fun w9=>Below w1.heap.size w1 w9) [(0,0),(1,1),(2,0),(3,0),(4,0),(5,0),(6,0),(7,1),(8,1),(9,2),(10,0),(11,0),(12,0),(13,0),(14,1),(15,2),(16,0),(17,0),(18,0)] Yb Yb (fun KK hKK=>?_);refine Ybp ?_;refine Yeh ?_;intro w5 Xp;refine Y8u ?_;refine Ysm ?_;intro K9 hK9;refine (HS.o _ (HB.o.trans (Xp.o.mono HB.o.size))).mono ?_;rintro e w6 ⟨rfl,un⟩;have gi:=hU (Xp.o.trans (un.mono Xp.o.size));clear un;refine hK9 _ _ gi.o ?_;clear hK9 K9;refine Yxt ?_;refine Yf0 ?_;clear hKK KK;have mg:=hU (HB.o.trans (gi.o.mono HB.o.size));clear k0 k1 k2 kz m0 m1 m2 mz;go_wp2_with fail;go_ret;refine ⟨?_,mg.o⟩;rw [Dh.o];cases u<;>simp [hr]
def VCo.more (v:VCo) (t:Z0z) (g c:Nat):VCo:={ v with vs:=v.vs ++ [t],gv:=g,cap:=c }
structure HdV where
 goal:Bool
 id:ByteArray
 at_:Z0z
 acc:Bool
def VCo.hd (v:VCo):HdV:=⟨v.goal,v.id,v.at_,v.acc⟩
theorem Zpg {w:World}{e:TypeId}{size n c g:Nat}{xs:List Value}(h:w.ownsRow 0 e size (.slice (some ⟨g,0,none⟩) n c) n xs):∃cur,Blk w g e cur:=by
 obtain ⟨⟨cur,hb,_⟩,_⟩:=Z2m h;exact ⟨cur,hb⟩
section
variable {X:World}{bx:Array Value}{nb mb:Nat}{ns:List Sym}{es:List Elem}{AO:Option Addr}{cO:Nat}{vcs:List VCo}{AC:Option Addr}{cC:Nat}{tags:List Int}{At:Option Addr}{ct:Nat}{D:Nat→Prop}
theorem P3.addT {pre post:List VCo}{v:VCo}{t:Z0z}{val:Value}{W Y:World}(h:P3 X bx nb mb ns es AO cO vcs AC cC tags At ct D W) (hv:vcs=pre++v :: post) (ht:t.list = [])
 (hown:Y.ownsRow 0 196 6 val (v.vs.length+1) (v.vs.flatMap Z0z.cell0 ++ [t].flatMap Z0z.cell0)) (hg:W.grownBy Y (Value.slice (some ⟨v.gv,0,none⟩) v.vs.length v.cap).ownBlock) (hat:val.ownBlock=(Value.slice (some ⟨v.gv,0,none⟩) v.vs.length v.cap).ownBlock∨val.ownBlock=some W.heap.size) :
 ∃gc g' c',AC=some ⟨gc,0,none⟩∧val = .slice (some ⟨g',0,none⟩) (v.vs.length+1) c'∧Y.cell? ⟨gc,pre.length*7+4,none⟩=some (.slice (some ⟨v.gv,0,none⟩) v.vs.length v.cap)∧Y.frozen? ⟨gc,pre.length*7+4,none⟩=false∧gc<Y.heap.size∧(∀b ty cs,Blk W b ty cs→b≠v.gv→Blk Y b ty cs)∧
  ∀V,V=Y.setCell ⟨gc,pre.length*7+4,none⟩ (.slice (some ⟨g',0,none⟩) (v.vs.length+1) c')→P3 X bx nb mb ns es AO cO (pre++v.more t g' c' :: post) AC cC tags At ct D V:=by
 (have hm:v∈vcs:=by rw [hv];simp);have oc:=h.cs.ok v hm;have P2:=h.cs.bl v hm;(have ju:vcs.length=pre.length+(post.length+1):=by rw [hv];simp);obtain ⟨gc,Df⟩:=Z61 h.cs.co Ya;obtain ⟨A',c',rfl,hF,hA,hO⟩:=Z2h (E:=(· = v.gv)) (fun a ha=>by injection ha with ha;rw [←ha]) hown hg hat;obtain ⟨g',rfl⟩:=Z61 hO Ya;have Tk:=h.cs.co;rw [Df] at Tk;have ngc:v.gv≠gc:=fun e=>Z1p oc.vr Tk Yc (k:=gc) YVh rfl;have Rn:=Z0s Tk hF (fun g hg e=>by injection hg with hg;exact ngc (e.symm.trans hg.symm));have ng':g'≠gc:=fun e=>Z1p hO Rn Yc (k:=gc) YVh rfl;have hroom:=Z2m Rn;(have Xl:vcs.flatMap VCo.cells=pre.flatMap VCo.cells++(v.cells++post.flatMap VCo.cells):=by rw [hv,Zta,Zu6]);have Ly:(pre.flatMap VCo.cells).length=pre.length*7:=Z0u VCo.cells_length pre;obtain ⟨cur,B9⟩:=Zpg Rn
 have Lq:Y.cell? ⟨gc,pre.length*7+4,none⟩=some (.slice (some ⟨v.gv,0,none⟩) v.vs.length v.cap):=by
  have Xm:=Z0e VCo.cells_length Rn;obtain ⟨b,off,e1,_,O0⟩:=Xm.at_ (k:=pre.length) Ya;injection e1 with e1;injection e1 with e1 e2;subst e1;subst e2;have:=O0 4 (.slice (some ⟨v.gv,0,none⟩) v.vs.length v.cap) (by simp only [hv];rw [List.getElem_append_right (Zsu _)];simp [VCo.cells,VCo.raw,Z77.cells]);exact Yuu
 refine ⟨gc,g',c',Df,rfl,Lq,B9.frozen _,B9.lt,fun b ty cs hb Xf=>hb.fr hF Xf,fun V hV=>?_⟩;subst hV;have Ss:=(Rn.stored (pre.length*7+4) (.slice (some ⟨g',0,none⟩) (v.vs.length+1) c')).1;have Td:Fr (fun j=>j=v.gv∨j=gc) W (Y.setCell ⟨gc,pre.length*7+4,none⟩ (.slice (some ⟨g',0,none⟩) (v.vs.length+1) c')):=(hF.mono (fun k _ hk=>.inl hk)).setCell (p:=⟨gc,pre.length*7+4,none⟩) (.inl (.inr rfl)) _;have hzW:=h.cs.bel.size;have hDl:=h.cs.nm.lt
 have nB :∀{b:Nat}{ty:TypeId}{cs:Array Value},Blk W b ty cs→ty≠196→ty≠77→¬(b=v.gv∨b=gc):=by
  rintro b ty cs hb n1 n2 (e|e)
  · exact Z01 oc.vr hb n1.symm YVh
  · exact Z01 Tk hb n2.symm YVh
 have nO :∀{e:TypeId}{size n c:Nat}{A:Option Addr}{xs:List Value},W.ownsRow 0 e size (.slice A n c) n xs→e≠196→e≠77→∀g,(Value.slice A n c).ownBlock=some g→¬(g=v.gv∨g=gc):=by
  rintro e size n c A xs ho n1 n2 g hg (e2|e2)
  · exact Z1p ho oc.vr n1 hg (by rw [e2];rfl)
  · exact Z1p ho Tk n2 hg (by rw [e2];rfl)
 have Rv:=h.cs.nd;rw [hv,Zta,Zu6] at Rv;obtain ⟨n1,n2,n3⟩:=List.nodup_append.1 Rv;obtain ⟨n4,n5,n6⟩:=List.nodup_append.1 n2
 have Ip:g'=v.gv∨W.heap.size≤g':=by
  rcases hA _ rfl with e|⟨e,_⟩
  · exact .inl e
  · exact .inr e
 have Gu :∀u,u∈pre∨u∈post→u.ga≠v.gv∧u.gv≠v.gv:=by
  rintro u (hu|hu)
  · exact ⟨fun e=>n3 u.ga (List.mem_flatMap.2 ⟨u,hu,Ye⟩) v.gv Ye e,fun e=>n3 u.gv (List.mem_flatMap.2 ⟨u,hu,Ye⟩) v.gv Ye e⟩
  · exact ⟨fun e=>n6 v.gv Ye u.ga (List.mem_flatMap.2 ⟨u,hu,Ye⟩) e.symm,fun e=>n6 v.gv Ye u.gv (List.mem_flatMap.2 ⟨u,hu,Ye⟩) e.symm⟩
 have Rh :∀u,u∈pre∨u∈post→u∈vcs:=fun u hu=>by rw [hv];exact hu.elim (fun h=>List.mem_append_left _ h) (fun h=>List.mem_append_right _ (Zug _ h))
 have So :∀{u:VCo},u∈pre++v.more t g' c' :: post→u=v.more t g' c'∨(u∈pre∨u∈post):=fun {u} hu=>by
  rcases Ztu.1 hu with h1|h1
  · exact .inr (.inl h1)
  · rcases Ztb.1 h1 with h2|h2
    · exact .inl h2
    · exact .inr (.inr h2)
 (have hgav:v.ga≠v.gv:=by simpa using n4);have kv :∀{g:Nat}{cs:Array Value},Blk W g 196 cs→g≠gc:=fun hb e=>Z01 Tk hb Yc YVh;have Iq:(pre++v.more t g' c' :: post).length=vcs.length:=by rw [ju];simp
 refine ⟨⟨h.cs.nm.fr Td (fun k hk hm=>?_),h.cs.dn,?_,h.cs.mge,h.cs.mnd,Z0s h.cs.eo Td (nO h.cs.eo Yc Yc),h.cs.ea,?_,h.cs.ca,fun u hu=>?_,fun u hu=>?_,?_,h.cs.bel.trans (Td.below hzW (fun k hk hm=>?_))⟩,
  h.pb.frT Td (nB h.pb.t Yc Yc) (nB h.pb.r Yc Yc) (fun k hk=>?_),Z0s h.tg Td (nO h.tg Yc Yc),h.ta,h.dn2⟩
 · rcases hm with e|e
   · exact P2.2.2 (e ▸ hk)
   · exact (h.cs.ca _ Df).2 (by rw [e] at hk;exact hk)
 · rw [Iq];exact h.cs.mkb.fr Td (nB h.cs.mkb Yc Yc)
 · rw [Iq,Df]
   have e1:(vcs.flatMap VCo.cells).set (pre.length*7+4) (.slice (some ⟨g',0,none⟩) (v.vs.length+1) c')=(pre++v.more t g' c' :: post).flatMap VCo.cells:=by
    rw [Xl,List.set_append_right _ _ Ya,Ly,List.set_append_left _ _ (by rw [VCo.cells_length];omega),Zta,Zu6];congr 2;rw [show pre.length*7+4 - pre.length*7=4 from Ya];simp [VCo.cells,VCo.raw,Z77.cells,VCo.more]
   rw [←e1];exact Ss
 · rcases So hu with rfl|hu
   · refine ⟨oc.at_.fr Td (fun hm=>?_),?_,oc.la,fun x hx=>?_⟩
     · exact hm.elim hgav (kv oc.at_)
     · have e2:(v.more t g' c').vs.length=v.vs.length+1:=by simp [VCo.more]
       rw [e2];refine ownsRow_setCell_other (a:=⟨gc,pre.length*7+4,none⟩) ?_ (by simp [Value.ownBlock];exact ng') _;show Y.ownsRow 0 196 6 _ _ ((v.vs ++ [t]).flatMap Z0z.cell0);rw [Zta];exact hO
     · rcases Ztu.1 hx with hx|hx
       · exact oc.lv x hx
       · rw [Zua.1 hx];exact ht
   · have X4:=h.cs.ok u (Rh u hu)
     have Xf:=Gu u hu;refine X4.fr Td (fun hm=>hm.elim Xf.1 (kv X4.at_)) (fun hm=>hm.elim Xf.2 (fun e=>?_));exact Z1p X4.vr Tk Yc (k:=gc) YVh rfl
 · rcases So hu with rfl|hu
   · refine ⟨P2.1,?_⟩
     show X.heap.size≤g'∧¬D g';rcases Ip with e|e
     · rw [e];exact P2.2
     · exact ⟨Ya,fun hd=>by have:=hDl _ hd;omega⟩
   · exact h.cs.bl u (Rh u hu)
 · rw [Zta,Zu6]
   show (pre.flatMap _++([v.ga,g']++post.flatMap _)).Nodup;rcases Ip with e|e
   · rw [e];exact Rv
   · have sd :∀u,u∈pre∨u∈post→u.ga<W.heap.size∧u.gv<W.heap.size:=fun u hu=>⟨(h.cs.ok u (Rh u hu)).at_.lt,(h.cs.ok u (Rh u hu)).ltv⟩
     have hlv:=oc.at_.lt;refine List.nodup_append.2 ⟨n1,List.nodup_append.2 ⟨Yk,n5,fun a ha b hb e2=>?_⟩,fun a ha b hb e2=>?_⟩
     · simp only [Ztb,Zth,or_false] at ha
       rcases ha with rfl|rfl
       · exact n6 v.ga Ye b hb e2
       · obtain ⟨u,hu,hbu⟩:=List.mem_flatMap.1 hb
         have:=sd u (.inr hu);simp only [Ztb,Zth,or_false] at hbu;rcases hbu with rfl|rfl<;>omega
     · rcases Ztu.1 hb with hb|hb
       · simp only [Ztb,Zth,or_false] at hb
         rcases hb with rfl|rfl
         · exact n3 a ha v.ga Ye e2
         · obtain ⟨u,hu,T6⟩:=List.mem_flatMap.1 ha
           have:=sd u (.inl hu);simp only [Ztb,Zth,or_false] at T6;rcases T6 with rfl|rfl<;>omega
       · exact n3 a ha b (List.mem_append_right _ hb) e2
 · rcases hm with e|e
   · have:=P2.2.1;omega
   · have:X.heap.size≤gc:=(h.cs.ca _ Df).1;omega
 · rcases hk with e|e
   · rw [e];exact P2.2.1
   · rw [e];exact (h.cs.ca _ Df).1
end
end
end Go.Proofs.YtcnnofgaifcgaaaGreat
