/-
  Texts put together: BkCopyK, BkRec, VaryP, VaryP2, VaryP3, VaryA, XHp.
-/
import Derived.Test.YtcnnofgaifcgaaaGreatPTe
namespace Go.Proofs.YtcnnofgaifcgaaaGreat
set_option maxRecDepth 100000
set_option maxHeartbeats 32000000
set_option linter.unusedSimpArgs false
section
open Go.RowKit
theorem Zfb (n:Nat) (hrec :∀m,n=m+1→Z9j 52 m) (A:Option Addr) (c:Nat) (L:List Z0a){D:Nat→Prop}(W0:World) (hrd:RowR (Z09 n) D W0 A c L) (hs:L.length≤1000∧∀x∈L,SmC n x) :
 Calls Tryz.prog 91 #[.slice A L.length c] W0 (Zgu (Z09 n) L W0):=by
 obtain ⟨j0,E6,ye,Xh,L7⟩:=infp Zbz;have hlc:=hrd.cap;have hl1:=hs.1;have ll:=hU hrd;have HS:=hU hs;have Pv:=hU hrec;clear hrd hs hrec;go_enter Tryz.func91,Tryz.ntmps91;go_wp2_with fail
 go_loopw [3,4] (fun v i wr=>∃k:Nat,i = .int .i64 k∧k≤L.length∧Z2k (Z09 n) 77 W0 (L.take k) v wr) (fun v i wr=>L.length - (intOf i).toNat)
 case atStart=>exact ⟨0,rfl,Nat.zero_le _,Z2k.nil _ _ _ (Zst _ _)⟩
 case round=>
  obtain ⟨k,rfl,hk,hC⟩:=hrel;obtain ⟨C,A1,c1,rfl,h1,h2,h3,h4⟩:=hC;rw [Z1u hk];by_cases hlt:k<L.length
  · have Dz:=ll.o.new_ (h4.mono Ya:Below W0.heap.size W0 wr)
    obtain ⟨m,rfl⟩:∃m,n=m+1:=by
     cases n with
     | zero=>rw [row0 Dz] at hlt;simp at hlt
     | succ m=>exact ⟨m,rfl⟩
    obtain ⟨g,off,so,Bv,Xj,qw,qy,Mg,sf,hDg,hg,q0,q1,q2,q3,q4,q5,q6,J8,Cq,sq⟩:=Z31 Dz hlt;subst sf;obtain ⟨y,hy⟩:∃y,y=L[k]:=⟨_,rfl⟩;have lh:SmC (m+1) y:=YT1;rw [←hy] at q0 q1 q2 q3 q4 q5 q6 J8 Cq sq;have b1:(0:Int)≤(k:Int):=Ya;have b2:(k:Int)<(L.length:Int):=Ya;have HY:=hU hy;refine Yuw ?_;intro H1 H2 H3 H4;have rv:=hU J8;have dr:=hU Cq;have n7:=hU sq;have Mk:=hU lh;clear hy Dz h1 h2 h3 h4 J8 Cq sq lh;go_wp2_with fail;refine (Pv.o m rfl y so Bv Xj qw qy Mg D wr rv.o dr.o n7.o Mk.o).mono ?_;rintro e w5 ⟨vx,j7,lu,lr,Be,Ot,rfl,g1,g2,g3,Wz⟩;have Ck:Below wr.heap.size wr w5:=Wz;refine Ywo ?_;intro h9 Nz;have up :∀j,NewD wr.heap.size w5 j→j<w5.heap.size→(Plus C wr (w5.alloc (.cells (Q0r y vx j7 lu lr Be Ot) 77))) j∧(w5.alloc (.cells (Q0r y vx j7 lu lr Be Ot) 77)).heap[j]? = w5.heap[j]?:=fun j hj hl=>⟨.inr ⟨hj.1,Yk⟩,h9.block j hl⟩;have Jn:=Z64 (n:=m) (y:=y) (g1.keep h9.size up) (g2.keep h9.size up) (g3.keep h9.size up);have vd:=H1.o.plus Nz
    have O0 :∀j,Plus C wr (w5.alloc (.cells (Q0r y vx j7 lu lr Be Ot) 77)) j→j<(w5.alloc (.cells (Q0r y vx j7 lu lr Be Ot) 77)).heap.size:=fun j hj=>by
     exact Yca
    refine Yxp ?_;intro ms Cj Oo E8 HB5 mu U8 HV;clear g1 g2 g3 Wz h9 Nz up Jn vd O0 Ck q0 q1 q2 q3 q4 q5 q6;exact Yuo
  · obtain rfl:k=L.length:=by omega
    have F8:Z2k (Z09 n) 77 W0 (L.take L.length) (.slice A1 (L.take L.length).length c1) wr:=⟨C,A1,c1,rfl,h1,h2,h3,h4⟩;rw [Ztc] at F8;have HF:=hU F8;clear h1 h2 h3 h4 F8;go_wp2_with fail;go_ret;exact HF.o.done
theorem Zb6 (n:Nat) (hrec :∀m,n=m+1→Z9j 52 m):Z9j 52 n:=by
 intro x A1 c1 A2 c2 A3 c3 D w h1 h2 h3 hs;obtain ⟨j0,hj0,hy0,hyy1,hyy2⟩:=infp Zbz;have hcap1:=h1.cap;have hcap2:=h2.cap;have t9:=h3.cap;obtain ⟨s1,s2,s3,s4⟩:=hs;have S1:=hU s1;have S2:=hU s2;have Pv:=hU hrec;obtain ⟨L,hL⟩:∃L,L=x.conds:=⟨_,rfl⟩;rw [←hL] at h3 t9 s3 s4;have HS:=hU (show L.length≤1000∧∀x∈L,SmC n x from ⟨s3,s4⟩);have HXC:=hU hL;clear s1 s2 s4 hrec;rw [←hL];clear hL;have Q1:=hU h1;have Q2:=hU h2;have Q3:=hU h3;clear h1 h2 h3;go_enter Tryz.func52,Tryz.ntmps52;go_upto_region 1 with fail;refine Yvl ?_;intro W1 x3 Nk Ld Nq ja hxl1;go_wp2_with fail;refine (Zdo A1 c1 x.attr W1 (Q1.o.new_ Nk.o) S1.o).mono ?_;rintro e w2 ⟨B1,d1,rfl,k1,-,Rt⟩;refine Yzt ?_;intro W2 xc f8 u3 g3;(have Fc:Blk W2 w.heap.size 77 #[.int .i64 x.kind,.bool x.goal,.string x.id,.slice B1 x.attr.length d1,.slice A2 x.value.length c2,.bool x.acc,.slice A3 L.length c3]:=by rw [xc];exact f8.set_ 3 _);(have Il:Blk W2 (w.heap.size+1) 77 Q2g:=by rw [xc];exact (Nq.o.new_ Rt).far Ye _);refine Yh5 ?_;intro Aj Fe yt zi Un T0 O8 zv X7 Jg;clear k1 Rt f8 Fc Il yt zi Fe x3;go_upto_region 2 with fail;rw [←xc];clear xc u3 g3 Aj;obtain ⟨-,-,-,-,x4,-,-⟩:=T0.o.c7;have Jg:=T0.o.lt;go_wp2_with fail;refine (Zdo A2 c2 x.value W2 (Q2.o.new_ Un.o) S2.o).mono ?_;rintro e w3 ⟨B2,d2,rfl,k2,-,Kh⟩;refine Y5l ?_;intro W3 jb Lb u4 g4;(have Eo:Blk W3 w.heap.size 77 #[.int .i64 x.kind,.bool x.goal,.string x.id,.slice B1 x.attr.length d1,.slice B2 x.value.length d2,.bool x.acc,.slice A3 L.length c3]:=by rw [jb];exact Lb.set_ 4 _);(have Ec:Blk W3 (w.heap.size+1) 77 Q2g:=by rw [jb];exact (O8.o.new_ Kh).far Ye _);refine Y79 ?_;intro hz3 Sv Iw L5 zi Ue Xy Bn Rp Pb su HQ3 ub;clear k2 Kh Lb Eo Ec Iw zi L5 Sv x4;go_upto_region 3 with fail;rw [←jb];clear jb u4 g4 hz3;obtain ⟨-,-,-,-,-,-,x6⟩:=Xy.o.c7;have ub:=Xy.o.lt;go_wp2_with fail;refine (Zfb n Pv.o A3 c3 L W3 HQ3.o HS.o).mono ?_;intro e wf hf;obtain ⟨E3,d3,he,r3,hE3,wu⟩:=hf;cases he;obtain ⟨W9,Gh⟩:∃W9,W9=wf.setCell ⟨w.heap.size,6,none⟩ (.slice E3 L.length d3):=⟨_,rfl⟩;have Ma:=Xy.o.new_ wu;have u6:=(Ma.cell 6).trans rfl;have g6:=Ma.frozen 6;have hxl9:=Ma.lt;(have Ow:Blk W9 w.heap.size 77 #[.int .i64 x.kind,.bool x.goal,.string x.id,.slice B1 x.attr.length d1,.slice B2 x.value.length d2,.bool x.acc,.slice E3 L.length d3]:=by rw [Gh];exact Ma.set_ 6 _);(have Bb:Blk W9 (w.heap.size+1) 77 Q2g:=by rw [Gh];exact (Bn.o.new_ wu).far Ye _);have Rl:Below w.heap.size w W9:=YXb;have hzf:=wu.size;(have Sj:W9.heap.size=wf.heap.size:=by rw [Gh];simp);(have D7 :∀j,w.heap.size+2≤j→W9.heap[j]? = wf.heap[j]?:=fun j hj=>YYj);have yq:=hU Rl;have HX9:=hU Ow;have Oa:=hU (show W9.there (w.heap.size+1) 0 (#[.int .i64 x.kind,.bool x.goal,.string x.id,.slice B1 x.attr.length d1,.slice B2 x.value.length d2,.bool x.acc,.slice E3 L.length d3]:Array Value).size from Bb.there);have ly:=hU (show W9.rangeAt w.heap.size 0 [.int .i64 x.kind,.bool x.goal,.string x.id,.slice B1 x.attr.length d1,.slice B2 x.value.length d2,.bool x.acc,.slice E3 L.length d3] from Ow.range);have hrl9:=Bb.lt;have l3:=r3.keep (w':=W9.setCells (w.heap.size+1) 0 [.int .i64 x.kind,.bool x.goal,.string x.id,.slice B1 x.attr.length d1,.slice B2 x.value.length d2,.bool x.acc,.slice E3 L.length d3]) (D':=NewD w.heap.size (W9.setCells (w.heap.size+1) 0 [.int .i64 x.kind,.bool x.goal,.string x.id,.slice B1 x.attr.length d1,.slice B2 x.value.length d2,.bool x.acc,.slice E3 L.length d3])) YOz (fun j hj hl=>⟨⟨by have:=hj.1;have:=Ue.o.size;omega,YOz⟩,(Z1d _ _ _ _ _ YQe).trans (D7 j YQe)⟩);have l1:=Pb.o.keep (w':=W9.setCells (w.heap.size+1) 0 [.int .i64 x.kind,.bool x.goal,.string x.id,.slice B1 x.attr.length d1,.slice B2 x.value.length d2,.bool x.acc,.slice E3 L.length d3]) (D':=NewD w.heap.size (W9.setCells (w.heap.size+1) 0 [.int .i64 x.kind,.bool x.goal,.string x.id,.slice B1 x.attr.length d1,.slice B2 x.value.length d2,.bool x.acc,.slice E3 L.length d3])) YOz (fun j hj hl=>⟨⟨Y7,YOz⟩,(Z1d _ _ _ _ _ Y7).trans ((D7 j Y7).trans (wu.block j hl))⟩);have l2:=Rp.o.keep (w':=W9.setCells (w.heap.size+1) 0 [.int .i64 x.kind,.bool x.goal,.string x.id,.slice B1 x.attr.length d1,.slice B2 x.value.length d2,.bool x.acc,.slice E3 L.length d3]) (D':=NewD w.heap.size (W9.setCells (w.heap.size+1) 0 [.int .i64 x.kind,.bool x.goal,.string x.id,.slice B1 x.attr.length d1,.slice B2 x.value.length d2,.bool x.acc,.slice E3 L.length d3])) YOz (fun j hj hl=>⟨⟨Y7,YOz⟩,(Z1d _ _ _ _ _ Y7).trans ((D7 j Y7).trans (wu.block j hl))⟩);have R1:=hU l1;have R2:=hU l2;have R3:=hU l3;clear Ma Ow Bb Rl wu r3 hE3 l1 l2 l3 Sj D7 hzf x6;go_upto_region 4 with fail;rw [←Gh];clear Gh u6 g6;(go_wp2_with (first|(with_reducible refine wpList_load_mid rfl 77 _ rfl w.heap.size 0 rfl _ _ ly.o Tryz.underlying77 rfl Yb ?_)|(with_reducible refine wpList_store_mid rfl 77 _ _ rfl (w.heap.size+1) 0 #[.int .i64 x.kind,.bool x.goal,.string x.id,.slice B1 x.attr.length d1,.slice B2 x.value.length d2,.bool x.acc,.slice E3 L.length d3] rfl rfl Oa.o Yb Yb ?_)));refine Ykv ?_;have S0:Below w.heap.size w (W9.setCells (w.heap.size+1) 0 [.int .i64 x.kind,.bool x.goal,.string x.id,.slice B1 x.attr.length d1,.slice B2 x.value.length d2,.bool x.acc,.slice E3 L.length d3]):=Below.setCells' _ _ yq.o Ya
 refine bodyPost_ret (v:=.agg #[.int .i64 x.kind,.bool x.goal,.string x.id,.slice B1 x.attr.length d1,.slice B2 x.value.length d2,.bool x.acc,.slice E3 L.length d3]) ?_ rfl ?_
 · exact Z1j (t:=2) (T:=77) rfl _ _ (w.heap.size+1) [.int .i64 x.kind,.bool x.goal,.string x.id,.slice B1 x.attr.length d1,.slice B2 x.value.length d2,.bool x.acc,.slice E3 L.length d3] _ rfl (Zsy W9 (w.heap.size+1) 0 [.int .i64 x.kind,.bool x.goal,.string x.id,.slice B1 x.attr.length d1,.slice B2 x.value.length d2,.bool x.acc,.slice E3 L.length d3] Oa.o) Tryz.underlying77 rfl Yb
 · have hxc:=HXC.o
   subst hxc;exact ⟨B1,d1,B2,d2,E3,d3,rfl,R1.o,R2.o,R3.o,S0⟩
theorem Zhj :∀n,Z9j 52 n
 | 0=>Zb6 0 (fun m h=>Ya)
 | n+1=>Zb6 (n+1) (fun m h=>by obtain rfl:m=n:=by omega
                               exact Zhj m)
def SmH (n:Nat) (h:Z43):Prop:=SmC (n+1) h.cond∧h.binds.length≤1000
def SmR (n:Nat) (r:Z0c):Prop:=r.elems.length≤1000∧r.holes.length≤1000∧r.aparts.length≤1000∧r.news.length≤1000∧∀h∈r.holes,SmH n h
theorem Zhs {n:Nat}{D:Nat→Prop}{w:World}{y:Z43}{Ay1 Ay2 Ay3 Ay4:Option Addr}{cy1 cy2 cy3 cy4:Nat}(h1:RowR Z07 D w Ay1 cy1 y.cond.attr) (h2:RowR Z07 D w Ay2 cy2 y.cond.value) (h3:RowR (Z09 n) D w Ay3 cy3 y.cond.conds) (h4:RowR Z86 D w Ay4 cy4 y.binds) :
 (Z0v n).rep D w y (Q0o y Ay1 cy1 Ay2 cy2 Ay3 cy3 Ay4 cy4):=⟨Ay1,cy1,Ay2,cy2,Ay3,cy3,Ay4,cy4,rfl,h1,h2,h3,h4⟩
def Z8n (n:Nat) (D:Nat→Prop) (w:World) (r:Z0c) (A1:Option Addr) (c1:Nat) (A2:Option Addr) (c2:Nat) (A3:Option Addr) (c3:Nat) (A4:Option Addr) (c4:Nat):Prop:=
 RowR Z1f D w A1 c1 r.elems∧RowR (Z0v n) D w A2 c2 r.holes∧RowR Z3j D w A3 c3 r.aparts∧RowR Z3n D w A4 c4 r.news
theorem Z8n.keep {n:Nat}{D D':Nat→Prop}{w w':World}{r:Z0c}{A1:Option Addr}{c1:Nat}{A2:Option Addr}{c2:Nat}{A3:Option Addr}{c3:Nat}{A4:Option Addr}{c4:Nat}(h:Z8n n D w r A1 c1 A2 c2 A3 c3 A4 c4) (hs:w.heap.size≤w'.heap.size) (hk :∀k,D k→k<w.heap.size→D' k∧w'.heap[k]? = w.heap[k]?):Z8n n D' w' r A1 c1 A2 c2 A3 c3 A4 c4:=
 ⟨h.1.keep hs hk,h.2.1.keep hs hk,h.2.2.1.keep hs hk,h.2.2.2.keep hs hk⟩
def Znm (n:Nat) (r:Z0c) (w:World) (en:Ending) (w':World):Prop:=
 ∃A1 c1 A2 c2 A3 c3 A4 c4,en = .returned (.agg (Q0t r A1 c1 A2 c2 A3 c3 A4 c4))∧Z8n n (NewD w.heap.size w') w' r A1 c1 A2 c2 A3 c3 A4 c4∧Below w.heap.size w w'
theorem Blk.setAll {w:World}{g:Nat}{t:TypeId}{cs:Array Value}{vs:List Value}(h:Blk w g t cs) (hl:cs.size=vs.length):Blk (w.setCells g 0 vs) g t vs.toArray:=by
 exact Y7o
theorem Zkb {w:World}{e:TypeId}{size n c:Nat}{A:Option Addr}{xs:List Value}{g:Nat}{t:TypeId}{cs:Array Value}{D:Nat→Prop}(h:w.ownsRow 0 e size (.slice A n c) n xs) (hg:Blk w g t cs) (hne:e≠t) (hA:AIn A D):AIn A (fun j=>D j∧j≠g):=by
 intro a ha;refine ⟨hA a ha,fun hb=>?_⟩;subst ha;exact Z01 h hg hne (by simp [Value.ownBlock,hb])
theorem Z1i {w:World}{e:TypeId}{size n:Nat}{v:Value}{xs:List Value}{g:Nat}{t:TypeId}{cs:Array Value}(h:w.ownsRow 0 e size v n xs) (hg:Blk w g t cs) (hne:e≠t) (o:Nat) (vs:List Value):(w.setCells g o vs).ownsRow 0 e size v n xs:=
 Z0s h (Fr.setCells vs o (Fr.refl (· = g) w) (.inl rfl)) (fun j hj ej=>Z01 h hg hne (by rw [←ej];exact hj))
def RH (n g:Nat) (r:Z0c) (W1:World) (E1:Option Addr) (d1:Nat) (E3:Option Addr) (d3:Nat) (E4:Option Addr) (d4:Nat) (k:Nat) (A:Option Addr) (c:Nat) (wr:World):Prop:=
 Blk wr g 61 #[.int .i64 r.num,.int .i64 r.level,.slice E1 r.elems.length d1,.slice A k c,.slice E3 r.aparts.length d3,.slice E4 r.news.length d4]∧∃C:Nat→Prop,¬C g∧(∀j,C j→NewD W1.heap.size wr j)∧W1.heap.size≤g∧RowR Z1f C wr E1 d1 r.elems∧RowR Z3j C wr E3 d3 r.aparts∧RowR Z3n C wr E4 d4 r.news∧
  OwnC (Z0v n) 80 C wr (.slice A (r.holes.take k).length c) (r.holes.take k)∧AIn A (NewD W1.heap.size wr)∧Below W1.heap.size W1 wr
section
variable {n g:Nat}{r:Z0c}{W1 wr:World}{E1:Option Addr}{d1:Nat}{E3:Option Addr}{d3:Nat}{E4:Option Addr}{d4:Nat}{k:Nat}{A:Option Addr}{c:Nat}{C:Nat→Prop}
theorem RH.step {y:Z43}{W7 w8:World}{A':Option Addr}{c':Nat}(hG:Blk wr g 61 #[.int .i64 r.num,.int .i64 r.level,.slice E1 r.elems.length d1,.slice A k c,.slice E3 r.aparts.length d3,.slice E4 r.news.length d4]) (hCg :¬C g) (hC :∀j,C j→NewD W1.heap.size wr j) (hg:W1.heap.size≤g) (t1:RowR Z1f C wr E1 d1 r.elems) (t3:RowR Z3j C wr E3 d3 r.aparts) (t4:RowR Z3n C wr E4 d4 r.news)
 (hO:OwnC (Z0v n) 80 C wr (.slice A (r.holes.take k).length c) (r.holes.take k)) (hA:AIn A (NewD W1.heap.size wr)) (hB:Below W1.heap.size W1 wr) (hk1:k+1≤r.holes.length) (hy:r.holes.take k ++ [y]=r.holes.take (k+1)) (h7:Below wr.heap.size wr W7)
 (ha:Z5u (Z0v n) 80 (Plus C wr W7) W7 (.slice A (r.holes.take k).length c) (r.holes.take k ++ [y]) (.slice A' (k+1) c') w8):RH n g r W1 E1 d1 E3 d3 E4 d4 (k+1) A' c' (w8.setCell ⟨g,3,none⟩ (.slice A' (k+1) c')):=by
 obtain ⟨a1,a2,a3⟩:=ha;rw [hy] at a1;have hz:=hB.size;have hz7:=h7.size;have hz8:=a2.size;have hgl:=hG.lt
 have hnA :∀j,(Value.slice A (r.holes.take k).length c).ownBlock=some j→W1.heap.size≤j∧j<wr.heap.size:=fun j hj=>by
  rcases A with _|a
  · simp [Value.ownBlock] at hj
  · simp only [Value.ownBlock,Option.some.injEq] at hj
    have:=hA a rfl;exact ⟨by rw [←hj];exact this.1,by rw [←hj];exact this.2⟩
 have Vx:(r.holes.take (k+1)).length=k+1:=Z1u hk1;have ho:=Classical.choose_spec hO;have Xf:(Value.slice A (r.holes.take k).length c).ownBlock≠some g:=Z01 ho.1 hG Yc;have zf:Blk w8 g 61 #[.int .i64 r.num,.int .i64 r.level,.slice E1 r.elems.length d1,.slice A k c,.slice E3 r.aparts.length d3,.slice E4 r.news.length d4]:=(hG.new_ h7).grown a2 Xf;have ho8:=Classical.choose_spec a1;have hne8:(Value.slice A' (k+1) c').ownBlock≠some g:=Z01 ho8.1 zf Yc
 have hCP :∀j,Plus C wr W7 j→NewD W1.heap.size W7 j:=fun j hj=>by
  rcases hj with hj|hj
  · have:=hC j hj;exact ⟨this.1,by have:=this.2;omega⟩
  · exact ⟨Ya,hj.2⟩
 have hgP :¬Plus C wr W7 g:=fun h=>by
  rcases h with h|h
  · exact hCg h
  · omega
 have ho7 :∀j,(Value.slice A (r.holes.take k).length c).ownBlock=some j→¬Plus C wr W7 j:=fun j hj h=>by
  rcases h with h|h
  · exact hO.off j hj h
  · have:=(hnA j hj).2;omega
 have keep :∀j,C j→j<wr.heap.size→Plus C wr W7 j∧(w8.setCell ⟨g,3,none⟩ (.slice A' (k+1) c')).heap[j]? = wr.heap[j]?:=fun j hj hl=>by
  refine ⟨.inl hj,?_⟩;rw [Below.heap_setCell _ _ _ _ (by dsimp only;intro e;subst e;exact hCg hj),a2.block j Ya (fun e=>hO.off j e.symm hj)];exact h7.block j hl
 have Kt:wr.heap.size≤(w8.setCell ⟨g,3,none⟩ (.slice A' (k+1) c')).heap.size:=Yk;refine ⟨zf.set_ 3 _,Plus C wr W7,hgP,fun j hj=>?_,hg,t1.keep Kt keep,t3.keep Kt keep,t4.keep Kt keep,?_,?_,?_⟩
 · have:=hCP j hj;exact ⟨this.1,by have:=this.2;simp;omega⟩
 · rw [Vx]
   exact a1.fr (M:=(· = g)) ((Fr.refl (· = g) w8).setCell (p:=⟨g,3,none⟩) (.inl rfl) _) (fun j hj e=>by subst e;exact hgP hj) (fun j hj e=>by subst e;exact hne8 hj)
 · intro a ha
   subst ha;have sd:=a1.lt a.block rfl;refine ⟨?_,by simpa using sd⟩;rcases a3 with a3|a3
   · exact (hnA a.block (a3 ▸ rfl)).1
   · simp only [Value.ownBlock,Option.some.injEq] at a3
     omega
 · exact ((hB.trans (h7.mono hz)).grown a2 Ya (fun j hj=>(hnA j hj).1)).setCell (by dsimp only;exact hg) _
theorem RH.fin (hk:k=r.holes.length) (hC :∀j,C j→NewD W1.heap.size wr j) (t1:RowR Z1f C wr E1 d1 r.elems) (t3:RowR Z3j C wr E3 d3 r.aparts) (t4:RowR Z3n C wr E4 d4 r.news)
 (hO:OwnC (Z0v n) 80 C wr (.slice A (r.holes.take k).length c) (r.holes.take k)) (hA:AIn A (NewD W1.heap.size wr)):Z8n n (NewD W1.heap.size wr) wr r E1 d1 A c E3 d3 E4 d4:=by
 subst hk;rw [Ztc] at hO;exact ⟨t1.weaken hC,hO.row hC hA,t3.weaken hC,t4.weaken hC⟩
end
theorem Zo9 (n:Nat) (r:Z0c) (A1:Option Addr) (c1:Nat) (A2:Option Addr) (c2:Nat) (A3:Option Addr) (c3:Nat) (A4:Option Addr) (c4:Nat){D:Nat→Prop}(w:World) (hr:Z8n n D w r A1 c1 A2 c2 A3 c3 A4 c4) (hs:SmR n r) :
 Calls Tryz.prog 22 #[.agg (Q0t r A1 c1 A2 c2 A3 c3 A4 c4)] w (Znm n r w):=by
 obtain ⟨j0,E6,ye,Xh,L7⟩:=infp Zhc;obtain ⟨s1,s2,s3,s4,s5⟩:=hs;obtain ⟨r1,r2,r3,r4⟩:=hr;have hcap2:=r2.cap;have HS:=hU s5;have R1:=hU (RowR.rd (hs:=Z0j.cells_length) r1);have R2:=hU r2;have R3:=hU (RowR.rd (hs:=Z1a.cells_length) r3);have R4:=hU (RowR.rd (hs:=Sym.cells_length) r4);clear s5 r1 r2 r3 r4;go_enter Tryz.func22,Tryz.ntmps22;go_upto_region 1 with fail;obtain ⟨W1,Wo⟩:∃W1,W1=(w.alloc (.cells (Q0t r A1 c1 A2 c2 A3 c3 A4 c4) 61)).alloc (.cells Q2j 61):=⟨_,rfl⟩;have Ky:Below w.heap.size w W1:=Y6;have Ia:Blk W1 w.heap.size 61 (Q0t r A1 c1 A2 c2 A3 c3 A4 c4):=YLa;(have En:Blk W1 (w.heap.size+1) 61 Q2j:=by rw [Wo];have:=Blk.new (w.alloc (.cells (Q0t r A1 c1 A2 c2 A3 c3 A4 c4) 61)) 61 Q2j;simpa using this);(have rm:W1.heap.size=w.heap.size+2:=by rw [Wo];simp);rw [←Wo];clear Wo;obtain ⟨p0,p1,p2,p3,p4,p5⟩:=Ia.c6;have Nk:=hU Ky;have Ld:=hU Ia;have Nq:=hU En;have ja:=hU rm;have hxl1:=Ia.lt;clear Ky Ia En rm
 go_cut [3] from 5 (fun p wc=>∃g E1 d1 E3 d3 E4 d4,p = .pointer (some ⟨g,0,none⟩)∧W1.heap.size≤g∧Blk wc g 61 #[.int .i64 r.num,.int .i64 r.level,.slice E1 r.elems.length d1,.slice none 0 0,.slice E3 r.aparts.length d3,.slice E4 r.news.length d4]∧Below W1.heap.size W1 wc∧
  (wc.ownsRow 0 52 14 (.slice E1 r.elems.length d1) r.elems.length (r.elems.flatMap Z0j.cells)∧AIn E1 (NewD W1.heap.size wc))∧
  (wc.ownsRow 0 122 7 (.slice E3 r.aparts.length d3) r.aparts.length (r.aparts.flatMap Z1a.cells)∧AIn E3 (NewD W1.heap.size wc))∧
  (wc.ownsRow 0 41 3 (.slice E4 r.news.length d4) r.news.length (r.news.flatMap Sym.cells)∧AIn E4 (NewD W1.heap.size wc)))
 case first=>
  refine Z1g (fun w9=>Below W1.heap.size W1 w9) [0,1,2,3,4,5,7,8,10,11,13] [1,3,5,8,11] (.fork [(0,0),(1,1),(2,0),(3,1),(4,0),(5,1),(7,0),(8,1),(10,0),(11,1)] 6 (.fork [] 9 (.fork [] 12 (.fin [(13,0),(14,2),(15,2)]) 14 (.fin [(12,2),(13,0),(15,2)])) 14 (.fin [(9,2),(12,2),(13,0),(15,2)])) 14 (.fin [(6,2),(9,2),(12,2),(13,0),(15,2)])) Yb Yb Yb (fun KK hKK=>?_);refine Ypt ?_;refine Ydr ?_;refine Z0p ⟨?_,?_⟩
  · refine Y03 ?_;intro K9 hK9;refine (Zh1 A1 c1 r.elems _ (R1.o.new_ (Nk.o.trans (((Zst W1.heap.size W1).drew).mono YFx))) Ya).mono ?_;rintro e w1 ⟨E1,d1,rfl,ho,hA,hb⟩;have El:=hU ho;have ru:=hU (hA.mono (fun j hj=>(⟨Zt6 ((Zst W1.heap.size W1).drew).size hj.1,hj.2⟩:NewD W1.heap.size w1 j)));have qe:=hU (((Zst W1.heap.size W1).drew).trans (hb.mono ((Zst W1.heap.size W1).drew).size));clear ho hA hb;refine hK9 _ _ (fun _=>qe.o) ?_;clear hK9 K9;refine Ymp ?_;refine Z0p ⟨?_,?_⟩
    · refine Y03 ?_;intro K9 hK9;refine (Zbs A3 c3 r.aparts _ (R3.o.new_ (Nk.o.trans ((qe.o).mono YFx))) Ya).mono ?_;refine Ymc ?_;intro w3 E3 d3 ho hA hb El ru;refine Yhi ?_;intro mt zx qc;clear ho hA hb;refine hK9 _ _ (fun _=>qc.o) ?_;clear hK9 K9;refine Ymp ?_;refine Z0p ⟨?_,?_⟩
      · refine Y03 ?_;intro K9 hK9;refine Yme ?_;rintro e w4 ⟨E4,d4,rfl,ho,hA,hb⟩;refine Y5b ?_;intro El ru mt zx;refine Yal ?_;intro zu xh Xi;clear ho hA hb;refine hK9 _ _ (fun _=>Xi.o) ?_;clear hK9 K9;refine Ymp ?_;refine Yiy ?_;intro K9 hK9;go_simp;have hb:Below w4.heap.size w4 (w4.alloc (.cells Q2j 61)):=(Zst _ _).alloc (Zsu _) _;refine Y5b ?_;intro El ru mt zx;have zu:=hU (Z02 zu.o hb);have xh:=hU (xh.o.mono (fun j hj=>NewD.up (Zsu _) (hb).size j hj));have HK:=hU (show Blk (w4.alloc (.cells Q2j 61)) w4.heap.size 61 Q2j from Blk.new _ _ _);have gj:=hU (show W1.heap.size≤w4.heap.size from (Xi.o).size);have lc:=hU ((Xi.o).trans (hb.mono (Xi.o).size));clear hb;refine hK9 _ _ (lc.o) ?_;clear hK9 K9;(try go_frame);refine Z1n (fun K9 hK9=>?_);refine Z0h rfl 61 _ _ rfl w4.heap.size 0 #[.int .i64 r.num,.int .i64 r.level,.slice E1 r.elems.length d1,.slice none 0 0,.slice E3 r.aparts.length d3,.slice E4 r.news.length d4] rfl rfl (show _ from HK.o.there) Yb Yb ?_;refine hK9 _ _ (Below.setCells' _ _ (lc.o) gj.o) ?_;clear hK9 K9;(try go_frame);refine Y1g ?_;clear hKK KK
        go_wp2_with fail;go_meet
        case rel=>exact ⟨w4.heap.size,E1,d1,E3,d3,E4,d4,rfl,gj.o,HK.o.setAll rfl,Below.setCells' _ _ (lc.o) gj.o,⟨Z1i El.o HK.o Yc _ _,ru.o.mono (fun j hj=>⟨hj.1,YZf⟩)⟩,⟨Z1i mt.o HK.o Yc _ _,zx.o.mono (fun j hj=>⟨hj.1,YZf⟩)⟩,⟨Z1i zu.o HK.o Yc _ _,xh.o.mono (fun j hj=>⟨hj.1,YZf⟩)⟩⟩
      · refine Y03 ?_;intro K9 hK9;have hb:Below w3.heap.size w3 (w3.alloc (.cells Q2j 61)):=(Zst _ _).alloc (Zsu _) _;refine Y5b ?_;intro El ru mt zx;have HK:=hU (show Blk (w3.alloc (.cells Q2j 61)) w3.heap.size 61 Q2j from Blk.new _ _ _);have gj:=hU (show W1.heap.size≤w3.heap.size from (qc.o).size);have lc:=hU ((qc.o).trans (hb.mono (qc.o).size));clear hb;refine hK9 _ _ (fun _=>lc.o) ?_;clear hK9 K9;refine Ymp ?_;refine Z1n (fun K9 hK9=>?_);go_simp;refine (Zd8 A4 c4 r.news _ (R4.o.new_ (Nk.o.trans ((lc.o).mono YFx))) Ya).mono ?_;rintro e w4 ⟨E4,d4,rfl,ho,hA,hb⟩;refine Y5b ?_;intro El ru mt zx;have HK:=hU (HK.o.new_ hb);have zu:=hU ho;have xh:=hU (hA.mono (fun j hj=>(⟨Zt6 (lc.o).size hj.1,hj.2⟩:NewD W1.heap.size w4 j)));have Xi:=hU ((lc.o).trans (hb.mono (lc.o).size));clear ho hA hb;refine hK9 _ _ (Xi.o) ?_;clear hK9 K9;(try go_frame);refine Yiy ?_;intro K9 hK9;refine Z0h rfl 61 _ _ rfl w3.heap.size 0 #[.int .i64 r.num,.int .i64 r.level,.slice E1 r.elems.length d1,.slice none 0 0,.slice E3 r.aparts.length d3,.slice E4 r.news.length d4] rfl rfl (show _ from HK.o.there) Yb Yb ?_;refine hK9 _ _ (Below.setCells' _ _ (Xi.o) gj.o) ?_;clear hK9 K9;(try go_frame);refine Y1g ?_;clear hKK KK;go_wp2_with fail
        go_meet
        case rel=>exact ⟨w3.heap.size,E1,d1,E3,d3,E4,d4,rfl,gj.o,HK.o.setAll rfl,Below.setCells' _ _ (Xi.o) gj.o,⟨Z1i El.o HK.o Yc _ _,ru.o.mono (fun j hj=>⟨hj.1,YZf⟩)⟩,⟨Z1i mt.o HK.o Yc _ _,zx.o.mono (fun j hj=>⟨hj.1,YZf⟩)⟩,⟨Z1i zu.o HK.o Yc _ _,xh.o.mono (fun j hj=>⟨hj.1,YZf⟩)⟩⟩
    · refine Y03 ?_;intro K9 hK9;have hb:Below w1.heap.size w1 (w1.alloc (.cells Q2j 61)):=(Zst _ _).alloc (Zsu _) _;have El:=hU (Z02 El.o hb);have ru:=hU (ru.o.mono (fun j hj=>NewD.up (Zsu _) (hb).size j hj));have HK:=hU (show Blk (w1.alloc (.cells Q2j 61)) w1.heap.size 61 Q2j from Blk.new _ _ _);have gj:=hU (show W1.heap.size≤w1.heap.size from (qe.o).size);have lc:=hU ((qe.o).trans (hb.mono (qe.o).size));clear hb;refine hK9 _ _ (fun _=>lc.o) ?_;clear hK9 K9;refine Ymp ?_;refine Z1n (fun K9 hK9=>?_);go_simp;refine (Zbs A3 c3 r.aparts _ (R3.o.new_ (Nk.o.trans ((lc.o).mono YFx))) Ya).mono ?_;refine Ymc ?_;intro w3 E3 d3 ho hA hb El ru;have HK:=hU (HK.o.new_ hb);have mt:=hU ho;have zx:=hU (hA.mono (fun j hj=>(⟨Zt6 (lc.o).size hj.1,hj.2⟩:NewD W1.heap.size w3 j)));have qc:=hU ((lc.o).trans (hb.mono (lc.o).size));clear ho hA hb;refine hK9 _ _ (qc.o) ?_;clear hK9 K9;refine Yml ?_;intro w4 E4 d4 El ru mt zx HK zu xh Xi;intro K9 hK9;refine Z0h rfl 61 _ _ rfl w1.heap.size 0 #[.int .i64 r.num,.int .i64 r.level,.slice E1 r.elems.length d1,.slice none 0 0,.slice E3 r.aparts.length d3,.slice E4 r.news.length d4] rfl rfl (show _ from HK.o.there) Yb Yb ?_;refine hK9 _ _ (Below.setCells' _ _ (Xi.o) gj.o) ?_;clear hK9 K9;(try go_frame);refine Y1g ?_;clear hKK KK;go_wp2_with fail;go_meet
      case rel=>exact ⟨w1.heap.size,E1,d1,E3,d3,E4,d4,rfl,gj.o,HK.o.setAll rfl,Below.setCells' _ _ (Xi.o) gj.o,⟨Z1i El.o HK.o Yc _ _,ru.o.mono (fun j hj=>⟨hj.1,YZf⟩)⟩,⟨Z1i mt.o HK.o Yc _ _,zx.o.mono (fun j hj=>⟨hj.1,YZf⟩)⟩,⟨Z1i zu.o HK.o Yc _ _,xh.o.mono (fun j hj=>⟨hj.1,YZf⟩)⟩⟩
  · refine Y03 ?_;intro K9 hK9;have hb:Below W1.drew.heap.size W1.drew (W1.drew.alloc (.cells Q2j 61)):=(Zst _ _).alloc (Zsu _) _;have HK:=hU (show Blk (W1.drew.alloc (.cells Q2j 61)) W1.heap.size 61 Q2j from Blk.new _ _ _);have gj:=hU (show W1.heap.size≤W1.heap.size from ((Zst W1.heap.size W1).drew).size);have lc:=hU (((Zst W1.heap.size W1).drew).trans (hb.mono ((Zst W1.heap.size W1).drew).size));clear hb;refine hK9 _ _ (fun _=>lc.o) ?_;clear hK9 K9;refine Ymp ?_;refine Z1n (fun K9 hK9=>?_);go_simp;refine (Zh1 A1 c1 r.elems _ (R1.o.new_ (Nk.o.trans ((lc.o).mono YFx))) Ya).mono ?_;rintro e w1 ⟨E1,d1,rfl,ho,hA,hb⟩;have HK:=hU (HK.o.new_ hb);have El:=hU ho;have ru:=hU (hA.mono (fun j hj=>(⟨Zt6 (lc.o).size hj.1,hj.2⟩:NewD W1.heap.size w1 j)));have qe:=hU ((lc.o).trans (hb.mono (lc.o).size));clear ho hA hb;refine hK9 _ _ (qe.o) ?_;clear hK9 K9;(try go_frame);refine Z1n (fun K9 hK9=>?_);go_simp;refine (Zbs A3 c3 r.aparts _ (R3.o.new_ (Nk.o.trans ((qe.o).mono YFx))) Ya).mono ?_;refine Ymc ?_;intro w3 E3 d3 ho hA hb El ru;have HK:=hU (HK.o.new_ hb);refine Yhi ?_;intro mt zx qc;clear ho hA hb;refine hK9 _ _ (qc.o) ?_;clear hK9 K9;refine Yml ?_;intro w4 E4 d4 El ru mt zx HK zu xh Xi;intro K9 hK9;refine Z0h rfl 61 _ _ rfl W1.heap.size 0 #[.int .i64 r.num,.int .i64 r.level,.slice E1 r.elems.length d1,.slice none 0 0,.slice E3 r.aparts.length d3,.slice E4 r.news.length d4] rfl rfl (show _ from HK.o.there) Yb Yb ?_;refine hK9 _ _ (Below.setCells' _ _ (Xi.o) gj.o) ?_;clear hK9 K9;(try go_frame);refine Y1g ?_;clear hKK KK;go_wp2_with fail;go_meet
    case rel=>exact ⟨W1.heap.size,E1,d1,E3,d3,E4,d4,rfl,gj.o,HK.o.setAll rfl,Below.setCells' _ _ (Xi.o) gj.o,⟨Z1i El.o HK.o Yc _ _,ru.o.mono (fun j hj=>⟨hj.1,YZf⟩)⟩,⟨Z1i mt.o HK.o Yc _ _,zx.o.mono (fun j hj=>⟨hj.1,YZf⟩)⟩,⟨Z1i zu.o HK.o Yc _ _,xh.o.mono (fun j hj=>⟨hj.1,YZf⟩)⟩⟩
 case rest=>
  obtain ⟨g,E1,d1,E3,d3,E4,d4,rfl,hg,hG,hB,⟨o1,a1⟩,⟨o3,a3⟩,⟨o4,a4⟩⟩:=hcut;have t1:=RowR.of_rd (hs:=Z0j.cells_length) (Z0e Z0j.cells_length o1) (Zkb o1 hG Yc a1);have t3:=RowR.of_rd (hs:=Z1a.cells_length) (Z0e Z1a.cells_length o3) (Zkb o3 hG Yc a3);have t4:=RowR.of_rd (hs:=Sym.cells_length) (Z0e Sym.cells_length o4) (Zkb o4 hG Yc a4);have h0:RH n g r W1 E1 d1 E3 d3 E4 d4 0 none 0 wc:=⟨hG,_,fun h=>h.2 rfl,fun j hj=>hj.1,hg,t1,t3,t4,OwnC.nil _ _ _ _,AIn.none_ _,hB⟩;have H0:=hU h0;clear t1 t3 t4 o1 o3 o4 a1 a3 a4 p0 p1 p2 p3 p4 p5 hG hB h0;go_wp2_with fail
  go_loopw [4] (fun i wr=>∃(k:Nat) (A:Option Addr) (c:Nat),i = .int .i64 k∧k≤r.holes.length∧RH n g r W1 E1 d1 E3 d3 E4 d4 k A c wr) (fun i wr=>r.holes.length - (intOf i).toNat)
  case atStart=>exact ⟨0,none,0,rfl,Nat.zero_le _,H0.o⟩
  case round=>
   obtain ⟨k,A,c,rfl,hk,hRH⟩:=hrel;obtain ⟨hG,C,hCg,hC,_,t1,t3,t4,hO,hA,hB⟩:=hRH;have hzr:=hB.size;have hX:=Ld.o.below hB YFx;obtain ⟨m0,m1,m2,m3,m4,m5⟩:=hX.c6;obtain ⟨n0,n1,n2,n3,n4,n5⟩:=hG.c6;have hgl:=hG.lt;have hxl:=hX.lt;by_cases hlt:k<r.holes.length
   · have Dz:=(R2.o.new_ Nk.o).keep (D':=D) hB.size (fun j hj hl=>⟨hj,hB.block j hl⟩)
     obtain ⟨gh,oh,so,Bv,Xj,qw,qy,Mg,Sm,f7,sf,hDg,hgh,q0,q1,q2,q3,q4,q5,q6,q7,J8,Cq,sq,dd⟩:=Zbm Dz hlt;subst sf;obtain ⟨y,hy⟩:∃y,y=r.holes[k]:=⟨_,rfl⟩;(have lh:SmH n y:=by rw [hy];exact HS.o _ (Ztf hlt));rw [←hy] at q0 q1 q2 q3 q4 q5 q6 q7 J8 Cq sq dd;have b1:(0:Int)≤(k:Int):=Ya;have b2:(k:Int)<(r.holes.length:Int):=Ya;have HY:=hU hy;have rv:=hU J8;have dr:=hU Cq;have n7:=hU sq;have HY4:=hU (RowR.rd (hs:=Z0t.cells_length) dd);have Mk:=hU lh;have HG:=hU hG;have HC:=hU hC;have HO:=hU hO
     have Ac:=hU (show ∀W7 w8 A' c',Below wr.heap.size wr W7→Z5u (Z0v n) 80 (Plus C wr W7) W7 (.slice A (r.holes.take k).length c) (r.holes.take k ++ [y]) (.slice A' (k+1) c') w8→RH n g r W1 E1 d1 E3 d3 E4 d4 (k+1) A' c' (w8.setCell ⟨g,3,none⟩ (.slice A' (k+1) c')) from
      fun W7 w8 A' c' h7 ha=>RH.step hG hCg hC hg t1 t3 t4 hO hA hB Ya (by rw [hy];exact Z2w hlt) h7 ha)
     clear hy Dz J8 Cq sq dd lh hG hCg hC t1 t3 t4 hO hA hB hX;go_wp2_with fail;refine Z03 (fun w9=>Below wr.heap.size wr w9) [(0,0),(1,1),(2,0),(3,1),(4,0),(5,0),(6,0),(7,1),(9,0),(10,1),(11,0),(12,0),(13,0),(14,1),(8,2),(15,2),(16,0),(17,2),(18,2),(19,0),(20,2)] Yb Yb (fun KK hKK=>?_);refine Ybp ?_;refine Ysm ?_;intro K9 hK9;refine (Zhj n y.cond so Bv Xj qw qy Mg D _ (rv.o.new_ ((Zst _ _).drew)) (dr.o.new_ ((Zst _ _).drew)) (n7.o.new_ ((Zst _ _).drew)) Mk.o.1).mono ?_;rintro e wa ⟨vx,j7,lu,lr,Be,Ot,rfl,g1,g2,g3,Cu⟩;have mx:=hU (show Below wr.heap.size wr wa from ((Zst wr.heap.size wr).drew).trans Cu);refine Ys5 ?_;intro G1 G2 G3;clear g1 g2 g3 Cu;refine hK9 _ _ mx.o ?_;clear hK9 K9;refine Ysm ?_;intro K9 hK9;refine (Zqu Sm f7 y.binds _ (HY4.o.new_ mx.o) (by have:=Mk.o.2;omega)).mono ?_;rintro e wb ⟨Uu,l7,rfl,ho,O5,Oq⟩;have el:=hU (mx.o.trans (Oq.mono mx.o.size));have G4:=hU ((RowR.of_rd (hs:=Z0t.cells_length) (Z0e Z0t.cells_length ho) O5).weaken (fun j hj=>(⟨Zt6 mx.o.size hj.1,hj.2⟩:NewD wr.heap.size wb j)));have G1:=hU (G1.o.newD Oq (Zsu _));have G2:=hU (G2.o.newD Oq (Zsu _));have G3:=hU (G3.o.newD Oq (Zsu _));clear ho O5 Oq;refine hK9 _ _ el.o ?_;clear hK9 K9;refine Ywa ?_;refine Ysm ?_;intro K9 hK9;have ms:=hU (el.o.alloc el.o.size (.cells (Q0p y vx j7 lu lr Be Ot Uu l7) 80));refine hK9 _ _ ms.o ?_;clear hK9 K9;refine Z1m Yb (fun K9 hK9=>?_);have h9:Below wb.heap.size wb (wb.alloc (.cells (Q0p y vx j7 lu lr Be Ot Uu l7) 80)):=(Zst _ _).alloc (Zsu _) _;have up :∀j,NewD wr.heap.size wb j→j<wb.heap.size→(Plus C wr (wb.alloc (.cells (Q0p y vx j7 lu lr Be Ot Uu l7) 80))) j∧((wb.alloc (.cells (Q0p y vx j7 lu lr Be Ot Uu l7) 80))).heap[j]? = wb.heap[j]?:=fun j hj hl=>⟨.inr ⟨hj.1,Yk⟩,h9.block j hl⟩;have Jn:=Zhs (n:=n) (y:=y) (G1.o.keep h9.size up) (G2.o.keep h9.size up) (G3.o.keep h9.size up) (G4.o.keep h9.size up);have vd:=HO.o.plus ms.o
     have O0 :∀j,Plus C wr (wb.alloc (.cells (Q0p y vx j7 lu lr Be Ot Uu l7) 80)) j→j<((wb.alloc (.cells (Q0p y vx j7 lu lr Be Ot Uu l7) 80))).heap.size:=fun j hj=>by
      rcases hj with hj|hj
      · have:=(HC.o j hj).2;have:=ms.o.size;omega
      · exact hj.2
     have Uh:(r.holes.take k).length+1≤maxLen:=YZ4;have jj:((r.holes.take k).length+1)*136≤140737488355328:=YYe;(have hv:Value.slice A k c = .slice A (r.holes.take k).length c:=by rw [Z1u hk]);refine Z65 _ rfl _ _ 32 rfl 80 j0 _ 8 136 Tryz.underlying32 E6 ye Xh L7 rfl rfl Ya (Plus C wr (wb.alloc (.cells (Q0p y vx j7 lu lr Be Ot Uu l7) 80))) O0 (.slice A (r.holes.take k).length c) (r.holes.take k) hv vd ⟨wb.heap.size,0,none⟩ 1 y (Q0o y vx j7 lu lr Be Ot Uu l7) rfl (Zte (heap_alloc_new _ _)) (by intro u hu;simp only [Ztb,Zth,or_false] at hu;rcases hu with rfl|rfl|rfl|rfl|rfl|rfl|rfl|rfl<;>rfl) Jn Uh jj ?_;intro v' w8 Fz;obtain ⟨A',c',hv',-,-,-⟩:=Fz.1.form;(have O7:(r.holes.take k ++ [y]).length=k+1:=by rw [Ztd,Z1u hk];rfl);rw [O7] at hv';subst hv';have Xf:=Z01 (Classical.choose_spec HO.o).1 HG.o Yc;have zf:=(HG.o.new_ ms.o).grown Fz.2.1 Xf;have Oe:=hU Fz;have u3:=(zf.cell 3).trans rfl;have f3:=zf.frozen 3;have hgl8:=zf.lt;clear h9 up Jn vd O0 Uh jj hv O7 Fz Xf zf;refine Y8n ?_;clear hK9 K9;(repeat ((first|(refine Z05 ?_ (Or.inl ⟨Yd,fun w9=>?_⟩) ?_;rotate_left 1;go_simp;with_reducible rfl)|(refine Z04 ?_ (ms.o) (Or.inl ⟨Yd,fun w9 hw9=>?_⟩) ?_;rotate_left 1;obtain ⟨Do,rr⟩:=Z0i hw9;go_simp;with_reducible rfl)|refine Z05 undef (Or.inr ⟨Yd,rfl⟩) ?_|refine Z04 undef (ms.o) (Or.inr ⟨Yd,rfl⟩) ?_);go_frame));refine Y1l ?_;clear hKK KK;go_wp2_with fail;go_roundw
     case rel=>exact ⟨k+1,A',c',Yn,Ya,Ac.o _ _ _ _ ms.o Oe.o⟩
     case measure=>simp [intOf];omega
   · obtain rfl:k=r.holes.length:=by omega
     have hTe:=RH.fin rfl hC t1 t3 t4 hO hA;have hR:=Nq.o.below hB YFx;have hxn:w.heap.size+1≠g:=YFx;have yq:=hU (Nk.o.trans (hB.mono YFx));have Oa:=hU (show wr.there (w.heap.size+1) 0 ((Q0t r E1 d1 A c E3 d3 E4 d4):Array Value).size from hR.there);have ly:=hU (show wr.rangeAt g 0 (Q0s r E1 d1 A c E3 d3 E4 d4) from by have:=hG.range;exact this);have hrl:=hR.lt;have l9:=hTe.keep (w':=wr.setCells (w.heap.size+1) 0 (Q0s r E1 d1 A c E3 d3 E4 d4)) (D':=NewD w.heap.size (wr.setCells (w.heap.size+1) 0 (Q0s r E1 d1 A c E3 d3 E4 d4))) YOz (fun j hj hl=>⟨⟨Y7,YOz⟩,Z1d _ _ _ _ _ Y7⟩);have L9:=hU l9;clear hTe hR l9 hG hCg hC t1 t3 t4 hO hA hB hX;go_upto_region 6 with fail;(go_wp2_with (first|(with_reducible refine wpList_load_mid rfl 61 _ rfl g 0 rfl (Q0s r E1 d1 A c E3 d3 E4 d4) _ ly.o Tryz.underlying61 rfl Yb ?_)|(with_reducible refine wpList_store_mid rfl 61 _ _ rfl (w.heap.size+1) 0 (Q0t r E1 d1 A c E3 d3 E4 d4) rfl rfl Oa.o Yb Yb ?_)));refine Ykv ?_;have S0:Below w.heap.size w (wr.setCells (w.heap.size+1) 0 (Q0s r E1 d1 A c E3 d3 E4 d4)):=Below.setCells' _ _ yq.o Ya;refine bodyPost_ret (v:=.agg (Q0t r E1 d1 A c E3 d3 E4 d4)) ?_ rfl ⟨E1,d1,A,c,E3,d3,E4,d4,rfl,L9.o,S0⟩;exact Z1j (t:=2) (T:=61) rfl _ _ (w.heap.size+1) (Q0s r E1 d1 A c E3 d3 E4 d4) _ rfl (Zsy wr (w.heap.size+1) 0 (Q0s r E1 d1 A c E3 d3 E4 d4) Oa.o) Tryz.underlying61 rfl Yb
end
section
def plV:List Sym→Sym→Nat
 | [],_=>0
 | x :: l,s=>if x=s then 1 else if plV l s=0 then 0 else plV l s+1
theorem Z83 {s:Sym} :∀{l:List Sym},plV l s=0↔s ∉ l
 | []=>by simp [plV]
 | x :: l=>by
   have ih:=Z83 (s:=s) (l:=l);rw [plV];by_cases h:x=s
   · rw [if_pos h];subst h;simp
   · rw [if_neg h,Ztb]
     by_cases h2:plV l s=0
     · rw [if_pos h2]
       have h3:=ih.1 h2;refine ⟨fun _ e=>e.elim (fun e=>h e.symm) h3,fun _=>rfl⟩
     · rw [if_neg h2]
       refine ⟨fun e=>Ya,fun e=>absurd (ih.2 (fun h4=>e (.inr h4))) h2⟩
theorem Zq3 (s:Sym):∀l:List Sym,plV l s≤l.length
 | []=>Zsu _
 | x :: l=>by
   have ih:=Zq3 s l;rw [plV,Ztg]
   split
   · omega
   · split<;>omega
def putN (ns:List Sym) (s:Sym):List Sym:=if plV ns s=0 then ns ++ [s] else ns
def Z6s (ns:List Sym) (e:Elem):List Sym:=if e.value.kind=1 then putN (putN ns e.id) e.value else putN ns e.id
theorem Z85 (ns:List Sym) (s:Sym):(putN ns s).length≤ns.length+1:=by unfold putN;split<;>simp
theorem Zbc (ns:List Sym) (e:Elem):(Z6s ns e).length≤ns.length+2:=by
 unfold Z6s;have h1:=Z85 ns e.id;have h2:=Z85 (putN ns e.id) e.value
 split<;>omega
theorem Z8v {ns:List Sym}(h:ns.Nodup) (s:Sym):(putN ns s).Nodup:=by
 unfold putN
 split
 · rename_i h2
   rw [List.nodup_append];refine ⟨h,Ye,fun a ha b hb e=>?_⟩;rw [Zua] at hb;subst hb e;exact Z83.1 h2 ha
 · exact h
theorem Ze1 {ns:List Sym}(h:ns.Nodup) (e:Elem):(Z6s ns e).Nodup:=by
 unfold Z6s
 split
 · exact Z8v (Z8v h _) _
 · exact Z8v h _
theorem Zc1 {ns:List Sym}{s t:Sym}:t∈putN ns s↔t∈ns∨t=s:=by
 unfold putN
 split
 · simp
 · rename_i h
   refine ⟨.inl,fun h2=>h2.elim id fun e=>?_⟩;subst e;exact Ztz fun h3=>h (Z83.2 h3)
def idN (ns:List Sym) (s:Sym):Int:=if plV ns s=0 then ns.length+1 else plV ns s
def rkN (ns:List Sym) (s:Sym):Int:=if s.kind≠1 then 0 else if plV ns s=0 then 2 else 1
def Z5n (a b:Bool):Int:=if a=b then 0 else if b=true then -1 else 1
theorem Zq7:TC Z5n:=by
 constructor
 · intro x;simp [Z5n]
 · intro x y;cases x<;>cases y<;>simp [Z5n]
 · intro x y z;cases x<;>cases y<;>cases z<;>simp [Z5n]
def cmpV (ns:List Sym) (a b:Sym):Int:=
 if rkN ns a=0 then Z0o a b else if rkN ns a=1 then Z1b (plV ns a) (plV ns b) else 0
def Z6i (ns:List Sym) (a b:Elem):Int:=
 andThen (Z1b (idN ns a.id) (idN ns b.id)) (andThen (Z0o a.attr b.attr) (andThen (Z5n a.acc b.acc) (andThen (Z1b (rkN ns a.value) (rkN ns b.value)) (andThen (cmpV ns a.value b.value) (Z1b a.tag b.tag)))))
def keyS (ns:List Sym) (s:Sym):Sym:=if rkN ns s=0 then s else ⟨0,⟨#[]⟩,0⟩
def keyP (ns:List Sym) (s:Sym):Int:=if rkN ns s=1 then plV ns s else 0
theorem Zo4 {ns:List Sym}{a b:Sym}(h:rkN ns a=rkN ns b):cmpV ns a b=andThen (Z0o (keyS ns a) (keyS ns b)) (Z1b (keyP ns a) (keyP ns b)):=by
 have hr :∀x,Z1b x x=0:=Z3c.refl;have hs :∀x,Z0o x x=0:=Z40.refl;unfold cmpV keyS keyP;rw [←h];by_cases h0:rkN ns a=0
 · simp only [h0,if_true]
   rw [if_neg Yc,if_neg Yc,hr];unfold andThen
   split<;>simp [*]
 · by_cases h1:rkN ns a=1
   · simp only [h1,if_true]
     rw [if_neg Yc,if_neg Yc,if_neg Yc,hs];simp [andThen]
   · simp [h0,h1,hr,hs,andThen]
def Zka (ns:List Sym) (a b:Elem):Int:=
 andThen (Z1b (idN ns a.id) (idN ns b.id)) (andThen (Z0o a.attr b.attr) (andThen (Z5n a.acc b.acc) (andThen (Z1b (rkN ns a.value) (rkN ns b.value)) (andThen (Z0o (keyS ns a.value) (keyS ns b.value)) (andThen (Z1b (keyP ns a.value) (keyP ns b.value)) (Z1b a.tag b.tag))))))
theorem Zbl (a b c:Int):andThen (andThen a b) c=andThen a (andThen b c):=by
 unfold andThen
 split<;>simp_all
theorem Znt (ns:List Sym) (a b:Elem):Z6i ns a b=Zka ns a b:=by
 unfold Z6i Zka;congr 3;by_cases h:Z1b (rkN ns a.value) (rkN ns b.value)=0
 · rw [Zo4 (Z3u.1 h),Zbl]
 · simp only [andThen,if_neg h]
theorem Zpp (ns:List Sym):TC (Z6i ns):=by
 (have h:Z6i ns=Zka ns:=by funext a b;exact Znt ns a b);rw [h]
 exact Z3o (f:=fun e:Elem=>idN ns e.id) (g:=fun e:Elem=>e) (c2:=fun a b:Elem=>andThen (Z0o a.attr b.attr) (andThen (Z5n a.acc b.acc) (andThen (Z1b (rkN ns a.value) (rkN ns b.value)) (andThen (Z0o (keyS ns a.value) (keyS ns b.value)) (andThen (Z1b (keyP ns a.value) (keyP ns b.value)) (Z1b a.tag b.tag)))))) Z3c
  (Z3o (f:=fun e:Elem=>e.attr) (g:=fun e:Elem=>e) (c2:=fun a b:Elem=>andThen (Z5n a.acc b.acc) (andThen (Z1b (rkN ns a.value) (rkN ns b.value)) (andThen (Z0o (keyS ns a.value) (keyS ns b.value)) (andThen (Z1b (keyP ns a.value) (keyP ns b.value)) (Z1b a.tag b.tag))))) Z40
  (Z3o (f:=fun e:Elem=>e.acc) (g:=fun e:Elem=>e) (c2:=fun a b:Elem=>andThen (Z1b (rkN ns a.value) (rkN ns b.value)) (andThen (Z0o (keyS ns a.value) (keyS ns b.value)) (andThen (Z1b (keyP ns a.value) (keyP ns b.value)) (Z1b a.tag b.tag)))) Zq7
  (Z3o (f:=fun e:Elem=>rkN ns e.value) (g:=fun e:Elem=>e) (c2:=fun a b:Elem=>andThen (Z0o (keyS ns a.value) (keyS ns b.value)) (andThen (Z1b (keyP ns a.value) (keyP ns b.value)) (Z1b a.tag b.tag))) Z3c
  (Z3o (f:=fun e:Elem=>keyS ns e.value) (g:=fun e:Elem=>e) (c2:=fun a b:Elem=>andThen (Z1b (keyP ns a.value) (keyP ns b.value)) (Z1b a.tag b.tag)) Z40
  (Z3o (f:=fun e:Elem=>keyP ns e.value) (g:=fun e:Elem=>e.tag) (c2:=Z1b) Z3c Z3c)))))
def Z9m (ns:List Sym) (a b:Elem):Bool:=decide (Z6i ns a b<0)
def canN (ns:List Sym) (e:Elem):Bool:=e.goal || !decide (plV ns e.id=0)
def Z50 (ns:List Sym) (left:List Elem):Nat→Option Nat
 | 0=>none
 | i+1=>match left[i]? with
   | none=>Z50 ns left i
   | some e=>if canN ns e=true then (match Z50 ns left i with
    | none=>some i
    | some k=>match left[k]? with
      | none=>some i
      | some b=>if Z9m ns e b=true then some i else some k) else Z50 ns left i
theorem Z70 {ns:List Sym}{left:List Elem} :∀{i k:Nat},Z50 ns left i=some k→k<i∧k<left.length
 | 0,_,h=>YZt
 | i+1,k,h=>by
   rw [Z50] at h
   split at h
   · have:=Z70 h;omega
   · rename_i e he
     have hi:=(Ztp.1 he).1
     split at h
     · split at h
       · injection h with h;omega
       · rename_i j hj
         have:=Z70 hj
         split at h
         · injection h with h;omega
         · split at h
           · injection h with h;omega
           · injection h with h;omega
     · have:=Z70 h;omega
theorem Z6z {ns:List Sym}{left:List Elem} :∀{i k:Nat},Z50 ns left i=some k→∃e,left[k]? = some e∧canN ns e=true∧∀j x,j<i→left[j]? = some x→canN ns x=true→Z6i ns e x≤0
 | 0,_,h=>YZt
 | i+1,k,h=>by
   have T:=Zpp ns;rw [Z50] at h
   cases he:left[i]? with
   | none=>
     rw [he] at h;obtain ⟨e,h1,h2,h3⟩:=Z6z h;refine ⟨e,h1,h2,fun j x hj hx hc=>?_⟩;by_cases h4:j=i
     · subst h4;rw [he] at hx;cases hx
     · exact h3 j x Ya hx hc
   | some y=>
     rw [he] at h;simp only at h;by_cases hy:canN ns y=true
     · rw [if_pos hy] at h
       cases hb:Z50 ns left i with
       | none=>
         rw [hb] at h;injection h with h;subst h;refine ⟨y,he,hy,fun j x hj hx hc=>?_⟩;by_cases h4:j=i
         · subst h4;rw [he] at hx;injection hx with hx;subst hx;rw [T.refl];exact Int.le_refl _
         · exact absurd (bestS_none hb j x Ya hx) (by rw [hc];decide)
       | some m=>
         rw [hb] at h;simp only at h;obtain ⟨b,h1,h2,h3⟩:=Z6z hb;rw [h1] at h;simp only at h;by_cases hd:Z9m ns y b=true
         · rw [if_pos hd] at h
           injection h with h;subst h;have hd2:Z6i ns y b<0:=of_decide_eq_true hd;refine ⟨y,he,hy,fun j x hj hx hc=>?_⟩;by_cases h4:j=i
           · subst h4;rw [he] at hx;injection hx with hx;subst hx;rw [T.refl];exact Int.le_refl _
           · exact T.trans y b x Ya (h3 j x Ya hx hc)
         · rw [if_neg hd] at h
           injection h with h;subst h;have hd2 :¬Z6i ns y b<0:=fun e=>hd (Zt9 e);refine ⟨b,h1,h2,fun j x hj hx hc=>?_⟩;by_cases h4:j=i
           · subst h4
             rw [he] at hx;injection hx with hx;subst hx;have h5:=T.symm y b;omega
           · exact h3 j x Ya hx hc
     · rw [if_neg hy] at h
       obtain ⟨e,h1,h2,h3⟩:=Z6z h;refine ⟨e,h1,h2,fun j x hj hx hc=>?_⟩;by_cases h4:j=i
       · subst h4;rw [he] at hx;injection hx with hx;subst hx;exact absurd hc hy
       · exact h3 j x Ya hx hc
where
 bestS_none {ns:List Sym}{left:List Elem} :∀{i:Nat},Z50 ns left i=none→∀j x,j<i→left[j]? = some x→canN ns x=false
 | 0,_,j,_,h,_=>Ya
 | i+1,hb,j,x,hj,hx=>by
   rw [Z50] at hb
   cases he:left[i]? with
   | none=>
     rw [he] at hb;by_cases h4:j=i
     · subst h4;rw [he] at hx;cases hx
     · exact bestS_none hb j x Ya hx
   | some y=>
     rw [he] at hb;simp only at hb
     split at hb
     · exfalso
       split at hb
       · cases hb
       · split at hb
         · cases hb
         · split at hb<;>cases hb
     · rename_i hy
       by_cases h4:j=i
       · subst h4;rw [he] at hx;injection hx with hx;subst hx;simpa using hy
       · exact bestS_none hb j x Ya hx
def Zib (ns:List Sym) (left:List Elem):Option Nat:=Z50 ns left left.length
def Z99:Nat→List Sym→List Elem→List Elem→Option (List Elem×List Sym)
 | 0,ns,_,out=>some (out,ns)
 | f+1,ns,left,out=>if left = [] then some (out,ns) else
   match Zib ns left with
   | none=>none
   | some k=>match left[k]? with
     | none=>none
     | some e=>Z99 f (Z6s ns e) (left.eraseIdx k) (out ++ [e])
def Z5d (l:List Elem):Option (List Elem×List Sym):=Z99 l.length [] l []
theorem Zb8 {f:Nat}{ns:List Sym}{left out:List Elem}{k:Nat}{e:Elem}(hb:Zib ns left=some k) (he:left[k]? = some e):Z99 (f+1) ns left out=Z99 f (Z6s ns e) (left.eraseIdx k) (out ++ [e]):=by
 (have hl:left≠[]:=by intro h;subst h;simp at he);rw [Z99,if_neg hl,hb];simp only;rw [he]
theorem Zb7 {f:Nat}{ns:List Sym}{left out:List Elem}(hl:left≠[]) (hb:Zib ns left=none):Z99 (f+1) ns left out=none:=by
 rw [Z99,if_neg hl,hb]
theorem Zdp {f:Nat}{ns:List Sym}{out:List Elem}:Z99 f ns [] out=some (out,ns):=by
 cases f with
 | zero=>rfl
 | succ f=>rw [Z99,if_pos rfl]
theorem Zqo {ns:List Sym}{left:List Elem}{k:Nat}(h:Zib ns left=some k):∃e,left[k]? = some e∧canN ns e=true∧∀x∈left,canN ns x=true→Z6i ns e x≤0:=by
 obtain ⟨e,h1,h2,h3⟩:=Z6z h;refine ⟨e,h1,h2,fun x hx hc=>?_⟩;obtain ⟨j,hj,rfl⟩:=List.getElem_of_mem hx;exact h3 j _ hj (Zt3 hj) hc
theorem Z8p :∀{l:List Elem}{k:Nat}{e:Elem},l[k]? = some e→(e :: l.eraseIdx k).Perm l
 | [],_,_,h=>YSi
 | x :: l,0,e,h=>by simp at h;subst h;exact .refl _
 | x :: l,k+1,e,h=>by
   have:=Z8p (l:=l) (k:=k) (e:=e) YIz;rw [List.eraseIdx_cons_succ];exact (List.Perm.swap x e _).trans (this.cons x)
theorem Zdd {l:List Elem}{k:Nat}{e:Elem}(h:l[k]? = some e):(l.eraseIdx k).length+1=l.length:=by
 have:=(Z8p h).length_eq;exact Yuu
theorem Zb9 :∀(f:Nat) (ns:List Sym) (l out:List Elem),l.length≤f→ns.Nodup→∀o n,Z99 f ns l out=some (o,n)→
 o.Perm (out++l)∧n.Nodup∧n.length≤ns.length+2*l.length∧∀s,s∈n↔s∈ns∨∃e∈l,s=e.id∨(s=e.value∧e.value.kind=1)
 | 0,ns,l,out,hf,hn,o,n,h=>by
   obtain rfl:l = []:=Zty.1 Ya;injection h with h;injection h with h1 h2;subst h1 h2;exact ⟨Ye,hn,Ye,fun s=>Ye⟩
 | f+1,ns,l,out,hf,hn,o,n,h=>by
   by_cases hl:l = []
   · subst hl
     rw [Zdp] at h;injection h with h;injection h with h1 h2;subst h1 h2;exact ⟨Ye,hn,Ye,fun s=>Ye⟩
   · cases hb:Zib ns l with
     | none=>rw [Zb7 hl hb] at h;cases h
     | some k=>
       obtain ⟨e,h1,_,_⟩:=Zqo hb;rw [Zb8 hb h1] at h;have hlen:=Zdd h1;obtain ⟨g1,g2,g3,g4⟩:=Zb9 f _ _ _ Ya (Ze1 hn e) o n h;have p1:=Z8p h1;have hnl:=Zbc ns e;refine ⟨?_,g2,Ya,fun s=>?_⟩
       · refine g1.trans ?_
         rw [Zu8];exact List.Perm.append_left _ p1
       · rw [g4 s]
         have hm :∀x,x∈l↔x=e∨x∈l.eraseIdx k:=fun x=>by rw [←p1.mem_iff,Ztb]
         have hs:s∈Z6s ns e↔s∈ns∨s=e.id∨(s=e.value∧e.value.kind=1):=by
          unfold Z6s;by_cases hk:e.value.kind=1
          · rw [if_pos hk,Zc1,Zc1,or_assoc];simp [hk]
          · rw [if_neg hk,Zc1];simp [hk]
         rw [hs];constructor
         · rintro ((q|q)|⟨x,hx,q⟩)
           · exact .inl q
           · exact .inr ⟨e,(hm e).2 (.inl rfl),q⟩
           · exact .inr ⟨x,(hm x).2 (.inr hx),q⟩
         · rintro (q|⟨x,hx,q⟩)
           · exact .inl (.inl q)
           · rcases (hm x).1 hx with rfl|hx
             · exact .inl (.inr q)
             · exact .inr ⟨x,hx,q⟩
theorem Za6 {l o:List Elem}{n:List Sym}(h:Z5d l=some (o,n)):o.Perm l∧n.Nodup∧n.length≤2*l.length∧∀s,s∈n↔∃e∈l,s=e.id∨(s=e.value∧e.value.kind=1):=by
 obtain ⟨h1,h2,h3,h4⟩:=Zb9 l.length [] l [] (Zsu _) .nil o n h;exact ⟨by simpa using h1,h2,by simpa using h3,fun s=>by rw [h4 s];simp⟩
theorem Z4x {a:Int}(b:Int) (h:a≠0):andThen a b=a:=if_neg h
theorem Z4w {a:Int}(b:Int) (h:a=0):andThen a b=b:=if_pos h
def decF:Nat→Nat→ByteArray
 | 0,n=>Z79 n
 | f+1,n=>if n<10 then Z79 n else decF f (n / 10)++Z79 (n % 10)
theorem Zky :∀(f n:Nat),n<10 ^ (f+1)→decF f n=decB n
 | 0,n,h=>by rw [decB,if_pos YIz];rfl
 | f+1,n,h=>by
   rw [decF,decB]
   split
   · rfl
   · rw [Zky f (n / 10)]
     rw [Nat.div_lt_iff_lt_mul Yc];rw [Nat.pow_succ] at h;exact h
theorem Zh2 :∀(k n:Nat),n<10 ^ (k+1)→(decB n).size≤k+1
 | 0,n,h=>by rw [decB,if_pos YIz];exact Zsu _
 | k+1,n,h=>by
   rw [decB]
   split
   · rw [Z71];omega
   · have h2:n / 10<10 ^ (k+1):=by
      rw [Nat.div_lt_iff_lt_mul Yc];rw [Nat.pow_succ] at h;exact h
     have:=Zh2 k (n / 10) h2;rw [ByteArray.size_append,Z71];omega
theorem Z6p {n:Nat}(h:n<9223372036854775808):(decB n).size≤19:=Zh2 18 n (Zsw h Yc)
theorem Zkz {n:Nat}(h:n<9223372036854775808):decF 18 n=decB n:=Zky 18 n (Zsw h Yc)
def letV (s:Sym):Option UInt8:=if s.kind=1∧s.text.size=1∧65≤(s.text.toList[0]!).toNat∧(s.text.toList[0]!).toNat≤90 then some s.text.toList[0]! else none
def Z3y (s:Sym) (n:Int):ByteArray:=if n<1 then ⟨#[]⟩ else match letV s with
 | none=>⟨#[]⟩
 | some c=>⟨#[c - 65+97]⟩++decF 18 n.toNat
def symZ:Sym:=⟨0,⟨#[]⟩,0⟩
def Z98:Z5l:=⟨⟨#[]⟩,symZ⟩
def Z2x (ns:List Sym) (rel:Int) (s:Sym):Z0z:=if s.kind=1 then ⟨rel,Z3y s (plV ns s),symZ,[]⟩ else ⟨rel,⟨#[]⟩,s,[]⟩
def posV (ns:List Sym) (e:Elem):Z0a:=.mk 1 e.goal (Z3y e.id (plV ns e.id)) [⟨1,⟨#[]⟩,e.attr,[]⟩] [Z2x ns 1 e.value] e.acc []
def Z6e (old:Sym→Bool) (ns:List Sym) (s:Sym):Option (Z5l×List Sym):=
 if s.kind≠1 then some (⟨⟨#[]⟩,s⟩,ns)
 else if plV ns s=0∧old s=true then none
 else some (⟨Z3y s (plV (putN ns s) s),symZ⟩,putN ns s)
def Z8o (old:Sym→Bool) (ns:List Sym) (p:Z24):Option (ActT×List Sym):=
 match Z6e old ns p.id with
 | none=>none
 | some (i,n1)=>match Z6e old n1 p.value with
   | none=>none
   | some (v,n2)=>match Z6e old n2 p.other with
     | none=>none
     | some (o,n3)=>some (⟨i.var,⟨⟨#[]⟩,p.attr⟩,⟨0,v,Z98⟩,p.kind,o⟩,n3)
instance:DecidableEq Z5l:=fun a b=>decidable_of_iff (a.var=b.var∧a.sym=b.sym) ⟨fun ⟨h1,h2⟩=>YM5,fun h=>by subst h;exact ⟨rfl,rfl⟩⟩
instance:DecidableEq Zi6:=fun a b=>decidable_of_iff (a.op=b.op∧a.a=b.a∧a.b=b.b) ⟨fun ⟨h1,h2,h3⟩=>YM5,fun h=>by subst h;exact ⟨rfl,rfl,rfl⟩⟩
instance:DecidableEq ActT:=fun a b=>decidable_of_iff (a.id=b.id∧a.attr=b.attr∧a.value=b.value∧a.pref=b.pref∧a.other=b.other) ⟨fun ⟨h1,h2,h3,h4,h5⟩=>YM5,fun h=>by subst h;exact ⟨rfl,rfl,rfl,rfl,rfl⟩⟩
def addA (acts:List ActT) (a:ActT):List ActT:=if a∈acts then acts else acts ++ [a]
def Z6h (old:Sym→Bool):List Z24→List Sym→List ActT→Option (List ActT×List Sym)
 | [],ns,acts=>some (acts,ns)
 | p :: l,ns,acts=>match Z8o old ns p with
   | none=>none
   | some (a,n)=>Z6h old l n (addA acts a)
def Zap (m:Nat) (name:ByteArray) (cs:List Z0a) (tags:List Int) (old:Sym→Bool) (ns:List Sym) (l:List Z24):Option (Z3r×List Int):=
 match Z6h old l ns [] with
 | none=>none
 | some (acts,_)=>if (Z41 m ⟨name,cs,acts⟩).2.1=0 then some (⟨name,cs,acts⟩,tags) else none
def Zrh (m:Nat) (name:ByteArray) (es:List Elem) (old:Sym→Bool) (news:List Sym) (l:List Z24):Option (Z3r×List Int):=
 match Z5d es with
 | none=>none
 | some (o,ns)=>if o = [] then none else if (news.any fun s=>!decide (plV ns s=0))=true then none
   else Zap m name (o.map (posV ns)) (o.map Elem.tag) old ns l
theorem Zfa (n:Nat) (k k2:Kn) (c:Z0a) (l:List Z0a) (at_:Int) (h:c.kind=1) (h2:oneK k c=(true,k2)):Z21 (n+1) k (c :: l) at_=Z21 (n+1) k2 l (at_+1):=by
 rw [Z21,if_neg Ya,if_pos h,h2];simp only [if_pos h]
theorem Zo2 {n:Nat}{p:Z3r}{c:Z0a}{l:List Z0a}{k1 k2:Kn}{at_:Int}(h0:(Z2e (n+1) p).2=0) (hc:p.conds=c :: l) (hk:c.kind=1) (h1:oneK ([],[]) c=(true,k1)) (h2:Z21 (n+1) k1 l 1=(true,at_,k2)) (h3:p.acts.findIdx? (actV k2)=none):(Z41 (n+1) p).2.1=0:=by
 unfold Z41;rw [if_neg (by rw [h0];simp),hc,if_neg YCl,Zfa n _ k1 c l 0 hk h1,show (0:Int)+1=1 from rfl,h2];simp only [h3]
theorem Zf9 (n:Nat) (k:Kn) (at_:Int):Z21 (n+1) k [] at_=(true,at_,k):=by rw [Z21]
def sSym:Sym:=⟨1,⟨#[83]⟩,1⟩
def wSym (c:UInt8):Sym:=⟨3,⟨#[c]⟩,0⟩
def Z5t (es:List Elem) (s:Sym):Bool:=es.any fun e=>decide (e.id=s)
def simT (u t:Z0z):Bool:=decide (u.rel=t.rel) && (decide (u.var=t.var) && decide (u.sym=t.sym))
def addT (t:Z0z) (vs:List Z0z):List Z0z:=if (vs.any fun u=>simT u t)=true then vs else vs ++ [t]
def metV (es:List Elem) (k:Nat) (s:Sym):Bool:=(es.take (k+1)).any fun e=>decide (e.id=s) ||decide (e.value=s)
def Z4t (ns:List Sym) (s:Sym):Bool:=decide (s.kind=1) && decide (plV ns s=0)
def Z6a (ns:List Sym) (es:List Elem) (s:Sym):Bool:=decide (s.kind=1) && (!decide (plV ns s=0) && !Z5t es s)
def Za7 (a b v:Sym):Option Sym:=if v=b then some a else if v=a then some b else none
def twoF (all:List Elem) (a b:Sym):Nat→List Elem→Option (Nat×Sym)
 | _,[]=>none
 | k,e :: l=>match Za7 a b e.value with
   | some o=>if metV all k o=true then some (k,o) else twoF all a b (k+1) l
   | none=>twoF all a b (k+1) l
def oneF (id:Sym):Nat→List Elem→Option Nat
 | _,[]=>none
 | k,e :: l=>if e.value=id then some k else oneF id (k+1) l
def putT (vss:List (List Z0z)) (k:Nat) (t:Z0z):List (List Z0z):=vss.modify k (addT t)
def oneV (es:List Elem) (id c:Sym) (vss:List (List Z0z)):List (List Z0z):=match oneF id 0 es with
 | none=>vss
 | some k=>putT vss k ⟨2,⟨#[]⟩,c,[]⟩
def twoV (ns:List Sym) (es:List Elem) (x:Z1a) (vss:List (List Z0z)):Option (List (List Z0z)):=match twoF es x.a x.b 0 es with
 | none=>none
 | some (k,o)=>some (putT vss k (Z2x ns x.rel o))
def Z3t (ns:List Sym) (es:List Elem) (x:Z1a) (vss:List (List Z0z)):Option (List (List Z0z)):=
 if x.rel=7∧(Z6a ns es x.a=true∧Z4t ns x.b=true∨Z6a ns es x.b=true∧Z4t ns x.a=true) then none
 else if Z4t ns x.a=true∨Z4t ns x.b=true then some vss
 else if x.a.kind=1∧x.b.kind=1 then
  if x.a=x.b∨x.rel≠2∧(x.rel≠7∨Z5t es x.a=true∧Z5t es x.b=true) then some vss else twoV ns es x vss
 else if x.rel≠2 then some vss
 else if Z6a ns es x.a=true then some (oneV es x.a x.b vss)
 else if Z6a ns es x.b=true then some (oneV es x.b x.a vss)
 else some vss
def Z3l (ns:List Sym) (es:List Elem):List Z1a→List (List Z0z)→Option (List (List Z0z))
 | [],vss=>some vss
 | x :: l,vss=>match Z3t ns es x vss with
   | none=>none
   | some v=>Z3l ns es l v
def Z7a (ns:List Sym) (e:Elem) (vs:List Z0z):Z0a:=.mk 1 e.goal (Z3y e.id (plV ns e.id)) [⟨1,⟨#[]⟩,e.attr,[]⟩] vs e.acc []
def vs0 (ns:List Sym) (e:Elem):List Z0z:=[Z2x ns 1 e.value]
theorem Zng (ns:List Sym):∀o:List Elem,List.zipWith (Z7a ns) o (o.map (vs0 ns))=o.map (posV ns)
 | []=>rfl
 | e :: l=>by rw [List.map_cons,List.zipWith_cons_cons,Zng ns l];rfl
theorem Zhp (vss:List (List Z0z)) (k:Nat) (t:Z0z):(putT vss k t).length=vss.length:=by unfold putT;simp
theorem Zi9 {ns:List Sym}{es:List Elem}{x:Z1a}{vss v:List (List Z0z)}(h:Z3t ns es x vss=some v):v.length=vss.length:=by
 unfold Z3t at h
 have h1 :∀id c,(oneV es id c vss).length=vss.length:=fun id c=>by
  unfold oneV
  split
  · rfl
  · exact Zhp _ _ _
 split at h
 · cases h
 · split at h
   · injection h with h;rw [←h]
   · split at h
     · split at h
       · injection h with h;rw [←h]
       · unfold twoV at h
         split at h
         · cases h
         · injection h with h;rw [←h,Zhp]
     · split at h
       · injection h with h;rw [←h]
       · split at h
         · injection h with h;rw [←h,h1]
         · split at h
           · injection h with h;rw [←h,h1]
           · injection h with h;rw [←h]
def Z5x (x:Z0a):Bool:=decide (x.kind=1) && decide (x.id.toList = [])
def Z5i (c:Z0a):Bool:=if c.kind=3 then c.conds.any Z5x else decide (c.kind=2) && decide (c.id.toList = [])
def Z7b (f:Z0a→Option Z0a):List Z0a→List Z0a→Option (List Z0a)
 | [],acc=>some acc
 | x :: l,acc=>if Z5i x=true then Z7b f l acc else (f x).bind fun y=>Z7b f l (acc ++ [y])
def Zpt (c:Z0a) (l:List Z0a):Z0a:=.mk c.kind c.goal c.id c.attr c.value c.acc l
def Z5s:Nat→Z0a→Option Z0a
 | 0,c=>if c.kind=3 then none else some c
 | n+1,c=>if c.kind=3 then (Z7b (Z5s n) c.conds []).bind (fun l=>if l = [] then none else some (Zpt c l)) else some c
def mapS {α β σ:Type}(f:α→σ→β×σ):List α→σ→List β×σ
 | [],s=>([],s)
 | x :: l,s=>((f x s).1 :: (mapS f l (f x s).2).1,(mapS f l (f x s).2).2)
theorem Zdw {α β σ:Type}(f:α→σ→β×σ) (x:α):∀(l:List α) (s:σ),mapS f (l ++ [x]) s=((mapS f l s).1 ++ [(f x (mapS f l s).2).1],(f x (mapS f l s).2).2)
 | [],s=>rfl
 | y :: l,s=>by rw [Ztv,mapS,mapS,Zdw f x l];rfl
theorem Zdx {α β σ:Type}(f:α→σ→β×σ) (l:List α) (s:σ) (k:Nat) (h:k<l.length):mapS f (l.take (k+1)) s=((mapS f (l.take k) s).1 ++ [(f l[k] (mapS f (l.take k) s).2).1],(f l[k] (mapS f (l.take k) s).2).2):=by
 rw [Ztq,Zt3 h];exact Zdw f _ _ _
theorem Z4c {α β σ:Type}(f:α→σ→β×σ):∀(l:List α) (s:σ),(mapS f l s).1.length=l.length
 | [],_=>rfl
 | x :: l,s=>by rw [mapS,Ztg,Ztg,Z4c f l]
def Zpq (n:Nat):ByteArray:=(⟨#[118,45]⟩:ByteArray)++decB n
def Z7w (v:ByteArray) (own:List Z0t):ByteArray×List Z0t:=match own.find? (fun b=>decide (b.var.toList=v.toList)) with
 | some b=>(b.sym.text,own)
 | none=>(Zpq (own.length+1),own ++ [⟨v,⟨0,Zpq (own.length+1),0⟩⟩])
def ofV (ns:List Sym) (bs:List Z0t) (v:ByteArray) (own:List Z0t):(ByteArray×Sym)×List Z0t:=match bs.find? (fun b=>decide (b.var.toList=v.toList)) with
 | some b=>if b.sym.kind=1 then ((Z3y b.sym (plV ns b.sym),zS),own) else ((⟨#[]⟩,b.sym),own)
 | none=>(((Z7w v own).1,zS),(Z7w v own).2)
def Z3f (ns:List Sym) (bs:List Z0t) (t:Z0z) (own:List Z0t):Z0z×List Z0t:=
 if t.var.toList = [] then (t,own) else (⟨t.rel,(ofV ns bs t.var own).1.1,(ofV ns bs t.var own).1.2,t.list⟩,(ofV ns bs t.var own).2)
def idH (ns:List Sym) (bs:List Z0t) (v:ByteArray) (own:List Z0t):ByteArray×List Z0t:=if v.toList = [] then (⟨#[]⟩,own) else ((ofV ns bs v own).1.1,(ofV ns bs v own).2)
def Zd5 (ns:List Sym) (bs:List Z0t) (f:Z0a→List Z0t→Z0a×List Z0t) (c:Z0a) (own:List Z0t):Z0a×List Z0t:=
 let a:=idH ns bs c.id own
 let b:=mapS (Z3f ns bs) c.attr a.2
 let d:=mapS (Z3f ns bs) c.value b.2
 let e:=mapS f c.conds d.2
 (.mk c.kind c.goal a.1 b.1 d.1 c.acc e.1,e.2)
def Z6o (ns:List Sym) (bs:List Z0t):Nat→Z0a→List Z0t→Z0a×List Z0t
 | 0=>Zd5 ns bs fun c own=>(c,own)
 | n+1=>Zd5 ns bs (Z6o ns bs n)
def oneA:Z5l:=⟨⟨#[]⟩,⟨2,⟨#[]⟩,1⟩⟩
def actX:ActT:=⟨⟨#[120]⟩,oneA,⟨0,oneA,⟨⟨#[]⟩,zS⟩⟩,1,⟨⟨#[]⟩,zS⟩⟩
def badA (c:Z0a) (deep:Nat):Prop:=c.goal=true∨c.id.toList≠[]∨0<c.attr.length∨0<c.value.length∨c.acc=true∨c.conds.length=0∨3≤deep
def Z45:Nat→Nat→Z0a→Prop
 | n,deep,c=>if c.kind=3 then ¬badA c deep∧(match n with| 0=>True|m+1=>∀x∈c.conds,Z45 m (deep+1) x) else (Z2e (n+1) ⟨⟨#[120]⟩,[c],[actX]⟩).2=0
def Z9y (n:Nat) (c:Z0a):Prop:=∃x∈Z17 (n+1) 0 [c],x.2.goal=true
open Classical in
noncomputable def addU (hs:List Z0a) (c:Z0a):Option (List Z0a):=if c∈hs then some hs else some (hs ++ [c])
theorem Zqj {hs:List Z0a}{c:Z0a}(h:c∈hs):addU hs c=some hs:=if_pos h
theorem Zk7 {hs:List Z0a}{c:Z0a}(h :¬c∈hs):addU hs c=some (hs ++ [c]):=if_neg h
noncomputable def holeE (n:Nat) (hs:List Z0a) (y:Z0a):Option (List Z0a):=if Z5i y=true then some hs else (Z5s n y).bind (addU hs)
open Classical in
noncomputable def holeV (n:Nat) (ns:List Sym) (h:Z43) (hs:List Z0a):Option (List Z0a):=
 if (∃b∈h.binds,Z4t ns b.sym=true)∨¬Z45 n 0 h.cond∨Z9y n h.cond then none else holeE n hs (Z6o ns h.binds n h.cond []).1
noncomputable def holesV (n:Nat) (ns:List Sym):List Z43→List Z0a→Option (List Z0a)
 | [],hs=>some hs
 | h :: l,hs=>(holeV n ns h hs).bind (holesV n ns l)
def szH:Nat→Z0a→Nat
 | 0,c=>1+c.attr.length+c.value.length
 | n+1,c=>1+c.attr.length+c.value.length+(c.conds.map (szH n)).sum
end
end Go.Proofs.YtcnnofgaifcgaaaGreat
