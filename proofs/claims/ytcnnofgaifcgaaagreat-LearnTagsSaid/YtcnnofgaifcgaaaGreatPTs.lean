/-
  Texts put together: XLean, XFs, XFree, XOf, XTests.
-/
import Derived.Test.YtcnnofgaifcgaaaGreatPTr
namespace Go.Proofs.YtcnnofgaifcgaaaGreat
set_option maxRecDepth 100000
set_option maxHeartbeats 32000000
set_option linter.unusedSimpArgs false
section
open Go.RowKit Go.Shelf
attribute [local go_sem] Oper.semAt_some
set_option maxRecDepth 100000
set_option maxHeartbeats 8000000
def Zrx (n:Nat) (D:Nat→Prop) (w:World) (r:Option Z0a) (e:Ending) (w':World):Prop:=
 ∃(z:Z0a) (A1:Option Addr) (a1:Nat) (A2:Option Addr) (a2:Nat) (A3:Option Addr) (a3:Nat),e = .returned (.tuple #[.agg (Q0r z A1 a1 A2 a2 A3 a3),.bool r.isSome])∧
  (∀y,r=some y→z=y∧RowR Z07 (Plus D w w') w' A1 a1 z.attr∧RowR Z07 (Plus D w w') w' A2 a2 z.value∧RowR (Z09 n) (Plus D w w') w' A3 a3 z.conds)∧Below w.heap.size w w'
abbrev Zk2 (n:Nat):Prop:=∀(D:Nat→Prop) (x:Z0a) (A1:Option Addr) (a1:Nat) (A2:Option Addr) (a2:Nat) (A3:Option Addr) (a3:Nat) (w:World),
 RowR Z07 D w A1 a1 x.attr→RowR Z07 D w A2 a2 x.value→RowR (Z09 n) D w A3 a3 x.conds→(∀k,D k→k<w.heap.size)→SmC (n+1) x→
 Calls Tryz.prog 115 #[.agg (Q0r x A1 a1 A2 a2 A3 a3)] w (Zrx n D w (Z5s n x))
theorem Zle (n:Nat) (x:Z0a) (hk:x.kind=3) (h0:n=0→x.conds = []):∃f,(∀m,n=m+1→f=Z5s m)∧Z5s n x=(Z7b f x.conds []).bind fun l=>if l = [] then none else some (Zpt x l):=by
 cases n with
 | zero=>exact ⟨Z5s 0,fun m h=>Ya,by rw [Z5s,if_pos hk,h0 rfl];rfl⟩
 | succ m=>exact ⟨Z5s m,fun k h=>by rw [show k=m from Ya],by rw [Z5s,if_pos hk]⟩
theorem Zds (n:Nat) (ih :∀m,n=m+1→Zk2 m):Zk2 n:=by
 intro D x A1 a1 A2 a2 A3 a3 w g1 g2 g3 hD hs;have hac:=g3.cap;have hs3:=hs.2.2.1;refine Ys5 ?_;intro G1 G2 G3;have IH:=hU ih;have HD:=hU hD;have HS:=hU hs.2.2.2;clear g1 g2 g3 ih hD hs;go_enter Tryz.func115,Tryz.ntmps115;go_upto_region 1 with fail;obtain ⟨W2,xc⟩:∃W,W=(w.alloc (.cells (Q0r x A1 a1 A2 a2 A3 a3) 77)).alloc (.cells Q2g 77):=⟨_,rfl⟩;have HB:=hU (show Below w.heap.size w W2 from YGh);have HX:=hU (show Blk W2 w.heap.size 77 (Q0r x A1 a1 A2 a2 A3 a3) from YSs);have HR:=hU (show Blk W2 (w.heap.size+1) 77 Q2g by rw [xc];have hh:=Blk.new (w.alloc (.cells (Q0r x A1 a1 A2 a2 A3 a3) 77)) 77 Q2g;simp only [Zti] at hh;exact hh);have HZ:=hU (show W2.heap.size=w.heap.size+2 by rw [xc];simp);rw [←xc];clear xc;obtain ⟨q0,q1,q2,q3,q4,q5,q6⟩:=HX.o.c7;have qz:=HX.o.lt;by_cases hk:x.kind=3
 case neg=>
  have HV:=hU (show Z5s n x=some x by cases n<;>rw [Z5s,if_neg hk]);have k1:(x.kind != 3)=true:=YCl;have HT:=hU (show W2.there (w.heap.size+1) 0 ((Q0r x A1 a1 A2 a2 A3 a3):Array Value).size from HR.o.there);clear hk;(go_wp2_with (with_reducible refine wpList_store_mid rfl 77 _ _ rfl (w.heap.size+1) 0 (Q0r x A1 a1 A2 a2 A3 a3) rfl rfl HT.o Yb Yb ?_));refine Ykv ?_;have hb:=Below.setCells' (g:=w.heap.size+1) (Q0q x A1 a1 A2 a2 A3 a3) 0 HB.o Ya;refine bodyPost_ret (v:=.tuple #[.agg (Q0r x A1 a1 A2 a2 A3 a3),.bool true]) ?_ rfl ?_
  · exact Z0n (t:=2) (s:=3) (T:=77) rfl _ _ (w.heap.size+1) (Q0q x A1 a1 A2 a2 A3 a3) _ rfl (Zsy _ _ _ _ HT.o) Tryz.underlying77 rfl Yb
  · rw [HV.o]
    exact ⟨x,A1,a1,A2,a2,A3,a3,rfl,fun y hy=>⟨Zud hy,G1.o.plus hb,G2.o.plus hb,G3.o.plus hb⟩,hb⟩
 obtain ⟨f,hf,hV⟩:=Zle n x hk (fun h0=>by subst h0;exact row0 G3.o);have HV:=hU hV;have HF:=hU hf;have HK:=hU hk;have k1:(x.kind != 3)=false:=YCl;clear hV hf hk;obtain ⟨j0,E6,ye,Xh,L7⟩:=infp Z7x;go_wp2_with fail;clear q0 q1 q2 q3 q4 q5 q6 qz k1
 go_loopw [4,16] (fun v s W=>∃(k:Nat) (acc:List Z0a) (A:Option Addr) (c:Nat),s = .int .i64 k∧v = .slice A acc.length c∧k≤x.conds.length∧acc.length≤k∧Z7b f x.conds []=Z7b f (x.conds.drop k) acc∧LsC (Z09 n) 77 D (fun _ _=>False) W2.heap.size W.heap.size acc A c W∧Below W2.heap.size W2 W) (fun v s W=>x.conds.length - (intOf s).toNat)
 case atStart=>exact ⟨0,[],none,0,rfl,rfl,Nat.zero_le _,Zsu _,rfl,LsC.nil _ _ _ (Zsu _) (fun j hj=>⟨Zsw (HD.o j hj) HB.o.size,id⟩),Zst _ _⟩
 case round=>
  obtain ⟨k,acc,A,c,rfl,rfl,hk,nl,hl,hL,L0⟩:=hrel;have HL:=hU hl;have Lf:=hU hL;have T7:=hU L0;have dt:=hU nl;have hAc:=hL.lenA;clear hl hL L0 nl;by_cases hlt:k<x.conds.length
  · obtain ⟨m,hm⟩:∃m,n=m+1:=by
     cases n with
     | zero=>have h0:=row0 G3.o;rw [h0] at hlt;simp at hlt
     | succ m=>exact ⟨m,rfl⟩
    subst hm;obtain ⟨u,hu⟩:∃u,u=x.conds[k]:=⟨_,rfl⟩;obtain ⟨g,off,C1,c1,C2,c2,C3,c3,rfl,_,hgs,q0,q1,q2,q3,q4,q5,q6,r1,r2,r3⟩:=Z31 (G3.o.new_ (HB.o.trans (T7.o.mono HB.o.size))) hlt;rw [←hu] at q0 q1 q2 q3 q4 q5 q6 r1 r2 r3;have R1:=hU r1;have R2:=hU r2;have R3:=hU r3;refine Y5s ?_;intro e1 e2
    have HU:=hU (show Z7b f (x.conds.drop k) acc=if Z5i u=true then Z7b f (x.conds.drop (k+1)) acc else (Z5s m u).bind fun y=>Z7b f (x.conds.drop (k+1)) (acc ++ [y]) by
     rw [Ztt hlt,←hu,Z7b,HF.o m rfl])
    have HSU:=hU (HS.o u YC5);clear hu r1 r2 r3;go_upto_region 7 with fail;refine Y99 ?_;intro W5 wv Xp Mc;obtain ⟨m0,m1,m2,m3,m4,m5,m6⟩:=Mc.o.c7;have mz:=Mc.o.lt;clear wv q0 q1 q2 q3 q4 q5 q6;go_wp2_with fail;clear m0 m1 m2 m3 m4 m5 m6 mz;refine (Zcx m u C1 c1 C2 c2 C3 c3 W5 (R3.o.new_ Xp.o)).mono ?_;rintro e w6 ⟨⟨z,rfl,hz⟩,hb⟩;have gi:=hU (Xp.o.trans (hb.mono Xp.o.size));have HZZ:=hU hz;obtain ⟨m0,m1,m2,m3,m4,m5,m6⟩:=(Mc.o.new_ hb).c7;have mz:=(Mc.o.new_ hb).lt;clear hb hz
    cases z with
    | true=>
      have HN:=hU (show Z7b f x.conds []=Z7b f (x.conds.drop (k+1)) acc by rw [HL.o,HU.o,if_pos (HZZ.o.1 Ye)]);clear m0 m1 m2 m3 m4 m5 m6 mz;go_wp2_with fail;go_roundw
      case rel=>exact ⟨k+1,acc,A,c,Yn,rfl,Ya,by have:=dt.o;omega,HN.o,(Lf.o.new_ (fun _ _ _ h=>h) gi.o).up gi.o.size (Zsu _),T7.o.trans (gi.o.mono T7.o.size)⟩
      case measure=>simp [intOf]<;>omega
    | false=>
      have HAF:=hU (show ¬Z5i u=true from fun h=>by have:=HZZ.o.2 h;cases this);go_wp2_with fail;(have hDW :∀j,D j→j<w6.heap.size:=fun j hj=>by have:=HD.o j hj;have:=HB.o.size;have:=T7.o.size;have:=gi.o.size;omega);refine (IH.o m rfl D u C1 c1 C2 c2 C3 c3 w6 (R1.o.new_ gi.o) (R2.o.new_ gi.o) (R3.o.new_ gi.o) hDW HSU.o).mono ?_;rintro e w7 ⟨y,E1,e1,E2,e2,E3,e3,rfl,hy,hb⟩;obtain ⟨ok,oc⟩:∃o,o=Z5s m u:=⟨_,rfl⟩;rw [←oc] at hy;have HU:=hU (show Z7b f x.conds []=ok.bind fun y=>Z7b f (x.conds.drop (k+1)) (acc ++ [y]) by rw [HL.o,HU.o,if_neg HAF.o,oc]);rw [←oc];have HY:=hU hy;have ms:=hU (gi.o.trans (hb.mono gi.o.size));have HB67:=hU hb;clear oc hy hb m0 m1 m2 m3 m4 m5 m6 mz
      cases ok with
      | none=>
        have Un:=hU (HB.o.trans ((T7.o.trans (ms.o.mono T7.o.size)).mono HB.o.size));obtain ⟨W8,wl⟩:∃W,W=w7.alloc (.cells (Q0r y E1 e1 E2 e2 E3 e3) 77):=⟨_,rfl⟩;(have gl:Below w7.heap.size w7 W8:=by rw [wl];exact Below.al (Zst _ _) _);have ld:=hU (Un.o.trans (gl.mono Un.o.size));have yn:=(T7.o.trans (ms.o.mono T7.o.size)).trans (gl.mono (Zt6 T7.o.size ms.o.size));obtain ⟨q0,q1,q2,q3,q4,q5,q6⟩:=(HX.o.new_ yn).c7;have qz:=(HX.o.new_ yn).lt;have HT:=hU (show W8.there (w.heap.size+1) 0 ((Q0r x A1 a1 A2 a2 (some ⟨g,off,none⟩) a3):Array Value).size from (HR.o.new_ yn).there);have ly:=hU (show W8.rangeAt w.heap.size 0 (Q0q x A1 a1 A2 a2 (some ⟨g,off,none⟩) a3) from by have:=(HX.o.new_ yn).range;exact this);clear gl yn;go_upto_region 10 with fail;rw [←wl];have ce:=hU (show Z5s (m+1) x=none by rw [HV.o,HU.o];rfl)
        have HSZ:=hU (show w.heap.size+2≤W8.heap.size by have:=T7.o.size;have:=ms.o.size;have:=HZ.o;have:w7.heap.size+1=W8.heap.size:=by rw [wl];simp
                                                         omega)
        clear wl
        go_wp2_with (first
         | (with_reducible refine wpList_load_mid rfl 77 _ rfl w.heap.size 0 rfl (Q0q x A1 a1 A2 a2 (some ⟨g,off,none⟩) a3) _ ly.o Tryz.underlying77 rfl Yb ?_)
         | (with_reducible refine wpList_store_mid rfl 77 _ _ rfl (w.heap.size+1) 0 (Q0r x A1 a1 A2 a2 (some ⟨g,off,none⟩) a3) rfl rfl HT.o Yb Yb ?_))
        refine Ykv ?_;have Ou:=Below.setCells' (g:=w.heap.size+1) (Q0q x A1 a1 A2 a2 (some ⟨g,off,none⟩) a3) 0 ld.o Ya;refine bodyPost_ret (v:=.tuple #[.agg (Q0r x A1 a1 A2 a2 (some ⟨g,off,none⟩) a3),.bool false]) ?_ rfl ?_
        · exact Z0n (t:=2) (s:=3) (T:=77) rfl _ _ (w.heap.size+1) (Q0q x A1 a1 A2 a2 (some ⟨g,off,none⟩) a3) _ rfl (Zsy _ _ _ _ HT.o) Tryz.underlying77 rfl Yb
        · rw [ce.o]
          exact ⟨x,A1,a1,A2,a2,_,a3,rfl,fun y hy=>by (cases hy),Ou⟩
      | some v=>
        obtain ⟨rfl,r1,r2,r3⟩:=HY.o v rfl;have up :∀{α:Type}{r:RepT α}{A:Option Addr}{c:Nat}{l:List α},RowR r (Plus D w6 w7) w7 A c l→RowR r (fun j=>D j∨(wr.heap.size≤j∧j<w7.heap.size)) w7 A c l:=fun h=>h.weaken (fun j hj=>hj.imp id (fun h=>⟨Zt6 gi.o.size h.1,h.2⟩));have Oo:=hU (Z64 (up r1) (up r2) (up r3));have HLS7:=hU (Lf.o.new_ (fun _ _ _ h=>h) ms.o);clear HY r1 r2 r3 up;obtain ⟨W8,wl⟩:∃W,W=w7.alloc (.cells (Q0r y E1 e1 E2 e2 E3 e3) 77):=⟨_,rfl⟩;have ld:=hU (show Below w7.heap.size w7 W8 by rw [wl];exact Below.al (Zst _ _) _);have cy:=hU (show Blk W8 w7.heap.size 77 (Q0r y E1 e1 E2 e2 E3 e3) by rw [wl];exact Blk.new _ _ _);go_upto_region 11 with fail;rw [←wl];clear wl;obtain ⟨m0,m1,m2,m3,m4,m5,m6⟩:=cy.o.c7;have mz:=cy.o.lt;obtain ⟨W9,Gh⟩:∃W,W=W8.alloc (.cells (Q0r y E1 e1 E2 e2 E3 e3) 77):=⟨_,rfl⟩;(have Ct:Below w7.heap.size w7 W9:=by rw [Gh];exact ld.o.alloc ld.o.size _);have zr:=hU (HLS7.o.new_ (fun _ _ _ h=>h) Ct);have HE9:=hU ((Z09 (m+1)).keep Ct.size (fun j hj hl=>⟨hj,Ct.block j hl⟩) Oo.o);have yq:=hU (ms.o.trans (Ct.mono ms.o.size));have md:=hU (show ∀j u,(Q0q y E1 e1 E2 e2 E3 e3)[j]? = some u→W9.cell? ((⟨W8.heap.size,0,none⟩:Addr).add j)=some u from YQq);have sl:=hU (show ∀j,(D j∨(wr.heap.size≤j∧j<w7.heap.size))→(D j∨(W2.heap.size≤j∧wr.heap.size≤j∧j<W9.heap.size))∧¬False from fun j hj=>⟨hj.imp id (fun h=>⟨Zt6 T7.o.size h.1,h.1,Zsw h.2 Ct.size⟩),id⟩);have Mx:=hU Gh;clear Ct Gh;(go_wp2_with (at_builtin;rw [←Mx.o];refine Z57 W9 rfl _ _ 26 rfl 77 j0 _ 7 112 Tryz.underlying26 E6 ye Xh L7 rfl rfl Ya zr.o (Zt6 T7.o.size yq.o.size) rfl ⟨W8.heap.size,0,none⟩ 1 y (Q0q y E1 e1 E2 e2 E3 e3) rfl md.o (by intro u hu;simp only [Ztb,Zth,or_false] at hu;rcases hu with rfl|rfl|rfl|rfl|rfl|rfl|rfl<;>rfl) _ sl.o HE9.o (by have:=dt.o;unfold maxLen;omega) (by have:=dt.o;omega) ?_;intro A' c' w9 hL hF));have mr:=hU hL;have Dp:=hU (show Below W2.heap.size W2 w9 from (T7.o.trans (yq.o.mono T7.o.size)).trans (hF.below (Zt6 T7.o.size yq.o.size) (fun j hj ⟨a,e1,e2⟩=>by have:=(Lf.o.2.2.1 a e1).1;omega)));go_roundw
        case rel=>exact ⟨k+1,acc ++ [y],A',c',Yn,Ye,Ya,by have:=dt.o;simp;omega,HU.o,mr.o,Dp.o⟩
        case measure=>simp [intOf]<;>omega
  · obtain rfl:k=x.conds.length:=by omega
    have ce:=hU (show Z5s n x=if acc = [] then none else some (Zpt x acc) by rw [HV.o,HL.o,Zuc];rfl);have L0:=T7.o;obtain ⟨q0,q1,q2,q3,q4,q5,q6⟩:=(HX.o.new_ L0).c7;have qz:=(HX.o.new_ L0).lt;have qf:=(HX.o.new_ L0).frozen 6;obtain ⟨W8,wl⟩:∃W,W=wr.setCell ⟨w.heap.size,6,none⟩ (.slice A acc.length c):=⟨_,rfl⟩;(have fw:Blk W8 w.heap.size 77 #[.int .i64 x.kind,.bool x.goal,.string x.id,.slice A1 x.attr.length a1,.slice A2 x.value.length a2,.bool x.acc,.slice A acc.length c]:=by rw [wl];exact (HX.o.new_ L0).set_ 6 _);(have zd:Blk W8 (w.heap.size+1) 77 Q2g:=by rw [wl];exact (HR.o.new_ L0).far Ye _);(have gl:Below w.heap.size w W8:=by rw [wl];exact (HB.o.trans (L0.mono HB.o.size)).setCell (Zsu _) _);(have hk8 :∀j,j<wr.heap.size→j≠w.heap.size→W8.heap[j]? = wr.heap[j]?:=fun j _ hj=>by rw [wl];exact Below.heap_setCell _ _ _ _ hj);(have Ea:W8.heap.size=wr.heap.size:=by rw [wl];simp);have HT:=hU (show W8.there (w.heap.size+1) 0 (#[.int .i64 x.kind,.bool x.goal,.string x.id,.slice A1 x.attr.length a1,.slice A2 x.value.length a2,.bool x.acc,.slice A acc.length c]:Array Value).size from zd.there);have ly:=hU (show W8.rangeAt w.heap.size 0 [.int .i64 x.kind,.bool x.goal,.string x.id,.slice A1 x.attr.length a1,.slice A2 x.value.length a2,.bool x.acc,.slice A acc.length c] from by have:=fw.range;exact this);have hle:=Lf.o.1;go_upto_region 14 with fail;rw [←wl];clear q0 q1 q2 q3 q4 q5 q6 qf qz;have ld:=hU gl;have HK8:=hU hk8;have G7:=hU Ea;clear wl fw zd gl hk8 Ea L0
    go_wp2_with (first
     | (with_reducible refine wpList_load_mid rfl 77 _ rfl w.heap.size 0 rfl _ _ ly.o Tryz.underlying77 rfl Yb ?_)
     | (with_reducible refine wpList_store_mid rfl 77 _ _ rfl (w.heap.size+1) 0 #[.int .i64 x.kind,.bool x.goal,.string x.id,.slice A1 x.attr.length a1,.slice A2 x.value.length a2,.bool x.acc,.slice A acc.length c] rfl rfl HT.o Yb Yb ?_))
    refine Ykv ?_;have Ou:=Below.setCells' (g:=w.heap.size+1) [.int .i64 x.kind,.bool x.goal,.string x.id,.slice A1 x.attr.length a1,.slice A2 x.value.length a2,.bool x.acc,.slice A acc.length c] 0 ld.o Ya
    have hkf :∀j,D j∨(W2.heap.size≤j∧j<wr.heap.size)→j<wr.heap.size→Plus D w (W8.setCells (w.heap.size+1) 0 [.int .i64 x.kind,.bool x.goal,.string x.id,.slice A1 x.attr.length a1,.slice A2 x.value.length a2,.bool x.acc,.slice A acc.length c]) j∧(W8.setCells (w.heap.size+1) 0 [.int .i64 x.kind,.bool x.goal,.string x.id,.slice A1 x.attr.length a1,.slice A2 x.value.length a2,.bool x.acc,.slice A acc.length c]).heap[j]? = wr.heap[j]?:=fun j hj hl=>by
     have Xf:j≠w.heap.size∧j≠w.heap.size+1:=by rcases hj with h|h
                                               · have:=HD.o j h;omega
                                               · have:=HZ.o;omega
     exact ⟨hj.imp id (fun h=>⟨by have:=HZ.o;omega,by rw [Z06,G7.o];exact h.2⟩),(Z1d _ _ _ _ _ Xf.2).trans (HK8.o j hl Xf.1)⟩
    refine bodyPost_ret (v:=.tuple #[.agg #[.int .i64 x.kind,.bool x.goal,.string x.id,.slice A1 x.attr.length a1,.slice A2 x.value.length a2,.bool x.acc,.slice A acc.length c],.bool (decide (0<acc.length))]) ?_ rfl ?_
    · exact Z0n (t:=2) (s:=3) (T:=77) rfl _ _ (w.heap.size+1) [.int .i64 x.kind,.bool x.goal,.string x.id,.slice A1 x.attr.length a1,.slice A2 x.value.length a2,.bool x.acc,.slice A acc.length c] _ rfl (Zsy _ _ _ _ HT.o) Tryz.underlying77 rfl Yb
    · rw [ce.o]
      exact ⟨Zpt x acc,A1,a1,A2,a2,A,c,by cases acc<;>rfl,fun y hy=>⟨by split at hy<;>cases hy;rfl,G1.o.plus Ou,G2.o.plus Ou,Lf.o.rowB.keep (by rw [Z06,G7.o];exact Zsu _) hkf⟩,Ou⟩
theorem Zlf :∀n,Zk2 n
 | 0=>Zds 0 (fun m h=>Ya)
 | n+1=>Zds (n+1) (fun m h=>by obtain rfl:m=n:=by omega
                               exact Zlf m)
end
section
open Go.RowKit Go.Shelf
def BF (X:World):Nat→Option Obj→Prop:=fun j o=>X.heap.size≤j∧∃cur t f,o=some (.cells cur t f)∧(t=126∨t=222)
def Fl (X w w':World):Prop:=Fr (fun j=>BF X j w.heap[j]?) w w'
theorem BF.not (X:World){e:TypeId}(h1:e≠126) (h2:e≠222):∀j cur f,¬BF X j (some (.cells cur e f)):=by
 rintro j cur f ⟨_,cur2,t,f2,h,ht⟩;injection h with h;injection h with _ h;subst h;exact ht.elim h1 h2
structure FS (X:World) (fb mb:Nat) (AB:Option Addr) (nB cB:Nat) (own:List Z0t) (w:World):Prop where
 bel:Below X.heap.size X w
 fge:X.heap.size≤fb
 ow :∃AW cW,Blk w fb 222 #[.pointer (some ⟨mb,0,none⟩),.slice AB nB cB,.slice AW own.length cW]∧w.ownsRow 0 126 4 (.slice AW own.length cW) own.length (own.flatMap Z0t.cells)∧AIn AW (X.heap.size≤·)
section
variable {X w w':World}{fb mb:Nat}{AB:Option Addr}{nB cB:Nat}{own:List Z0t}
theorem Fl.refl (X w:World):Fl X w w:=Fr.refl _ _
theorem Fl.trans {a b c:World}(h:Fl X a b) (k:Fl X b c):Fl X a c:=by
 exact Y39
theorem Fl.of_new (h:Below w.heap.size w w'):Fl X w w':=Fr.of_new h
theorem FS.frT {M:Nat→Prop}(h:FS X fb mb AB nB cB own w) (hF:Fr M w w') (hM :∀j,M j→X.heap.size≤j∧(j<w.heap.size→¬BF X j w.heap[j]?)):FS X fb mb AB nB cB own w':=by
 obtain ⟨h1,h2,AW,cW,h3,h4,h5⟩:=h;refine ⟨h1.trans (hF.below h1.size (fun k hk hm=>by have:=(hM k hm).1;omega)),h2,AW,cW,h3.fr hF (fun hm=>(hM _ hm).2 h3.lt ⟨h2,_,_,_,h3,.inr rfl⟩),Z0s h4 hF (fun g hg hm=>?_),h5⟩;have Gb:=Z3i h4 g hg;refine (hM _ hm).2 Gb ?_;rcases h4.2 with ⟨hv,_⟩|⟨g',cap,cur,hv,_,hb,_⟩
 · rw [hv] at hg;cases hg
 · rw [hv] at hg
   simp only [Value.ownBlock,Option.some.injEq] at hg;subst hg;rw [hb];refine ⟨?_,cur,126,_,rfl,.inl rfl⟩;injection hv with hv;exact h5 _ hv
theorem FS.new_ (h:FS X fb mb AB nB cB own w) (hb:Below w.heap.size w w'):FS X fb mb AB nB cB own w':=
 h.frT (M:=fun j=>w.heap.size≤j) (Fr.of_below hb) (fun j hj=>⟨Zt6 h.bel.size hj,fun hl=>absurd hl Ya⟩)
theorem FS.drew_ (h:FS X fb mb AB nB cB own w):FS X fb mb AB nB cB own w.drew:=h.frT (M:=fun _=>False) (Fr.refl _ _).drew (fun _ hf=>hf.elim)
theorem FS.set_ {g i:Nat}{t:TypeId}{cs:Array Value}(h:FS X fb mb AB nB cB own w) (hK:Blk w g t cs) (hg:X.heap.size≤g) (h1:t≠126) (h2:t≠222) (v:Value):FS X fb mb AB nB cB own (w.setCell ⟨g,i,none⟩ v):=
 h.frT (M:=(· = g)) ((Fr.refl (· = g) w).setCell (p:=⟨g,i,none⟩) (.inl rfl) v) (fun j hj=>YZd)
theorem Fr.cells {M:Nat→Prop}{a:World}{g:Nat}(hg:M g∨a.heap.size≤g):∀(vs:List Value) (o:Nat){b:World},Fr M a b→Fr M a (b.setCells g o vs)
 | [],_,_,h=>h
 | v :: vs,o,_,h=>Fr.cells hg vs (o+1) (h.setCell (p:=⟨g,o,none⟩) hg v)
theorem FS.cells {g:Nat}{t:TypeId}{cs:Array Value}(h:FS X fb mb AB nB cB own w) (hK:Blk w g t cs) (hg:X.heap.size≤g) (h1:t≠126) (h2:t≠222) (o:Nat) (vs:List Value):FS X fb mb AB nB cB own (w.setCells g o vs):=
 h.frT (M:=(· = g)) (Fr.cells (M:=(· = g)) (g:=g) (.inl rfl) vs o (Fr.refl (· = g) w)) (fun j hj=>YZd)
theorem Fl.blk {g:Nat}{t:TypeId}{cs:Array Value}(h:Fl X w w') (hK:Blk w g t cs) (h1:t≠126) (h2:t≠222):Blk w' g t cs:=hK.fr h (by rw [show w.heap[g]? = _ from hK];exact BF.not X h1 h2 _ _ _)
theorem LsC.fl {α:Type}{r:RepT α}{e:TypeId}{D:Nat→Prop}{B b:Nat}{l:List α}{A:Option Addr}{c:Nat}(h:LsC r e D (BF X) B b l A c w) (hF:Fl X w w') (h1:e≠126) (h2:e≠222):LsC r e D (BF X) B b l A c w':=
 h.keep (BF.not X h1 h2) hF.size (fun j hj _ hn=>hF.block j (Zsw hj h.1) hn)
theorem FS.more {b:Z0t}{AW:Option Addr}{cW:Nat}{v:Value}{Y:World}(h:FS X fb mb AB nB cB own w) (h3:Blk w fb 222 #[.pointer (some ⟨mb,0,none⟩),.slice AB nB cB,.slice AW own.length cW]) (h5:AIn AW (X.heap.size≤·)) (hb:Below w.heap.size w w')
 (hown:Y.ownsRow 0 126 4 v (own.length+1) (own.flatMap Z0t.cells ++ [b].flatMap Z0t.cells)) (hg:w'.grownBy Y (Value.slice AW own.length cW).ownBlock) (hat:v.ownBlock=(Value.slice AW own.length cW).ownBlock∨v.ownBlock=some w'.heap.size) (h4:w.ownsRow 0 126 4 (.slice AW own.length cW) own.length (own.flatMap Z0t.cells)) :
 ∃A' c',v = .slice A' (own.length+1) c'∧Blk Y fb 222 #[.pointer (some ⟨mb,0,none⟩),.slice AB nB cB,.slice AW own.length cW]∧FS X fb mb AB nB cB (own ++ [b]) (Y.setCell ⟨fb,2,none⟩ v)∧Fl X w (Y.setCell ⟨fb,2,none⟩ v):=by
 obtain ⟨A',c',rfl,hF,hA,hO⟩:=Z2h (E:=fun j=>∃a,AW=some a∧a.block=j) (fun a ha=>⟨a,ha,rfl⟩) hown hg hat;have Bf:=h3.new_ hb;have h4':=Z02 h4 hb;have hK:Blk Y fb 222 #[.pointer (some ⟨mb,0,none⟩),.slice AB nB cB,.slice AW own.length cW]:=Bf.fr hF (fun ⟨a,e1,e2⟩=>Z01 h4' Bf Yc (by subst e1;subst e2;rfl))
 have hAX :∀j,(∃a,AW=some a∧a.block=j)→BF X j w.heap[j]?:=fun j ⟨a,e1,e2⟩=>by
  rcases h4.2 with ⟨hv,_⟩|⟨g',cap,cur,hv,_,hbk,_⟩
  · injection hv with hv;rw [hv] at e1;cases e1
  · injection hv with hv
    rw [hv] at e1;injection e1 with e1;subst e1;subst e2;rw [hbk];exact ⟨h5 _ hv,cur,126,_,rfl,.inl rfl⟩
 have qi:Fr (fun j=>BF X j w.heap[j]?) w Y:=((Fr.of_new hb:Fr (fun j=>BF X j w.heap[j]?) w w').into hF (fun i hi=>.inl (hAX i hi)));have hne:fb≠w.heap.size∧fb<w.heap.size:=⟨by have:=h3.lt;omega,h3.lt⟩;have hFl:Fl X w (Y.setCell ⟨fb,2,none⟩ (.slice A' (own.length+1) c')):=qi.setCell (p:=⟨fb,2,none⟩) (.inl ⟨h.fge,_,_,_,h3,.inr rfl⟩) _;refine ⟨A',c',rfl,hK,⟨h.bel.trans (hFl.below h.bel.size (fun k hk hm=>by have:=hm.1;omega)),h.fge,A',c',?_,?_,fun a ha=>?_⟩,hFl⟩
 · have e2:(own ++ [b]).length=own.length+1:=by simp
   rw [e2];exact hK.set_ 2 _
 · have e2:(own ++ [b]).length=own.length+1:=by simp
   rw [e2,Zta];exact ownsRow_setCell_other (a:=⟨fb,2,none⟩) hO (Z01 hO hK Yc) _
 · rcases hA a ha with ⟨a2,e1,e2⟩|⟨e1,_⟩
   · rw [←e2];exact h5 a2 e1
   · exact Zt6 (Zt6 h.bel.size hb.size) e1
end
end
section
open Go.RowKit Go.Shelf
attribute [local go_sem] Oper.semAt_some
set_option maxRecDepth 100000
set_option maxHeartbeats 8000000
theorem Zh6 {l:List Z0t}{v:ByteArray}{k:Nat}(hk:k<l.length) (h0:(l.take k).find? (fun b=>decide (b.var.toList=v.toList))=none) (h1:l[k].var.toList=v.toList):l.find? (fun b=>decide (b.var.toList=v.toList))=some l[k]:=by
 have e:l=l.take k++l[k] :: l.drop (k+1):=by rw [←Ztt hk,List.take_append_drop]
 conv=>lhs;rw [e]
 rw [List.find?_append,h0,List.find?_cons,Zt9 h1];rfl
theorem Zdf {l:List Z0t}{v:ByteArray}{k:Nat}(hk:k<l.length) (h0:(l.take k).find? (fun b=>decide (b.var.toList=v.toList))=none) (h1 :¬l[k].var.toList=v.toList):(l.take (k+1)).find? (fun b=>decide (b.var.toList=v.toList))=none:=by
 rw [Ztq,Zt3 hk,List.find?_append,h0];simp [h1]
theorem Zog {X:World}{fb mb:Nat}{AB:Option Addr}{nB cB:Nat}{own:List Z0t}(v:ByteArray) (w:World) (h:FS X fb mb AB nB cB own w) (ho:own.length≤1000000) :
 Calls Tryz.prog 166 #[.pointer (some ⟨fb,0,none⟩),.string v] w fun e w'=>e = .returned (.string (Z7w v own).1)∧FS X fb mb AB nB cB (Z7w v own).2 w'∧Fl X w w':=by
 have HS:=hU h;obtain ⟨h1,h2,AW,cW,h3,h4,h5⟩:=h;have HK:=hU h3;have HO:=hU h4;have HA:=hU h5;have Ww:=hU (Z0e Z0t.cells_length h4);obtain ⟨q0,q1,q2⟩:=h3.c3;have qz:=h3.lt;clear h1 h2 h3 h4 h5;go_enter Tryz.func166,Tryz.ntmps166;go_wp2_with fail;clear q0 q1 q2 qz
 go_loopw [13] (fun s W=>∃k:Nat,s = .int .i64 k∧k≤own.length∧(own.take k).find? (fun b=>decide (b.var.toList=v.toList))=none∧Below w.heap.size w W) (fun s W=>own.length - (intOf s).toNat)
 case atStart=>exact ⟨0,rfl,Nat.zero_le _,rfl,Zst _ _⟩
 case round=>
  obtain ⟨k,rfl,hk,uu,L0⟩:=hrel;have T7:=hU L0;have U7:=hU uu;clear L0 uu;by_cases hlt:k<own.length
  · obtain ⟨u,hu⟩:∃u,u=own[k]:=⟨_,rfl⟩
    obtain ⟨g,off,rfl,hgs,Gk⟩:=(Ww.o.new_ T7.o).range hlt;rw [←hu] at Gk;refine Y5v ?_;intro q0 q1 q2 q3;have e1:(0:Int)≤(k:Int):=Ya;have e2:(k:Int)<(own.length:Int):=Ya;have HY:=hU (show u.var.toList=v.toList→Z7w v own=(u.sym.text,own) from fun h=>by rw [Z7w,Zh6 hlt U7.o (by rw [←hu];exact h),←hu]);have HN:=hU (show ¬u.var.toList=v.toList→_ from fun h=>Zdf hlt U7.o (by rw [←hu];exact h));clear hu Gk;go_wp2_with fail
    all_goals first
     | (go_ret;exact ⟨by rw [HY.o YTp]<;>rfl,by rw [HY.o YTp];exact HS.o.new_ (T7.o.trans (Below.mono (Below.al (Zst _ _) _) T7.o.size)),Fl.of_new (T7.o.trans (Below.mono (Below.al (Zst _ _) _) T7.o.size))⟩)
     | (have HE:=hU (HN.o YTp);go_roundw;(case rel=>exact ⟨k+1,Yn,Ya,HE.o,T7.o.trans (Below.mono (Below.al (Zst _ _) _) T7.o.size)⟩);(case measure=>simp [intOf]<;>omega))
  · obtain rfl:k=own.length:=by omega
    have HV:=hU (show Z7w v own=(Zpq (own.length+1),own ++ [⟨v,⟨0,Zpq (own.length+1),0⟩⟩]) by have:=U7.o;rw [Ztc] at this;rw [Z7w,this]);obtain ⟨q0,q1,q2⟩:=(HK.o.new_ T7.o).c3;have qz:=(HK.o.new_ T7.o).lt;have Sd:=Z6p (n:=own.length+1) Ya;obtain ⟨i0,tm,Nc,rm,Aj⟩:=infp Zby;have v1:IntKind.i64.wrap ((own.length:Int)+1)=((own.length+1:Nat):Int):=YL9;go_wp2_with fail;refine (Zbg (own.length+1) Ya wr).mono ?_;rintro e w3 ⟨rfl,hb⟩;obtain ⟨s,hs⟩:∃s,s=decB (own.length+1):=⟨_,rfl⟩;rw [←hs] at Sd ⊢;have z1 :¬9223372036854775807<2+s.size:=Ya;have HSS:=hU hs;clear hs;have Ue:=hU (T7.o.trans (hb.mono T7.o.size));obtain ⟨p0,p1,p2⟩:=(HK.o.new_ Ue.o).c3;have pz:=(HK.o.new_ Ue.o).lt;clear q0 q1 q2 qz hb;go_upto_region 8 with fail;obtain ⟨nm,tp⟩:∃n,n=(⟨#[118,45]⟩:ByteArray)++s:=⟨_,rfl⟩;rw [←tp];have HV:=hU (show Z7w v own=(nm,own ++ [⟨v,⟨0,nm,0⟩⟩]) by rw [HV.o,tp,HSS.o];rfl);obtain ⟨W4,rj⟩:∃W,W=w3.alloc (.cells #[.string v,.int .i64 0,.string nm,.int .i64 0] 126):=⟨_,rfl⟩;have HW4:=hU rj;have Ni:=hU (show Below w.heap.size w W4 by rw [rj];exact Ue.o.alloc Ue.o.size _);have HN4:=hU (show 0<1→∃ad,(some (⟨w3.heap.size,0,none⟩:Addr))=some ad∧∀j u,([(⟨v,⟨0,nm,0⟩⟩:Z0t)].flatMap Z0t.cells)[j]? = some u→W4.cell? (ad.add j)=some u from fun _=>⟨_,rfl,by rw [rj];exact Zte (heap_alloc_new _ _)⟩);clear rj tp Sd z1;(go_wp2_with (at_builtin;rw [←HW4.o];refine Z0g W4 rfl _ _ 78 rfl 126 i0 _ 4 48 Tryz.underlying78 tm Nc rm Aj rfl Ya (.slice AW own.length cW) own.length (own.flatMap Z0t.cells) rfl (Z02 HO.o Ni.o) (some ⟨w3.heap.size,0,none⟩) 1 1 ([(⟨v,⟨0,nm,0⟩⟩:Z0t)].flatMap Z0t.cells) rfl rfl HN4.o (Zca _) Yj Ya ?_;intro v1 Y rn Kg E5 Tt;obtain ⟨A9,c9,rfl,hK,hS,hF⟩:=HS.o.more HK.o HA.o Ni.o rn Kg Tt HO.o;have p0:=(hK.cell 0).trans rfl;have p2:=(hK.cell 2).trans rfl;have pf:=hK.frozen 2;have pz:=hK.lt;have og:=hU hS;have yg:=hU hF;clear rn Kg E5 Tt hK hS hF));go_ret;exact ⟨YJ0,by rw [HV.o];exact og.o,yg.o⟩
set_option maxRecDepth 100000
set_option maxHeartbeats 8000000
theorem Z4m {P:Program}{fn:Func}{t s:Tmp}{T:TypeId}(h:fn.results = #[.tmp s,.cell t T]) (tmps:Array Value) (w:World) (g:Nat) (cs:List Value) (d:TypeDesc) (ht:tmps.getD t undef = .pointer (some ⟨g,0,none⟩)) (hc:w.rangeAt g 0 cs)
 (hu:P.underlying T=some d) (hd:d.isRow=true) (hi:(P.info? T).map (·.size)=some cs.length):(results fn tmps).run P w = .ok (.tuple #[tmps.getD s undef,.agg cs.toArray]) w:=by
 exact Ygo
theorem Zq1 {X:World}{fb mb nb:Nat}{D:Nat→Prop}{ns:List Sym}{bs:List Z0t}{AB:Option Addr}{cB:Nat}(hN:Nm D X nb ns) (hM:MK X mb nb) (hns:ns.length≤1000) (hB:Z0y X 4 Z0t.cells AB cB bs) (v:ByteArray){own:List Z0t}(w:World) (h:FS X fb mb AB bs.length cB own w) (ho:own.length≤1000000) :
 Calls Tryz.prog 136 #[.pointer (some ⟨fb,0,none⟩),.string v] w fun e w'=>e = .returned (.tuple #[.string (ofV ns bs v own).1.1,.agg #[.int .i64 (ofV ns bs v own).1.2.kind,.string (ofV ns bs v own).1.2.text,.int .i64 (ofV ns bs v own).1.2.n]])∧FS X fb mb AB bs.length cB (ofV ns bs v own).2 w'∧Fl X w w':=by
 have HS:=hU h;obtain ⟨h1,h2,AW,cW,h3,h4,h5⟩:=h;have HK:=hU h3;have tx:=hU h1;have Ww:=hU hB;have HNM:=hU hN;have zh:=hU hM;have hbc:=hB.cap;obtain ⟨r,hr⟩:∃r,r=ofV ns bs v own:=⟨_,rfl⟩;rw [←hr];have HR:=hU hr;clear h1 h2 h3 h4 h5 hN hM hB hr;go_enter Tryz.func136,Tryz.ntmps136;go_upto_region 1 with fail;obtain ⟨W1,Wo⟩:∃W,W=w.alloc (.cells Q2a 41):=⟨_,rfl⟩;have Nk:=hU (show Below w.heap.size w W1 from YD4);have HT1:=hU (show Blk W1 w.heap.size 41 Q2a from YBf);rw [←Wo];clear Wo;obtain ⟨q0,q1,q2⟩:=(HK.o.new_ Nk.o).c3;have qz:=(HK.o.new_ Nk.o).lt;go_wp2_with fail;clear q0 q1 q2 qz
 go_loopw [13] (fun s W=>∃k:Nat,s = .int .i64 k∧k≤bs.length∧(bs.take k).find? (fun b=>decide (b.var.toList=v.toList))=none∧Below W1.heap.size W1 W) (fun s W=>bs.length - (intOf s).toNat)
 case atStart=>exact ⟨0,rfl,Nat.zero_le _,rfl,Zst _ _⟩
 case round=>
  obtain ⟨k,rfl,hk,uu,L0⟩:=hrel;have T7:=hU L0;have U7:=hU uu;have Jm:=hU (Nk.o.trans (L0.mono Nk.o.size));clear L0 uu;by_cases hlt:k<bs.length
  · obtain ⟨u,hu⟩:∃u,u=bs[k]:=⟨_,rfl⟩
    obtain ⟨g,off,rfl,hgs,Gk⟩:=(Ww.o.new_ (tx.o.trans (Jm.o.mono tx.o.size))).range hlt;rw [←hu] at Gk;refine Y5v ?_;intro q0 q1 q2 q3;have e1:(0:Int)≤(k:Int):=Ya;have e2:(k:Int)<(bs.length:Int):=Ya;have HY:=hU (show u.var.toList=v.toList→r=if u.sym.kind=1 then ((Z3y u.sym (plV ns u.sym),zS),own) else ((⟨#[]⟩,u.sym),own) from fun h=>by rw [HR.o,ofV,Zh6 hlt U7.o (by rw [←hu];exact h),←hu]);have HN:=hU (show ¬u.var.toList=v.toList→_ from fun h=>Zdf hlt U7.o (by rw [←hu];exact h));clear hu Gk;obtain ⟨W5,wv⟩:∃W,W=wr.alloc (.cells #[.string u.var,.int .i64 u.sym.kind,.string u.sym.text,.int .i64 u.sym.n] 126):=⟨_,rfl⟩;have Xp:=hU (show Below w.heap.size w W5 by rw [wv];exact Jm.o.alloc Jm.o.size _);have L6:=hU (show Below W1.heap.size W1 W5 by rw [wv];exact T7.o.alloc T7.o.size _);have Mc:=hU (show Blk W5 wr.heap.size 126 #[.string u.var,.int .i64 u.sym.kind,.string u.sym.text,.int .i64 u.sym.n] from YOa);go_upto_region 4 with fail;rw [←wv];clear wv q0 q1 q2 q3;obtain ⟨q0,q1,q2,q3⟩:=Mc.o.c4;have qz:=Mc.o.lt;by_cases hv:u.var.toList=v.toList
    case neg=>
     have k1:(u.var.toList == v.toList)=false:=YZb;have HE:=hU (HN.o hv);clear hv;exact Yh2
    have k1:(u.var.toList == v.toList)=true:=YZb;have Nr:=hU (HY.o hv);have P0:=hU (HT1.o.new_ L6.o);obtain ⟨p0,p1,p2⟩:=(HK.o.new_ Xp.o).c3;have pz:=(HK.o.new_ Xp.o).lt;clear hv;by_cases hk1:u.sym.kind=1
    · have k2:(u.sym.kind == 1)=true:=by simp [hk1]
      have Nr:=hU (show r=((Z3y u.sym (plV ns u.sym),zS),own) by rw [Nr.o,if_pos hk1]);have HC:=hU (fun W (hW:Below W5.heap.size W5 W)=>Z81 u.sym W (HNM.o.new_ ((tx.o.trans (Xp.o.mono tx.o.size)).trans (hW.mono (tx.o.trans (Xp.o.mono tx.o.size)).size))) (zh.o.new_ ((tx.o.trans (Xp.o.mono tx.o.size)).trans (hW.mono (tx.o.trans (Xp.o.mono tx.o.size)).size))) hns);clear hk1;go_upto_region 6 with fail;refine Z03 (fun w9=>Below W5.heap.size W5 w9) [(0,0),(1,0),(2,0),(3,1),(4,0),(5,1),(7,0),(6,2),(8,0),(9,2)] Yb Yb (fun KK hKK=>?_);refine Ybp ?_;refine Ysm ?_;intro K9 hK9;refine (HC.o _ ((Zst _ _).drew)).mono ?_;rintro e w6 ⟨rfl,hb⟩;have gi:=hU (Below.trans ((Zst W5.heap.size W5).drew) (hb.mono (Zsu _)));have Ih:=hU (P0.o.new_ gi.o);clear hb;refine hK9 _ _ gi.o ?_;clear hK9 K9;refine Yxt ?_;refine Z1m Yb (fun K9 hK9=>?_);refine Z0h rfl 41 _ _ rfl w.heap.size 0 Q2a rfl rfl (show _ from Ih.o.there) Yb Yb ?_;refine Y8n ?_;clear hK9 K9;refine Yf0 ?_;clear hKK KK;go_wp2_with fail;refine Ykv ?_;have Ou:=Below.setCells' (g:=w.heap.size) Q2z 0 (Xp.o.trans (gi.o.mono Xp.o.size)) (Zsu _);refine bodyPost_ret (v:=.tuple #[.string (Z3y u.sym (plV ns u.sym:Int)),.agg Q2a]) ?_ rfl ?_
      · exact Z4m (s:=4) (t:=5) (T:=41) rfl _ _ w.heap.size Q2z _ rfl (Zsy _ _ _ _ (show _ from Ih.o.there)) Tryz.underlying41 rfl Yb
      · rw [Nr.o];exact ⟨rfl,HS.o.new_ Ou,Fl.of_new Ou⟩
    · have k2:(u.sym.kind == 1)=false:=by simp [hk1]
      have Nr:=hU (show r=((⟨#[]⟩,u.sym),own) by rw [Nr.o,if_neg hk1]);clear hk1;go_upto_region 7 with fail;refine Z03 (fun w9=>Below W5.heap.size W5 w9) [(0,0),(1,1),(2,0),(3,2)] Yb Yb (fun KK hKK=>?_);refine Ybp ?_;refine Z1m Yb (fun K9 hK9=>?_);refine Z0h rfl 41 _ _ rfl w.heap.size 0 (Q1d u.sym) rfl rfl (show _ from P0.o.drew.there) Yb Yb ?_;refine Y8n ?_;clear hK9 K9;refine Yf0 ?_;clear hKK KK;go_wp2_with fail;refine Ykv ?_;have Ou:=Below.setCells' (g:=w.heap.size) (Q1c u.sym) 0 (Xp.o.drew) (Zsu _);refine bodyPost_ret (v:=.tuple #[.string ⟨#[]⟩,.agg (Q1d u.sym)]) ?_ rfl ?_
      · exact Z4m (s:=4) (t:=5) (T:=41) rfl _ _ w.heap.size (Q1c u.sym) _ rfl (Zsy _ _ _ _ (show _ from P0.o.drew.there)) Tryz.underlying41 rfl Yb
      · rw [Nr.o];exact ⟨rfl,HS.o.new_ Ou,Fl.of_new Ou⟩
  · obtain rfl:k=bs.length:=by omega
    have HV:=hU (show r=(((Z7w v own).1,zS),(Z7w v own).2) by have:=U7.o;rw [Ztc] at this;rw [HR.o,ofV,this]);go_wp2_with fail;refine (Zog v wr (HS.o.new_ Jm.o) ho).mono ?_;rintro e w3 ⟨rfl,hs3,Pz⟩;have j8:=hU (Pz.blk (HT1.o.new_ T7.o) Yc Yc);have Pj:=hU hs3;have pk:=hU ((Fl.of_new Jm.o).trans Pz);have Nw:=hU (show w3.there w.heap.size 0 (Q2a:Array Value).size from j8.o.there);clear hs3 Pz;(go_wp2_with (with_reducible refine wpList_store_mid rfl 41 _ _ rfl w.heap.size 0 Q2a rfl rfl Nw.o Yb Yb ?_));refine Ykv ?_;refine bodyPost_ret (v:=.tuple #[.string (Z7w v own).1,.agg Q2a]) ?_ rfl ?_
    · exact Z4m (s:=4) (t:=5) (T:=41) rfl _ _ w.heap.size Q2z _ rfl (Zsy _ _ _ _ Nw.o) Tryz.underlying41 rfl Yb
    · rw [HV.o];exact ⟨rfl,Pj.o.cells j8.o tx.o.size Yc Yc 0 _,Fr.cells (.inr (Zsu _)) _ 0 pk.o⟩
set_option maxRecDepth 100000
set_option maxHeartbeats 8000000
structure Fill (X:World) (mb nb:Nat) (D:Nat→Prop) (ns:List Sym) (bs:List Z0t) (AB:Option Addr) (cB:Nat):Prop where
 nm:Nm D X nb ns
 mkr:MK X mb nb
 le:ns.length≤1000
 rd:Z0y X 4 Z0t.cells AB cB bs
theorem Zl4 (v:ByteArray) (own:List Z0t):(Z7w v own).2.length≤own.length+1:=by unfold Z7w;split<;>simp
theorem Zm3 (ns:List Sym) (bs:List Z0t) (v:ByteArray) (own:List Z0t):(ofV ns bs v own).2.length≤own.length+1:=by
 unfold ofV;split
 · split<;>simp
 · exact Zl4 v own
theorem Zn6 (ns:List Sym) (bs:List Z0t) (t:Z0z) (own:List Z0t):(Z3f ns bs t own).2.length≤own.length+1:=by
 unfold Z3f;split
 · simp
 · exact Zm3 ns bs _ own
theorem Z3p (ns:List Sym) (bs:List Z0t):∀(l:List Z0z) (own:List Z0t),(mapS (Z3f ns bs) l own).2.length≤own.length+l.length
 | [],own=>Zsu _
 | t :: l,own=>by have h1:=Z3p ns bs l (Z3f ns bs t own).2;have h2:=Zn6 ns bs t own;rw [mapS,Ztg];simp only;omega
theorem Zpd {w:World}{e:TypeId}{size n c:Nat}{A:Option Addr}{xs:List Value}(h:w.ownsRow 0 e size (.slice A n c) n xs){j:Nat}(hj :∃a,A=some a∧a.block=j):j<w.heap.size∧∃cur,w.heap[j]? = some (.cells cur e (0,0)):=by
 obtain ⟨a,rfl,rfl⟩:=hj;rcases h.2 with ⟨hv,_⟩|⟨g,cap,cur,hv,_,hg,_⟩
 · cases hv
 · injection hv with hv;injection hv with hv;subst hv
   exact ⟨Blk.lt (t:=e) hg,cur,hg⟩
theorem Zet {X:World}{fb mb nb:Nat}{D:Nat→Prop}{ns:List Sym}{bs:List Z0t}{AB:Option Addr}{cB:Nat}(hF:Fill X mb nb D ns bs AB cB){DL:Nat→Prop}(A:Option Addr) (c:Nat) (l:List Z0z) (hL:RowR Z07 DL X A c l) (hs:SmT l){own:List Z0t}(w:World) (h:FS X fb mb AB bs.length cB own w) (ho:own.length≤100000) :
 Calls Tryz.prog 137 #[.pointer (some ⟨fb,0,none⟩),.slice A l.length c] w fun e w'=>∃A' c',e = .returned (.slice A' (mapS (Z3f ns bs) l own).1.length c')∧LsC Z07 196 (fun _=>False) (BF X) w.heap.size w'.heap.size (mapS (Z3f ns bs) l own).1 A' c' w'∧FS X fb mb AB bs.length cB (mapS (Z3f ns bs) l own).2 w'∧Fl X w w':=by
 obtain ⟨i0,tm,Nc,rm,Aj⟩:=infp Z8s;obtain ⟨j0,E6,ye,J8,Cq⟩:=infp Zdk;have hlc:=hL.cap;have hl1:=hs.1;have HL:=hU hL;have Lx:=hU hs;have HS:=hU h;have HF:=hU hF;clear hL hs h hF;go_enter Tryz.func137,Tryz.ntmps137;go_wp2_with fail
 go_loopw [5,10] (fun v i W=>∃(k:Nat) (p:List Z0z×List Z0t) (A1:Option Addr) (c1:Nat),i = .int .i64 k∧v = .slice A1 p.1.length c1∧k≤l.length∧p=mapS (Z3f ns bs) (l.take k) own∧LsC Z07 196 (fun _=>False) (BF X) w.heap.size W.heap.size p.1 A1 c1 W∧FS X fb mb AB bs.length cB p.2 W∧Fl X w W) (fun v i W=>l.length - (intOf i).toNat)
 case atStart=>exact ⟨0,([],own),none,0,rfl,rfl,Nat.zero_le _,rfl,LsC.nil _ _ _ (Zsu _) (fun j hj=>hj.elim),HS.o,Fl.refl _ _⟩
 case round=>
  obtain ⟨k,⟨out,js⟩,A1,c1,rfl,rfl,hk,hp,bf,Cl,hfl⟩:=hrel;simp only at bf Cl ⊢;have HP:=hU hp;have Lf:=hU bf;have R0:=hU Cl;have Ju:=hU hfl;have hz:=hfl.size;have I9:out.length=k:=YZv;(have how:js.length≤own.length+k:=by have h1:=Z3p ns bs (l.take k) own;rw [←hp,Zu3] at h1;simp only at h1;omega);have ji:=hU I9;clear hp bf Cl hfl I9;by_cases hlt:k<l.length
  · obtain ⟨y,hy⟩:∃y,y=l[k]:=⟨_,rfl⟩
    obtain ⟨g,off,A3,c3,rfl,_,hgs,q0,q1,q2,q3,q4,q5,r3⟩:=Z5a (HL.o.new_ R0.o.bel) hlt;rw [←hy] at q0 q1 q2 q3 q4 q5 r3;(have hy3:y.list.length≤1000:=by rw [hy];exact Lx.o.2 _ (Ztf hlt));have pq:=hU (RowR.rd (hs:=Sym.cells_length) r3);have hl3:=r3.cap;refine Ysh ?_;intro b1 b2;have HN:=hU (show (out ++ [(Z3f ns bs y js).1],(Z3f ns bs y js).2)=mapS (Z3f ns bs) (l.take (k+1)) own by rw [Zdx _ _ _ _ hlt,←HP.o,←hy]);clear hy r3;go_upto_region 5 with fail;obtain ⟨W2,xc⟩:∃W,W=wr.alloc (.cells (Q0n y A3 c3) 196):=⟨_,rfl⟩;have Un:=hU (show Below wr.heap.size wr W2 by rw [xc];exact Below.al (Zst _ _) _);have T0:=hU (show Blk W2 wr.heap.size 196 (Q0n y A3 c3) by rw [xc];exact Blk.new _ _ _);rw [←xc];clear xc q0 q1 q2 q3 q4 q5;have x5:W2.cell? ⟨wr.heap.size,5,none⟩=some (.slice A3 y.list.length c3):=(T0.o.cell 5).trans rfl;have xz:=T0.o.lt;(go_upto_region 6 with (at_builtin;refine Z0g W2 rfl (.const (.slice none 0 0)) (.tmp 15) 34 rfl 41 i0 _ 3 32 Tryz.underlying34 tm Nc rm Aj rfl Ya (.slice none 0 0) 0 [] rfl (Z2t _ _ _) A3 y.list.length c3 (y.list.flatMap Sym.cells) rfl (Z0u Sym.cells_length _) ((pq.o.new_ Un.o).news Sym.cells_length Ya) (Zcb _) Yj Ya ?_;intro v1 w5 rn Kg E5 Tt;rw [Zts,Ztk] at rn;obtain ⟨A5,c5,rfl,Bl,P7,Wz⟩:=Z4f rn Tt rfl Kg;have Tg:=T0.o.new_ Wz;have u5:=(Tg.cell 5).trans rfl;have g5:=Tg.frozen 5;have xz:=Tg.lt;have Xp:=hU Wz;have V0:=hU Bl;have P4:=hU P7;have Og:=hU Tg;clear Tg Wz Bl P7 rn Tt Kg E5 x5));obtain ⟨W6,xy⟩:∃W,W=w5.setCell ⟨wr.heap.size,5,none⟩ (.slice A5 y.list.length c5):=⟨_,rfl⟩;have gi:=hU (show Below wr.heap.size wr W6 by rw [xy];exact (Un.o.trans (Xp.o.mono Un.o.size)).setCell (Zsu _) _);have D0:=hU (show Blk W6 wr.heap.size 196 (Q0n y A5 c5) by rw [xy];exact Og.o.set_ 5 _);have Cy:=hU (show W6.ownsRow 0 41 3 (.slice A5 y.list.length c5) y.list.length (y.list.flatMap Sym.cells) by rw [xy];exact ownsRow_setCell_other (a:=⟨wr.heap.size,5,none⟩) V0.o (Z01 V0.o Og.o Yc) _)
    have cv:=hU (show ∀j,(∃a,A5=some a∧a.block=j)→wr.heap.size<j∧j<W6.heap.size∧¬BF X j W6.heap[j]? from fun j hj=>by
     obtain ⟨h1,cur,h2⟩:=Zpd Cy.o hj;refine ⟨?_,h1,by rw [h2];exact BF.not X Yc Yc _ _ _⟩;obtain ⟨a,e1,e2⟩:=hj;have:=(P4.o a e1).1;have:=T0.o.lt
     omega)
    have fc:=hU (show RowR Z3n (fun j=>∃a,A5=some a∧a.block=j) W6 A5 c5 y.list from RowR.of_rd (Z0e Sym.cells_length Cy.o) (fun a e=>⟨a,e,rfl⟩));have T9:=hU (R0.o.new_ gi.o);have HL6:=hU (Lf.o.new_ (BF.not X Yc Yc) gi.o);rw [←xy];clear xy u5 g5 xz;have x1:=(D0.o.cell 1).trans rfl;have xz:=D0.o.lt;by_cases hv:y.var.toList = []
    · have k1:y.var.toList.isEmpty=true:=by simp [hv]
      have k2:(y.var.toList == [])=true:=YZb;have HN:=hU (show (out ++ [y],js)=mapS (Z3f ns bs) (l.take (k+1)) own by rw [←HN.o,Z3f,if_pos hv]);clear hv;go_upto_region 8 with fail;clear x1 xz k1 k2;have qa:=D0;have HSe:=T9;have Bx:=hU (Fl.of_new (X:=X) gi.o);have HLe:=HL6;have HR5:=fc;have HE5:=cv;obtain ⟨u0,u1,u2,u3,u4,u5⟩:=qa.o.c6;have uz:=qa.o.lt;obtain ⟨W9,Gh⟩:∃V,V=W6.alloc (.cells (Q0n y A5 c5) 196):=⟨_,rfl⟩;(have Ct:Below W6.heap.size W6 W9:=by rw [Gh];exact Below.al (Zst _ _) _);have zr:=hU (HLe.o.new_ (BF.not X Yc Yc) Ct);have Oo:=hU (Z9i (y:=y) (HR5.o.new_ Ct));have md:=hU (show ∀j u,(Q0m y A5 c5)[j]? = some u→W9.cell? ((⟨W6.heap.size,0,none⟩:Addr).add j)=some u from YQq)
      refine Ytn ?_;intro sl Ff Gg xx Mx;clear Ct Gh;(go_wp2_with (at_builtin;rw [←Mx.o];refine Z57 W9 rfl _ _ 75 rfl 196 j0 _ 6 80 Tryz.underlying75 E6 ye J8 Cq rfl rfl Ya zr.o Ff.o rfl ⟨W6.heap.size,0,none⟩ 1 y (Q0m y A5 c5) rfl md.o (by intro u hu;simp only [Ztb,Zth,or_false] at hu;rcases hu with rfl|rfl|rfl|rfl|rfl|rfl<;>rfl) _ sl.o Oo.o YY4 (by rw [ji.o];omega) ?_;intro A' c' w9 hL hA));refine Yhl ?_;intro mr Mv Re;clear hL hA;go_roundw
      case rel=>exact ⟨k+1,(out ++ [y],js),A',c',Yn,Ye,Ya,HN.o,mr.o,Mv.o,Re.o⟩
      case measure=>simp [intOf]<;>omega
    have k1:y.var.toList.isEmpty=false:=YZb;have k2:(y.var.toList == [])=false:=YZb;have HT:=hU (show Z3f ns bs y js=(⟨y.rel,(ofV ns bs y.var js).1.1,(ofV ns bs y.var js).1.2,y.list⟩,(ofV ns bs y.var js).2) by rw [Z3f,if_neg hv]);clear hv;have hc:=Zq1 HF.o.nm HF.o.mkr HF.o.le HF.o.rd y.var W6 T9.o Ya;obtain ⟨r,hr⟩:∃r,r=ofV ns bs y.var js:=⟨_,rfl⟩;rw [←hr] at hc HT;obtain ⟨⟨s,q⟩,o2⟩:=r;have HC:=hU hc;have HN:=hU (show (out ++ [(⟨y.rel,s,q,y.list⟩:Z0z)],o2)=mapS (Z3f ns bs) (l.take (k+1)) own by rw [←HN.o,HT.o]);clear hc hr HT;go_wp2_with fail;refine HC.o.mono ?_;rintro e w7 ⟨rfl,M8,ny⟩;have Xk:=hU (ny.blk D0.o Yc Yc);obtain ⟨u0,u1,u2,u3,u4,u5⟩:=Xk.o.c6;have g1:=Xk.o.frozen 1;have g2:=Xk.o.frozen 2;have g3:=Xk.o.frozen 3;have g4:=Xk.o.frozen 4;have uz:=Xk.o.lt;have Su:=hU M8;have mc:=hU ny;clear M8 ny x1 xz k1 k2;go_upto_region 8 with fail;obtain ⟨W8,wl⟩:∃W,W=(((w7.setCell ⟨wr.heap.size,1,none⟩ (.string s)).setCell ⟨wr.heap.size,2,none⟩ (.int .i64 q.kind)).setCell ⟨wr.heap.size,3,none⟩ (.string q.text)).setCell ⟨wr.heap.size,4,none⟩ (.int .i64 q.n):=⟨_,rfl⟩;(have Sf:Fr (· = wr.heap.size) w7 W8:=by rw [wl];exact ((((Fr.refl (· = wr.heap.size) w7).setCell (p:=⟨wr.heap.size,1,none⟩) (.inl rfl) _).setCell (p:=⟨wr.heap.size,2,none⟩) (.inl rfl) _).setCell (p:=⟨wr.heap.size,3,none⟩) (.inl rfl) _).setCell (p:=⟨wr.heap.size,4,none⟩) (.inl rfl) _);have qa:=hU (show Blk W8 wr.heap.size 196 #[.int .i64 y.rel,.string s,.int .i64 q.kind,.string q.text,.int .i64 q.n,.slice A5 y.list.length c5] by rw [wl];exact (((Xk.o.set_ 1 _).set_ 2 _).set_ 3 _).set_ 4 _);have Bx:=hU (show Fl X wr W8 from Fr.into ((Fl.of_new (X:=X) gi.o).trans mc.o) Sf (fun j hj=>.inr Ya));have HSe:=hU (Su.o.frT Sf (fun j hj=>by subst hj;exact ⟨Zt6 HS.o.bel.size hz,fun _=>by rw [show w7.heap[wr.heap.size]? = _ from Xk.o];exact BF.not X Yc Yc _ _ _⟩));have HLe:=hU ((HL6.o.fl mc.o Yc Yc).keep (BF.not X Yc Yc) Sf.size (fun j hj _ _=>Sf.block j (by have:=gi.o.size;have:=mc.o.size;omega) Ya));have HR5:=hU ((fc.o.fr mc.o (fun j hj=>(cv.o j hj).2.2)).fr Sf (fun j hj=>by have:=(cv.o j hj).1;omega))
    have HE5:=hU (show ∀j,(∃a,A5=some a∧a.block=j)→wr.heap.size<j∧j<W8.heap.size∧¬BF X j W8.heap[j]? from fun j hj=>by
     obtain ⟨h1,h2,h3⟩:=cv.o j hj;have h4:=mc.o.block j h2 h3;have h5:j<w7.heap.size:=Zsw h2 mc.o.size;have h6:=Sf.block j h5 Ya
     exact ⟨h1,Zsw h5 Sf.size,by rw [h6,h4];exact h3⟩)
    rw [←wl];clear wl Sf u0 u1 u2 u3 u4 u5 g1 g2 g3 g4 uz;obtain ⟨u0,u1,u2,u3,u4,u5⟩:=qa.o.c6;have uz:=qa.o.lt;obtain ⟨W9,Gh⟩:∃V,V=W8.alloc (.cells #[.int .i64 y.rel,.string s,.int .i64 q.kind,.string q.text,.int .i64 q.n,.slice A5 y.list.length c5] 196):=⟨_,rfl⟩;(have Ct:Below W8.heap.size W8 W9:=by rw [Gh];exact Below.al (Zst _ _) _);have zr:=hU (HLe.o.new_ (BF.not X Yc Yc) Ct);have Oo:=hU (Z9i (y:=(⟨y.rel,s,q,y.list⟩:Z0z)) (HR5.o.new_ Ct));have md:=hU (show ∀j u,[.int .i64 y.rel,.string s,.int .i64 q.kind,.string q.text,.int .i64 q.n,.slice A5 y.list.length c5][j]? = some u→W9.cell? ((⟨W8.heap.size,0,none⟩:Addr).add j)=some u from YQq)
    refine Ytn ?_;intro sl Ff Gg xx Mx;clear Ct Gh;(go_wp2_with (at_builtin;rw [←Mx.o];refine Z57 W9 rfl _ _ 75 rfl 196 j0 _ 6 80 Tryz.underlying75 E6 ye J8 Cq rfl rfl Ya zr.o Ff.o rfl ⟨W8.heap.size,0,none⟩ 1 (⟨y.rel,s,q,y.list⟩:Z0z) [.int .i64 y.rel,.string s,.int .i64 q.kind,.string q.text,.int .i64 q.n,.slice A5 y.list.length c5] rfl md.o (by intro u hu;simp only [Ztb,Zth,or_false] at hu;rcases hu with rfl|rfl|rfl|rfl|rfl|rfl<;>rfl) _ sl.o Oo.o YY4 (by rw [ji.o];omega) ?_;intro A' c' w9 hL hA));refine Yhl ?_;intro mr Mv Re;clear hL hA;go_roundw
    case rel=>exact ⟨k+1,(out ++ [(⟨y.rel,s,q,y.list⟩:Z0z)],o2),A',c',Yn,Ye,Ya,HN.o,mr.o,Mv.o,Re.o⟩
    case measure=>simp [intOf]<;>omega
  · obtain rfl:k=l.length:=by omega
    have HE:=hU (show (out,js)=mapS (Z3f ns bs) l own by rw [HP.o,Ztc]);go_wp2_with fail;go_ret;rw [←HE.o];exact ⟨A1,c1,rfl,Lf.o,R0.o,Ju.o⟩
end
end Go.Proofs.YtcnnofgaifcgaaaGreat
