/-
  Texts put together: BkHeavy, LeafPgS, FindPgS, OpsPgS, PutPgS, MiscPgS, NewPgS, BkSymG, BkSym, VaryN.
-/
import Derived.Test.YtcnnofgaifcgaaaGreatPTf
namespace Go.Proofs.YtcnnofgaifcgaaaGreat
set_option maxRecDepth 100000
set_option maxHeartbeats 32000000
set_option linter.unusedSimpArgs false
section
open Go.RowKit Go.Shelf
theorem Zhv {most n d:Nat}{l:List Z0a}(h:Z2i most n d l≤most):l.length≤most∧∀c∈l,Z2i most (n - 1) (d+1) c.conds≤most:=by
 cases n with
 | zero=>
   unfold Z2i at h
   split at h
   · omega
   · split at h
     · rename_i hl;subst hl;simp
     · omega
 | succ n=>
   unfold Z2i at h
   split at h
   · omega
   · have hg:goK most (fun c=>Z2i most n (d+1) c.conds) l 0≤most:=by omega
     obtain ⟨h1,h2⟩:=Zbw most _ l 0 hg
     have h3 :∀l:List Z0a,l.length≤(l.map fun c=>1+Z2i most n (d+1) c.conds).sum:=fun l=>by
      induction l with
      | nil=>simp
      | cons c l ih=>simp only [List.map_cons,List.sum_cons,Ztg];omega
     have:=h3 l;exact ⟨Ya,h2⟩
theorem Zl6 {c:Z0a}(h:Z4g c=false):SmT c.attr∧SmT c.value:=by
 unfold Z4g at h;simp only [Bool.or_eq_false_iff,decide_eq_false_iff_not] at h;obtain ⟨_,h2,h3,h4,h5⟩:=h
 have f :∀l:List Z0z,l.any Z4p=false→∀t∈l,t.list.length≤1000:=fun l hl t ht=>by
  have:=List.any_eq_false.1 hl t ht;unfold Z4p at this;exact Yt5
 exact ⟨⟨Ya,f _ h4⟩,⟨Ya,f _ h5⟩⟩
theorem Zis {c:Z0a}(h:Z4g c=false):c.attr.length≤10∧c.value.length≤10:=by
 unfold Z4g at h;simp only [Bool.or_eq_false_iff,decide_eq_false_iff_not] at h;omega
theorem Zms {n:Nat}{D:Nat→Prop}{W:World}{g:Nat}{y:Z0a}{A1 A2 A3:Option Addr}{c1 c2 c3:Nat}(hb:Blk W g 77 (Q0r y A1 c1 A2 c2 A3 c3)) (h1:RowR Z07 D W A1 c1 y.attr) (h2:RowR Z07 D W A2 c2 y.value) (h3:RowR (Z09 n) D W A3 c3 y.conds) :
 RowR (Z09 (n+1)) (fun j=>D j∨j=g) W (some ⟨g,0,none⟩) 1 [y]:=by
 refine ⟨Zsu _,Yj,fun _=>⟨g,0,rfl,.inr rfl,hb.lt,fun k hk=>?_⟩⟩;(obtain rfl:k=0:=YUq);refine ⟨_,Z64 (h1.weaken fun _ h=>.inl h) (h2.weaken fun _ h=>.inl h) (h3.weaken fun _ h=>.inl h),fun j u hu=>?_⟩;simp only [Nat.zero_mul,Nat.add_zero,Zts];rw [hb.cell];simpa using hu
theorem Zmt {W:World}{g:Nat}{y:Elem}(hb:Blk W g 50 (Q0j y)):RowR Z39 (· < W.heap.size) W (some ⟨g,0,none⟩) 1 [y]:=by
 refine ⟨Zsu _,Yj,fun _=>⟨g,0,rfl,hb.lt,hb.lt,fun k hk=>?_⟩⟩;(obtain rfl:k=0:=YUq);refine ⟨_,rfl,fun j u hu=>?_⟩;simp only [Nat.zero_mul,Nat.add_zero,Zts];rw [hb.cell];simpa [Elem.cells] using hu
theorem Zox {D:Nat→Prop}(A:Option Addr) (c:Nat) (l:List Elem) (most:Int) (w:World) (h:RowR Z39 D w A c l) :
 Calls Tryz.prog 54 #[.slice A l.length c,.int .i64 most] w fun e w'=>∃b,e = .returned (.bool b)∧Below w.heap.size w w':=by
 have HL:=hU h;have hlc:=h.cap;clear h;by_cases hm:most<(l.length:Int)
 · have d0:decide (most<(l.length:Int))=true:=by simpa using hm
   clear hm;go_enter Tryz.func54,Tryz.ntmps54;go_wp2_with fail;go_ret;exact ⟨false,rfl,Zst _ _⟩
 · have d0:decide (most<(l.length:Int))=false:=by simpa using hm
   clear hm;go_enter Tryz.func54,Tryz.ntmps54;go_wp2_with fail
   go_loopw [5] (fun s wr=>∃i:Nat,s = .int .i64 i∧i≤l.length∧Below w.heap.size w wr) (fun s wr=>l.length - (intOf s).toNat)
   case atStart=>exact ⟨0,rfl,Nat.zero_le _,Zst _ _⟩
   case round=>
    obtain ⟨i,rfl,hi,hB⟩:=hrel;have HB:=hU hB;clear hB;by_cases hlt:i<l.length
    · obtain ⟨y,hy⟩:∃y,y=l[i]:=⟨_,rfl⟩
      obtain ⟨g,off,sf,_,hg,q0,q1,q2,q3,q4,q5,q6,q7,q8,q9,Jw,P8⟩:=Zqn (HL.o.new_ HB.o) hlt;subst sf;rw [←hy] at q0 q1 q2 q3 q4 q5 q6 q7 q8 q9 Jw P8;refine Yyx ?_;intro b1 b2;clear hy
      cases d1:decide ((100:Int)<(y.id.text.size:Int)) with
      | true=>
        exact Yio
      | false=>
        cases d2:decide ((100:Int)<(y.attr.text.size:Int)) with
        | true=>
          exact Yio
        | false=>
          cases d3:decide ((100:Int)<(y.value.text.size:Int)) with
          | true=>
            exact Yio
          | false=>
            exact Y32
    · obtain rfl:i=l.length:=by omega
      go_wp2_with fail;go_ret;exact ⟨true,rfl,HB.o⟩
theorem Zno {D:Nat→Prop}(A:Option Addr) (c:Nat) (l:List Elem) (most:Int) (w:World) (h:RowR Z39 D w A c l) :
 Calls Tryz.prog 24 #[.slice A l.length c,.int .i64 most] w fun e w'=>∃b,e = .returned (.bool b)∧Below w.heap.size w w':=by
 have HL:=hU h;clear h;go_enter Tryz.func24,Tryz.ntmps24;go_wp2_with fail;refine (Zox A c l most _ HL.o).mono ?_;rintro e w' ⟨b,rfl,hB⟩;have HB:=hU hB;clear hB;go_wp2_with fail;go_ret;exact ⟨b,rfl,HB.o⟩
theorem Zcp {n d:Nat}{l:List Z0a}(h1:Z2i 16 (n+1) d l≤16):Z2i 16 (n+1) d l=(l.map fun c=>1+Z2i 16 n (d+1) c.conds).sum∧∀c∈l,Z2i 16 n (d+1) c.conds≤16:=by
 rw [Z2i] at h1 ⊢
 split at h1
 · omega
 · rename_i hd
   rw [if_neg hd];have hg:goK 16 (fun c=>Z2i 16 n (d+1) c.conds) l 0≤16:=Ya;have:=Zbw 16 _ l 0 hg;exact ⟨Ya,this.2⟩
theorem Zah {d:Nat}{l:List Z0a}(h:Z2i 16 0 d l≤16):l = []:=by
 rw [Z2i] at h
 split at h
 · omega
 · split at h
   · assumption
   · omega
theorem Zq6 :∀(n d m:Nat) (l:List Z0a),Z2i 16 n d l≤16→Z5b n l=false→(l.map (szH m)).sum≤21*Z2i 16 n d l
 | 0,d,m,l,h1,_=>by rw [Zah h1];simp
 | n+1,d,m,l,h1,h2=>by
   rw [Z7n] at h2;rw [(Zcp h1).1]
   have :∀l:List Z0a,(l.any fun c=>Z4g c ||Z5b n c.conds)=false→(∀c∈l,Z2i 16 n (d+1) c.conds≤16)→(l.map (szH m)).sum≤21*(l.map fun c=>1+Z2i 16 n (d+1) c.conds).sum:=fun l=>by
    induction l with
    | nil=>intro _ _;simp
    | cons c l ih2=>
      intro h ha;rw [List.any_cons,Bool.or_eq_false_iff,Bool.or_eq_false_iff] at h;have h3:=ih2 h.2 (fun x hx=>ha x YXl);obtain ⟨g1,g2⟩:=Zis h.1.1;rw [List.map_cons,List.map_cons,List.sum_cons,List.sum_cons]
      have h5:szH m c≤21+21*Z2i 16 n (d+1) c.conds:=by
       cases m with
       | zero=>rw [szH];omega
       | succ m=>
         have h4:=Zq6 n (d+1) m c.conds (ha c Ye) h.1.2;rw [szH];omega
      omega
   exact this l h2 (Zcp h1).2
theorem Zn2 :∀(n d m:Nat) (l:List Z0a),Z2i 16 n d l≤16→Z5b n l=false→∀c∈l,SmC m c
 | 0,d,m,l,h1,_,c,hc=>by rw [Zah h1] at hc;cases hc
 | n+1,d,0,l,_,_,c,hc=>trivial
 | n+1,d,m+1,l,h1,h2,c,hc=>by
   rw [Z7n] at h2;have h3:=List.any_eq_false.1 h2 c hc;simp only [Zui,not_or,Bool.not_eq_true] at h3;have h4:=(Zhv h1).2 c hc;obtain ⟨g1,g2⟩:=Zl6 h3.1;exact ⟨g1,g2,by have:=(Zhv h4).1;omega,Zn2 n (d+1) m c.conds h4 h3.2⟩
def SmH2 (n:Nat) (h:Z43):Prop:=SmH 19 h∧szH 19 h.cond≤336∧Z2i 16 (n+1) 0 [h.cond]≤16
def SmR2 (n:Nat) (r:Z0c):Prop:=SmR 19 r∧r.holes.length≤8∧r.aparts.length≤12∧r.news.length≤20∧∀h∈r.holes,szH 19 h.cond≤336∧Z2i 16 (n+1) 0 [h.cond]≤16
theorem RowR.impM {α:Type}{r r':RepT α}{D:Nat→Prop}{w:World}{A:Option Addr}{c:Nat}{l:List α}(h:RowR r D w A c l) (hs:r.size=r'.size) (hi :∀a∈l,∀cs,r.rep D w a cs→r'.rep D w a cs):RowR r' D w A c l:=by
 refine ⟨h.1,h.2.1,fun h0=>?_⟩;obtain ⟨b,off,h1,h2,h3,h4⟩:=h.2.2 h0;refine ⟨b,off,h1,h2,h3,fun k hk=>?_⟩;obtain ⟨cs,h5,h6⟩:=h4 k hk;exact ⟨cs,hi _ (Ztf hk) _ h5,by rw [←hs];exact h6⟩
theorem Zse {n:Nat}{D:Nat→Prop}{w:World}{A:Option Addr}{c:Nat}{l:List Z0c}(h:RowR (Z18 n) D w A c l) (hs :∀r∈l,SmR2 n r):RowR (Z18 19) D w A c l:=by
 refine h.impM rfl (fun r hr cs hc=>?_);obtain ⟨A1,c1,A2,c2,A3,c3,A4,c4,h0,h1,h2,h3,h4⟩:=hc;refine ⟨A1,c1,A2,c2,A3,c3,A4,c4,h0,h1,h2.impM rfl (fun x hx cs hc=>?_),h3,h4⟩;obtain ⟨B1,d1,B2,d2,B3,d3,B4,d4,k0,k1,k2,k3,k4⟩:=hc;have hz:=((Zcp ((hs r hr).2.2.2.2 x hx).2).2 x.cond Ye);exact ⟨B1,d1,B2,d2,B3,d3,B4,d4,k0,k1,k2,(Z8w 16 n 1 x.cond.conds hz).2 k3,k4⟩
def Znr (n:Nat) (l:List Z0c) (w:World) (e:Ending) (w':World):Prop:=∃b,e = .returned (.bool b)∧Below w.heap.size w w'∧(b=false→l.length≤12∧∀r∈l,SmR2 n r∧r.elems.length≤20)
theorem Ziq {D:Nat→Prop}(n:Nat) (A:Option Addr) (c:Nat) (l:List Z0c) (w:World) (h:RowR (Z18 n) D w A c l) :
 Calls Tryz.prog 10 #[.slice A l.length c,.int .i64 12] w (Znr n l w):=by
 have HL:=hU h;have hlc:=h.cap;clear h;by_cases hm:(12:Int)<(l.length:Int)
 · have d0:decide ((12:Int)<(l.length:Int))=true:=by simpa using hm
   clear hm;go_enter Tryz.func10,Tryz.ntmps10;go_wp2_with fail;go_ret;exact ⟨true,rfl,Zst _ _,fun h=>YZt⟩
 · have d0:decide ((12:Int)<(l.length:Int))=false:=by simpa using hm
   have HM:=hU (show l.length≤12 from Ya);clear hm;go_enter Tryz.func10,Tryz.ntmps10;go_wp2_with fail
   go_loopw [5] (fun s wr=>∃i:Nat,s = .int .i64 i∧i≤l.length∧(∀j,(h:j<l.length)→j<i→SmR2 n l[j]∧l[j].elems.length≤20)∧Below w.heap.size w wr) (fun s wr=>l.length - (intOf s).toNat)
   case atStart=>exact ⟨0,rfl,Nat.zero_le _,fun j _ h=>absurd h Ya,Zst _ _⟩
   case round=>
    obtain ⟨i,rfl,hi,ag,hB⟩:=hrel;have HB:=hU hB;have ax:=hU ag;clear hB ag;by_cases hlt:i<l.length
    · obtain ⟨r,hr⟩:∃r,r=l[i]:=⟨_,rfl⟩
      obtain ⟨g,off,A1,c1,A2,c2,A3,c3,A4,c4,sf,_,hg,q0,q1,q2,q3,q4,q5,r1,r2,r3,r4⟩:=Zav (HL.o.new_ HB.o) hlt;subst sf;rw [←hr] at q0 q1 q2 q3 q4 q5 r1 r2 r3 r4;refine Yyx ?_;intro b1 b2;have HR:=hU hr;have R1:=hU r1;have R2:=hU r2;have k1:=r1.cap;have k2:=r2.cap;have k3:=r3.cap;have k4:=r4.cap;clear hr r1 r2 r3 r4;go_upto_region 7 with fail;obtain ⟨W6,xy⟩:∃W6,W6=wr.alloc (.cells (Q0t r A1 c1 A2 c2 A3 c3 A4 c4) 61):=⟨_,rfl⟩;have un:Below wr.heap.size wr W6:=YGt;(have Lj:Blk W6 wr.heap.size 61 (Q0t r A1 c1 A2 c2 A3 c3 A4 c4):=by rw [xy];exact Blk.new _ _ _);rw [←xy];clear xy q0 q1 q2 q3 q4 q5;obtain ⟨x0,x1,x2,x3,x4,x5⟩:=Lj.c6;have Jk:=Lj.lt;have gi:=hU (HB.o.trans (un.mono HB.o.size));have D0:=hU Lj;have R1:=hU (R1.o.new_ un);have R2:=hU (R2.o.new_ un);clear un Lj;generalize wr.heap.size=wf6 at D0 x0 x1 x2 x3 x4 x5 Jk ⊢
      cases d1:decide ((20:Int)<(r.elems.length:Int)) with
      | true=>
        exact Yyy
      | false=>
      cases d2:decide ((8:Int)<(r.holes.length:Int)) with
      | true=>
        exact Yyy
      | false=>
      cases d3:decide ((12:Int)<(r.aparts.length:Int)) with
      | true=>
        exact Yyy
      | false=>
      cases d4:decide ((20:Int)<(r.news.length:Int)) with
      | true=>
        exact Yyy
      | false=>
        have HD:=hU (show r.elems.length≤20∧r.holes.length≤8∧r.aparts.length≤12∧r.news.length≤20 by simp at d1 d2 d3 d4;omega);go_wp2_with fail;clear x0 x1 x2 x3 x4 x5 Jk d1 d2 d3 d4
        go_loopw [7] (fun s wq=>∃k:Nat,s = .int .i64 k∧k≤r.elems.length∧Below W6.heap.size W6 wq) (fun s wq=>r.elems.length - (intOf s).toNat)
        case atStart=>exact ⟨0,rfl,Nat.zero_le _,Zst _ _⟩
        case round=>
         obtain ⟨k,rfl,hk,Nz⟩:=hrel;have Jv:=D0.o.new_ Nz;obtain ⟨x0,x1,x2,x3,x4,x5⟩:=Jv.c6;have Jl:=Jv.lt;have ms:=hU Nz;clear Nz Jv;by_cases hlt2:k<r.elems.length
         · obtain ⟨y,hy⟩:∃y,y=r.elems[k]:=⟨_,rfl⟩
           obtain ⟨ge,oe,sf,_,l8,q0,q1,q2,q3,q4,q5,q6,q7,q8,q9,Jw,P8,i5,Nb⟩:=Z9n (R1.o.new_ ms.o) hlt2;subst sf;rw [←hy] at q0 q1 q2 q3 q4 q5 q6 q7 q8 q9 Jw P8 i5 Nb;have b3:(0:Int)≤(k:Int):=Ya;have b4:(k:Int)<(r.elems.length:Int):=Ya;clear hy;go_wp2_with fail;have gl:Below wr.heap.size wr (wr.alloc (.cells (Q0j y.elem) 50)):=(Zst _ _).alloc (Zsu _) _;refine (Zno (some ⟨wr.heap.size,0,none⟩) 1 [y.elem] 1 _ (Zmt (Blk.new _ _ _))).mono ?_;rintro e w9 ⟨b,rfl,Rl⟩;have Uk:=ms.o.size;have vw:=(ms.o.trans (gl.mono Uk)).trans (Rl.mono (by have:=gl.size;omega));have yq:=hU vw;clear gl Rl vw q0 q1 q2 q3 q4 q5 q6 q7 q8 q9 Jw P8 i5 Nb x0 x1 x2 x3 x4 x5 Jl
           cases b with
           | false=>
             exact Y7b
           | true=>
             go_wp2_with fail;go_roundw
             case rel=>exact ⟨k+1,Yn,Ya,yq.o⟩
             case measure=>simp [intOf]<;>omega
         · obtain rfl:k=r.elems.length:=by omega
           obtain ⟨W8,wl⟩:∃W8,W8=wr:=⟨_,rfl⟩;subst wl;go_wp2_with fail;clear x0 x1 x2 x3 x4 x5 Jl
           go_loopw [8] (fun s wq=>∃k:Nat,s = .int .i64 k∧k≤r.holes.length∧(∀j,(h:j<r.holes.length)→j<k→SmH2 n r.holes[j])∧Below W6.heap.size W6 wq) (fun s wq=>r.holes.length - (intOf s).toNat)
           case atStart=>exact ⟨0,rfl,Nat.zero_le _,fun j _ h=>absurd h Ya,ms.o⟩
           case round=>
            obtain ⟨k,rfl,hk2,ag,hB8⟩:=hrel;have fw:=D0.o.new_ hB8;obtain ⟨x0,x1,x2,x3,x4,x5⟩:=fw.c6;have hxl8:=fw.lt;have ld:=hU hB8;have Ul:=hU ag;have HX8:=hU fw;clear hB8 fw ag;by_cases hlt3:k<r.holes.length
            · obtain ⟨y,hy⟩:∃y,y=r.holes[k]:=⟨_,rfl⟩
              obtain ⟨ge,oe,so,Bv,Xj,qw,qy,Mg,Ay4,cy4,sf,_,l8,q0,q1,q2,q3,q4,q5,q6,q7,y1,y2,y3,y4⟩:=Zbm (R2.o.new_ ld.o) hlt3;subst sf;rw [←hy] at q0 q1 q2 q3 q4 q5 q6 q7 y1 y2 y3 y4;have b3:(0:Int)≤(k:Int):=Ya;have b4:(k:Int)<(r.holes.length:Int):=Ya;have kc4:=y4.cap;have HY:=hU hy;have Y1:=hU y1;have Y2:=hU y2;have Y3:=hU y3;clear hy y1 y2 y3 y4;go_upto_region 18 with fail;obtain ⟨W9,Gh⟩:∃W9,W9=wr.alloc (.cells (Q0r y.cond so Bv Xj qw qy Mg) 77):=⟨_,rfl⟩;have Ct:Below wr.heap.size wr W9:=YLf;have uo:Blk W9 wr.heap.size 77 (Q0r y.cond so Bv Xj qw qy Mg):=YC8;rw [←Gh];clear Gh;have Xq:=Zms uo (Y1.o.new_ Ct) (Y2.o.new_ Ct) (Y3.o.new_ Ct);have Kc:=hU Xq;have Ea:=ld.o.size;have yq:=hU (ld.o.trans (Ct.mono Ea));have hb9c:=Ct;have x3':=(Ct.cell (p:=⟨wf6,3,none⟩) hxl8).trans x3;have q7':=(Ct.cell (p:=⟨ge,oe+k*8+7,none⟩) l8).trans q7;have Vd:wf6<W9.heap.size:=YSo;have hge9:ge<W9.heap.size:=YSo;clear Xq uo hb9c x0 x1 x2 x3 x4 x5 q0 q1 q2 q3 q4 q5 q6 q7;have Ta:Calls Tryz.prog 25 #[.slice (some ⟨wr.heap.size,0,none⟩) 1 1,.int .i64 16,.int .i64 0] W9 _:=Zrj 16 Yc (n+1) _ _ _ 0 [y.cond] W9 Kc.o Yc;obtain ⟨s,hs⟩:∃s,s=Z2i 16 (n+1) 0 [y.cond]:=⟨_,rfl⟩;rw [←hs] at Ta;have HS:=hU hs;have HCS:=hU Ta;clear hs Ta Ct
              cases d5:decide ((16:Int)<(s:Int)) with
              | true=>
                go_wp2_with fail;refine HCS.o.mono ?_;rintro e fo ⟨rfl,rfl⟩;exact Y7b
              | false=>
                go_wp2_with fail;refine HCS.o.mono ?_;rintro e fo ⟨rfl,rfl⟩;go_wp2_with fail;refine (Zbx (n+1) _ _ _ [y.cond] W9 Kc.o).mono ?_;rintro e w11 ⟨rfl,J2⟩;obtain ⟨hc,hhc⟩:∃hc,hc=Z5b (n+1) [y.cond]:=⟨_,rfl⟩;rw [←hhc];have HHC:=hU hhc;have x3'':=(J2.cell (p:=⟨wf6,3,none⟩) Vd).trans x3';have q7'':=(J2.cell (p:=⟨ge,oe+k*8+7,none⟩) hge9).trans q7';have Sj:=yq.o.size;(have hxl11:wf6<w11.heap.size:=by have:=J2.size;omega);(have hge11:ge<w11.heap.size:=by have:=J2.size;omega);have qu:=hU (yq.o.trans (J2.mono Sj));clear hhc J2 x3' q7'
                cases hc with
                | true=>
                  exact Ywe
                | false=>
                  cases d6:decide ((20:Int)<(y.binds.length:Int)) with
                  | true=>
                    exact Ywe
                  | false=>
                    have Lx:=hU (show SmH2 n y from by have hz:Z2i 16 (n+1) 0 [y.cond]≤16:=(by rw [←HS.o];simp at d5;omega);exact ⟨⟨Zn2 (n+1) 0 20 [y.cond] hz HHC.o.symm y.cond Ye,by simp at d6;omega⟩,by have h1:=Zq6 (n+1) 0 19 [y.cond] hz HHC.o.symm;simp at h1;omega,hz⟩);go_wp2_with fail;go_roundw
                    case rel=>
                     refine ⟨k+1,Yn,Ya,fun j h hj=>?_,qu.o⟩;rcases Nat.lt_or_ge j k with h2|h2
                     · exact Ul.o j h h2
                     · obtain rfl:j=k:=by omega
                       rw [←HY.o];exact Lx.o
                    case measure=>simp [intOf]<;>omega
            · obtain rfl:k=r.holes.length:=by omega
              go_wp2_with fail;go_roundw
              case rel=>
               refine ⟨i+1,Yn,Ya,fun j h hj=>?_,gi.o.trans (ld.o.mono gi.o.size)⟩;rcases Nat.lt_or_ge j i with h2|h2
               · exact ax.o j h h2
               · obtain rfl:j=i:=by omega
                 rw [←HR.o];have hd:=HD.o
                 have ha :∀x∈r.holes,SmH2 n x:=fun x hx=>by
                  obtain ⟨m,hm,rfl⟩:=List.getElem_of_mem hx;exact Ul.o m hm hm
                 exact ⟨⟨⟨Ya,Ya,Ya,Ya,fun x hx=>(ha x hx).1⟩,hd.2.1,hd.2.2.1,hd.2.2.2,fun x hx=>(ha x hx).2⟩,hd.1⟩
              case measure=>simp [intOf]<;>omega
    · obtain rfl:i=l.length:=by omega
      go_wp2_with fail;go_ret;refine ⟨false,rfl,HB.o,fun _=>⟨HM.o,fun x hx=>?_⟩⟩;obtain ⟨m,hm,rfl⟩:=List.getElem_of_mem hx;exact ax.o m hm hm
end
section
open Go.RowKit
structure PgS where
 kk:Sym
 v:Int
 deriving DecidableEq
def PgS.cells (x:PgS):List Value:=[.int .i64 x.kk.kind,.string x.kk.text,.int .i64 x.kk.n,.int .i64 x.v]
theorem PgS.cells_length (x:PgS):x.cells.length=4:=rfl
def Z16 (a b:PgS):Int:=Z0o a.kk b.kk
theorem Z5e:TC Z16:=⟨fun _=>Z40.refl _,fun _ _=>Z40.symm _ _,fun _ _ _=>Z40.trans _ _ _⟩
theorem Z9q {a b:PgS}:Z16 a b=0↔a.kk=b.kk:=Z7t
theorem Zc8 (a : Int) (b : ByteArray) (c : Int) (w : World) : (nilAhead 504 41 (.agg #[.int .i64 a, .string b, .int .i64 c]) "Compare").run Tryz.prog w = .ok (some false) w := Yb
theorem Zfs (a : Int) (b : ByteArray) (c : Int) (w : World) : (method 504 41 (.agg #[.int .i64 a, .string b, .int .i64 c]) "Compare").run Tryz.prog w = .ok (126, .agg #[.int .i64 a, .string b, .int .i64 c]) w := Yb
theorem Zqr (a b:PgS) (w:World):Calls Tryz.prog 282 #[.agg #[.int .i64 a.kk.kind,.string a.kk.text,.int .i64 a.kk.n,.int .i64 a.v],.agg #[.int .i64 b.kk.kind,.string b.kk.text,.int .i64 b.kk.n,.int .i64 b.v]] w fun e w'=>e = .returned (.int .i64 (Z16 a b))∧Below w.heap.size w w':=by
 have N:=Zc8;have M:=Zfs;go_enter Tryz.func282,Tryz.ntmps282;go_wp2_with fail;refine (Zbr a.kk b.kk _).mono ?_;exact Yo9
abbrev Q1a (x:PgS)  : List Value:=[.int .i64 x.kk.kind,.string x.kk.text,.int .i64 x.kk.n,.int .i64 x.v]
abbrev Q1b (x:PgS)  : Array Value:=#[.int .i64 x.kk.kind,.string x.kk.text,.int .i64 x.kk.n,.int .i64 x.v]
abbrev Z35:=Z29 (α:=PgS) 284 243 4 PgS.cells
theorem Ze4 (k0 : Int) (k1 : ByteArray) (k2 : Int) (k3 : Int) (w : World) : (nilAhead 504 243 (.agg #[.int .i64 k0, .string k1, .int .i64 k2, .int .i64 k3]) "Compare").run Tryz.prog w = .ok (some false) w := Yb
theorem Zj7 (k0 : Int) (k1 : ByteArray) (k2 : Int) (k3 : Int) (w : World) : (method 504 243 (.agg #[.int .i64 k0, .string k1, .int .i64 k2, .int .i64 k3]) "Compare").run Tryz.prog w = .ok (282, .agg #[.int .i64 k0, .string k1, .int .i64 k2, .int .i64 k3]) w := Yb
def Znj (l:List PgS) (x:PgS) (w:World) (e:Ending) (w':World):Prop:=
 e = .returned (.tuple #[.int .i64 (rank Z16 l x),.bool (has Z16 l x)])∧Below w.heap.size w w'
theorem Z9d (b c:Nat) (sn:Bool) (A:Option Addr) (l:List PgS) (x:PgS) (w:World) (hS:Z35 w b sn A c l) (hs:Srt Z16 l) (hl:(l.length:Int)≤4611686018427387904) :
 Calls Tryz.prog 156 #[.pointer (some ⟨b,0,none⟩),.agg (Q1b x)] w (Znj l x w):=by
 have Xm:=hS.rd PgS.cells_length;have h0:=hS.cell0;have hb:=hS.lt;clear hS;have HS:=hU hs;have Ww:=hU Xm;clear hs Xm;go_enter Tryz.func156,Tryz.ntmps156;go_wp2_with fail;go_quiet (fail);go_wp2_with fail;obtain ⟨W0,rp⟩:∃W0,W0=((w.alloc (Obj.cells (Q1b x) 243)).drewN nq):=⟨_,rfl⟩;have Lg:Below w.heap.size w W0:=YQx;have mj:W0.cell? ⟨w.heap.size,0,none⟩=some (.int .i64 x.kk.kind):=Yv;have Sg:W0.cell? ⟨w.heap.size,1,none⟩=some (.string x.kk.text):=Yv;have pi:W0.cell? ⟨w.heap.size,2,none⟩=some (.int .i64 x.kk.n):=Yv;have Iv:W0.cell? ⟨w.heap.size,3,none⟩=some (.int .i64 x.v):=Yv;rw [←rp];clear rp;have jv:=hU Lg;clear Lg
 go_loopw [6,7] (fun lo hi wr=>∃i j:Nat,lo = .int .i64 i∧hi = .int .i64 j∧i≤j∧j≤l.length∧(∀k,(h:k<l.length)→k<i→Z16 l[k] x<0)∧(∀k,(h:k<l.length)→j≤k→0<Z16 l[k] x)∧Below W0.heap.size W0 wr) (fun lo hi wr=>(intOf hi).toNat - (intOf lo).toNat)
 case atStart=>exact ⟨0,l.length,rfl,rfl,Nat.zero_le _,Zsu _,fun k _ h=>absurd h Ya,fun k h h'=>absurd h Ya,Zst _ _⟩
 case round=>
  obtain ⟨i,j,rfl,rfl,hij,hj,qv,qm,hB⟩:=hrel;have sy:=hU qv;have xq:=hU qm;clear qv qm;have Sd:w.heap.size<W0.heap.size:=Zt5 W0 _ mj;by_cases hlt:i<j
  · refine Ygb ?_;intro m Le hmj hmi E1;obtain ⟨g,off,rfl,Fu,R9⟩:=Ww.o.at_ Le;refine Yu7 ?_;intro low r0;have q0:=(low ⟨g,off+m*4,none⟩ Fu).trans (R9 0 _ rfl);have q1:=(low ⟨g,off+m*4+1,none⟩ Fu).trans (R9 1 _ rfl);have q2:=(low ⟨g,off+m*4+2,none⟩ Fu).trans (R9 2 _ rfl);have q3:=(low ⟨g,off+m*4+3,none⟩ Fu).trans (R9 3 _ rfl);refine Yia ?_;intro y0 y1 y2;have y3:=(hB.cell (p:=⟨w.heap.size,3,none⟩) Sd).trans Iv;refine Yy3 ?_;intro b1 b2 Sq;have N:=Ze4;have M:=Zj7;clear low R9 mj Sg pi Iv h0;have HB:=hU hB;clear hB;refine Y9x ?_;intro y hy;rw [←hy] at q0 q1 q2 q3;have HY:=hU hy;clear hy;refine Y5p ?_;intro hbw hgw hww;go_wp2_with fail;rw [E1.o]
    go_region_held3 (fun w'=>w'.cell? ⟨b,0,none⟩=some (.slice (some ⟨g,off,none⟩) l.length c)∧w'.cell? ⟨g,off+m*4,none⟩=some (.int .i64 y.kk.kind)∧w'.cell? ⟨g,off+m*4+1,none⟩=some (.string y.kk.text)∧w'.cell? ⟨g,off+m*4+2,none⟩=some (.int .i64 y.kk.n)∧w'.cell? ⟨g,off+m*4+3,none⟩=some (.int .i64 y.v)∧w'.cell? ⟨w.heap.size,0,none⟩=some (.int .i64 x.kk.kind)∧w'.cell? ⟨w.heap.size,1,none⟩=some (.string x.kk.text)∧w'.cell? ⟨w.heap.size,2,none⟩=some (.int .i64 x.kk.n)∧w'.cell? ⟨w.heap.size,3,none⟩=some (.int .i64 x.v))
     (first|go_keep|(refine ⟨?_,?_,?_,?_,?_,?_,?_,?_,?_⟩<;>exact (Pk.cell YCg).trans Yl))
     ((go_at_call 282;refine (Zqr y x _).mono ?_;rintro e w1 ⟨rfl,Pk⟩))
    refine Ym2 ?_;intro Nk;clear r0 q0 q1 q2 q3 y0 y1 y2 y3 N M;by_cases hc:Z16 y x=0
    · have HC:=hU hc
      have t1:(Z16 y x == 0)=true:=YMk;clear hc;go_wp2_with fail;go_ret2;have e:=HC.o;rw [HY.o] at e;refine Y45 ?_;rw [Z4i Z5e HS.o Le e,(Z5j Z5e HS.o Le e).2.2.1];rfl
    · have t1:(Z16 y x == 0)=false:=by simp [hc]
      by_cases hc2:Z16 y x<0
      · have HC:=hU hc2
        have t2:decide (Z16 y x<0)=true:=YQw;clear hc hc2;go_wp2_with fail;go_roundw
        case rel=>
         refine Yzl ?_;intro k h1 h2 e;rw [HY.o] at e;rcases Nat.lt_or_ge k m with h3|h3
         · exact Z5e.lt_of_lt_of_le (HS.o.lt h3 Le) Ya
         · exact Yzs
        case measure=>simp [intOf];omega
      · have t2:decide (Z16 y x<0)=false:=by simpa using hc2
        have Nn:0<Z16 y x:=Ya;have HC:=hU Nn;clear hc hc2 Nn;go_wp2_with fail;go_roundw
        case rel=>
         refine Yl0 ?_;intro k h1 h2 e;rw [HY.o] at e;rcases Nat.lt_or_ge m k with h3|h3
         · exact (Z5e.symm _ _).1 (Z5e.lt_trans ((Z5e.symm _ _).2 e) (HS.o.lt h3 h1))
         · exact Yzs
        case measure=>simp [intOf];omega
  · exact Y53
theorem Zhg:(Tryz.prog.info? 243).map (fun i=>(i.zero,i.size,i.bytes))=some (some (.agg Q2k),4,40):=Yb
theorem PgS.one (x:PgS):∀u∈PgS.cells x,u.oneCell'=true:=by intro u hu;simp [PgS.cells] at hu;rcases hu with rfl|rfl|rfl|rfl<;>rfl
theorem PgS.oneAll (l:List PgS):∀u∈l.flatMap PgS.cells,u.oneCell'=true:=by intro u hu;obtain ⟨x,_,hx⟩:=List.mem_flatMap.1 hu;exact PgS.one x u hx
def Z8f (w:World) (b:Nat) (sn:Bool) (A:Option Addr) (l:List PgS) (e:Ending) (w':World):Prop:=
 e = .returned (.tuple #[])∧∃A' c',Z35 w' b false A' c' l∧Fr (· = b) w w'∧Z1w w sn A false A'
theorem Zje (b c:Nat) (A:Option Addr) (l:List PgS) (w:World) (hS:Z35 w b false A c l) :
 Calls Tryz.prog 186 #[.pointer (some ⟨b,0,none⟩)] w (Z8f w b false A l):=by
 have h1:=hS.cell1;have HS:=hU hS;clear hS;go_enter Tryz.func186,Tryz.ntmps186;exact Y3p
theorem Zg6 (b c:Nat) (A:Option Addr) (l:List PgS) (w:World) (hS:Z35 w b true A c l) (hl:(l.length:Int)≤1000000000) :
 Calls Tryz.prog 186 #[.pointer (some ⟨b,0,none⟩)] w (Z8f w b true A l):=by
 obtain ⟨i0,hi,Nc,rm,Aj⟩:=info_parts Zhg;refine Y8h ?_;intro h0 h1 hb f0 f1;have Xm:=hS.rd PgS.cells_length;have HB:=hU hS.blk;have Ww:=hU Xm;clear hS Xm;refine Yn9 ?_;intro e1
 have hmk :∀W:World,(Instr.makeSlice 282 (.int .i64 0) (.int .i64 ((l.length:Int)+1))).run Tryz.prog W = .ok (.slice (some ⟨W.heap.size,0,none⟩) 0 (l.length+1)) (W.alloc (.cells (madeCells (Value.cells (.agg Q2k)) ((l.length+1)*4)) 243)):=fun W=>by
  have h:=run_make (P:=Tryz.prog) W 282 243 i0 _ Tryz.underlying282 hi Nc .i64 .i64 0 ((l.length:Int)+1) Ya Ya YV8 Ya;exact Y2k
 go_enter Tryz.func186,Tryz.ntmps186;go_wp2_with fail;refine Z03 (fun w9=>Below w.heap.size w w9) [(0,0),(1,0),(2,0),(3,0),(4,1),(5,0),(6,0),(8,0),(9,0),(10,0),(11,1),(7,2),(12,2),(13,0),(14,0),(15,2)] Yb Yb (fun KK hKK=>?_);refine Yg8 ?_;intro K9 hK9
 refine Z0l _ Yd _ _ _ Yd 243 i0 _ 4 40 Tryz.underlying282 hi Nc rm Aj rfl Ya _ 0 [] Yd (World.ownsRow_made _ _ _ (Nat.zero_le _) Yj YFi) A l.length c (l.flatMap PgS.cells) Yd (Z0u PgS.cells_length l)
  ((Ww.o.drew.alloc _).news PgS.cells_length Ya) (PgS.oneAll l) Yj Ya ?_
 intro v2 w2 Od Cf hnil Xd;refine Y8n ?_;clear hK9 K9;rw [Zts,Ztk] at Od;obtain ⟨A',c',rfl,_,_,hz⟩:=Z14 Od;have Nk:=(HB.o.drew.alloc (.cells (madeCells (Value.cells (.agg Q2k)) ((l.length+1)*4)) 243)).grown Cf Yy;exact Yzw
theorem Zrd (b c:Nat) (sn:Bool) (A:Option Addr) (l:List PgS) (w:World) (hS:Z35 w b sn A c l) (hl:(l.length:Int)≤1000000000) :
 Calls Tryz.prog 186 #[.pointer (some ⟨b,0,none⟩)] w (Z8f w b sn A l):=by
 cases sn
 · exact Zje b c A l w hS
 · exact Zg6 b c A l w hS hl
def Z8k (w:World) (b:Nat) (sn:Bool) (A:Option Addr) (l:List PgS) (x:PgS) (e:Ending) (w':World):Prop:=
 e = .returned (.bool (!has Z16 l x))∧∃sn' A' c',Z35 w' b sn' A' c' (put Z16 l x)∧Fr (Z0w b sn A) w w'∧Z1w w sn A sn' A'
theorem Zcj (b c:Nat) (sn:Bool) (A:Option Addr) (l:List PgS) (x:PgS) (w:World) (hS:Z35 w b sn A c l) (hs:Srt Z16 l) (hl:(l.length:Int)≤100000000) (hh:has Z16 l x=true) :
 Calls Tryz.prog 152 #[.pointer (some ⟨b,0,none⟩),.agg (Q1b x)] w (Z8k w b sn A l x):=by
 have HS:=hU hS;have HO:=hU hs;clear hS hs;go_enter Tryz.func152,Tryz.ntmps152;go_wp2_with fail;refine (Z9d b c sn A l x _ (HS.o.new_ ((Zst _ _).alloc (Zsu _) _)) HO.o Ya).mono ?_;exact Yhn
theorem Zge (b c:Nat) (sn:Bool) (A:Option Addr) (l:List PgS) (x:PgS) (w:World) (hS:Z35 w b sn A c l) (hs:Srt Z16 l) (hl:(l.length:Int)≤100000000) (hh:has Z16 l x=false) :
 Calls Tryz.prog 152 #[.pointer (some ⟨b,0,none⟩),.agg (Q1b x)] w (Z8k w b sn A l x):=by
 obtain ⟨i0,hi,Nc,rm,Aj⟩:=info_parts Zhg;refine Yc5 ?_;intro HS HO hb;clear hS hs;have iu:=Z62 (cmp:=Z16) l x;go_enter Tryz.func152,Tryz.ntmps152;go_wp2_with fail;have Gd:=HS.o.new_ ((Zst w.heap.size w).alloc (Zsu _) (.cells (Q1b x) 243));have fm:=hU Gd;clear Gd;refine (Z9d b c sn A l x _ fm.o HO.o Ya).mono ?_;refine Ytf ?_;intro w1 Pk M2 hsz1;have y0:=(Pk.cell (p:=⟨w.heap.size,0,none⟩) Ye).trans ((Blk.new w 243 (Q1b x)).cell 0);have y1:=(Pk.cell (p:=⟨w.heap.size,1,none⟩) Ye).trans ((Blk.new w 243 (Q1b x)).cell 1);have y2:=(Pk.cell (p:=⟨w.heap.size,2,none⟩) Ye).trans ((Blk.new w 243 (Q1b x)).cell 2);have y3:=(Pk.cell (p:=⟨w.heap.size,3,none⟩) Ye).trans ((Blk.new w 243 (Q1b x)).cell 3);have Nk:=hU Pk;clear Pk;go_wp2_with fail;refine (Zrd b c sn A l _ M2.o Ya).mono ?_;refine Yet ?_;intro w2 A1 c1 F7 Td Uz hsz2;have x0:w2.cell? ⟨w.heap.size,0,none⟩=some (.int .i64 x.kk.kind):=(Td.cell (p:=⟨w.heap.size,0,none⟩) Yg Yg).trans y0;have x1:w2.cell? ⟨w.heap.size,1,none⟩=some (.string x.kk.text):=(Td.cell (p:=⟨w.heap.size,1,none⟩) Yg Yg).trans y1;have x2:w2.cell? ⟨w.heap.size,2,none⟩=some (.int .i64 x.kk.n):=(Td.cell (p:=⟨w.heap.size,2,none⟩) Yg Yg).trans y2;have x3:w2.cell? ⟨w.heap.size,3,none⟩=some (.int .i64 x.v):=(Td.cell (p:=⟨w.heap.size,3,none⟩) Yg Yg).trans y3;refine Y11 ?_;intro s0 f0 hb2 L5 fk qq Vy;clear F7 Td Uz y0 y1 y2 y3;go_wp2_with fail;refine Z03 (fun w9=>Below w2.heap.size w2 w9) [(0,0),(1,0),(2,0),(3,0),(4,1),(5,1),(6,2),(7,2),(8,0),(9,0),(10,2)] Yb Yb (fun KK hKK=>?_);refine Y9j ?_;refine Ylj ?_
 refine Y0l ?_;intro K9 hK9
 refine Z0l _ Yd _ _ _ Yd 243 i0 _ 4 40 Tryz.underlying282 hi Nc rm Aj rfl Ya _ l.length (l.flatMap PgS.cells) Yd (Z02 fk.o.row (((Zst _ _).drew).alloc (Zsu _) _)) (some ⟨w2.heap.size,0,none⟩) 1 1 (PgS.cells x) Yd Yd
  (fun _=>⟨_,rfl,Zte (heap_alloc_new _ _)⟩) (PgS.one x) Yj Ya ?_
 intro v2 w3 Od Cf Si Xd;refine Y8n ?_;clear hK9 K9
 obtain ⟨g,c2,rfl⟩:∃g c2,v2 = .slice (some ⟨g,0,none⟩) (l.length+1) c2:=by
  exact Yrs
 have uw:(Value.slice A1 l.length c1).ownBlock≠some w.heap.size:=by
  exact Y9b
 have pm:=(fk.o.blk.drew.alloc (.cells (Q1b x) 243)).grown Cf (Z01 fk.o.row fk.o.blk Yc);refine Yq7 ?_;intro c0 z0 Ue ss yr;clear pm Od Cf;refine Ybt ?_;refine Y1l ?_;clear hKK KK;refine Y4c ?_;intro hlg
 have hG:(Z0w b sn A g∨w.heap.size≤g)∧Z1w w sn A false (some ⟨g,0,none⟩)∧g≠w.heap.size∧g≠b:=by
  exact Y1k
 obtain ⟨Cr,C5,Lu,Dg⟩:=hG;refine Yp0 ?_;intro w4 N8;have Ll:Blk w4 b 284 #[.slice (some ⟨g,0,none⟩) (l.length+1) c2,.bool false]:=YDu
 have jy:w4.ownsRow 0 243 4 (.slice (some ⟨g,0,none⟩) (l.length+1) c2) (l.length+1) ((Z0k l x l.length).flatMap PgS.cells):=by
  exact Yei
 have uc:Fr (Z0w b sn A) w w4:=by
  exact Yh8
 have z0:w4.cell? ⟨w.heap.size,0,none⟩=some (.int .i64 x.kk.kind):=by
  exact Y07
 have z1:w4.cell? ⟨w.heap.size,1,none⟩=some (.string x.kk.text):=by
  exact Ysn
 have z2:w4.cell? ⟨w.heap.size,2,none⟩=some (.int .i64 x.kk.n):=by
  exact Yoh
 have z3:w4.cell? ⟨w.heap.size,3,none⟩=some (.int .i64 x.v):=by
  exact Yx0
 refine Yn7 ?_;intro Ku;intro sk Kw Ni pq ae s4 E7;clear s4 N8 Ll jy uc Xd Cr C5 Si x0 x1 x2 x3 s0 f0;go_wp2_with fail
 go_loopw [7] (fun s wr=>∃i:Nat,s = .int .i64 i∧rank Z16 l x≤i∧i≤l.length∧wr.ownsRow 0 243 4 (.slice (some ⟨g,0,none⟩) (l.length+1) c2) (l.length+1) ((Z0k l x i).flatMap PgS.cells)∧Fr (· = g) w4 wr) (fun s wr=>(intOf s).toNat)
 case atStart=>exact ⟨l.length,Yn,iu,Zsu _,pq.o,Fr.refl _ _⟩
 case round=>
  obtain ⟨i,rfl,hi1,ul,Od,zp⟩:=hrel;refine Yul ?_;intro hgw r0 fz Cj Is;clear Od zp;by_cases hlt:rank Z16 l x<i
  · obtain ⟨j,rfl⟩:∃j,i=j+1:=⟨i - 1,Ya⟩
    have hj:j<l.length:=Ya;have Xm:=Z0e (A:=some ⟨g,0,none⟩) (c:=c2) (l:=Z0k l x (j+1)) PgS.cells_length YCh;obtain ⟨g',o',Pm,_,R9⟩:=Xm.at_ (k:=j) Yu;injection Pm with Pm;injection Pm with hg1 hg2;subst hg1;subst hg2;rw [Z2n l x hj] at R9;have q0:wr.cell? ⟨g,j*4,none⟩=some (.int .i64 l[j].kk.kind):=Yq;have q1:wr.cell? ⟨g,j*4+1,none⟩=some (.string l[j].kk.text):=YO5;have q2:wr.cell? ⟨g,j*4+2,none⟩=some (.int .i64 l[j].kk.n):=YFu;have q3:wr.cell? ⟨g,j*4+3,none⟩=some (.int .i64 l[j].v):=YKg
    have rmj:Room wr g 243 (c2*4)∧l.length+1≤c2:=by
     exact Yty
    obtain ⟨zm,re⟩:=rmj;obtain ⟨u0,t0⟩:=zm.cell (i:=(j+1)*4) Ya;obtain ⟨u1,t1⟩:=zm.cell (i:=(j+1)*4+1) Ya;obtain ⟨u2,t2⟩:=zm.cell (i:=(j+1)*4+2) Ya;obtain ⟨u3,t3⟩:=zm.cell (i:=(j+1)*4+3) Ya;refine Yqp ?_;intro b0 b1 b4 b2 b3 w1 w2;clear R9 Xm zm;refine Yay ?_;intro y hy;rw [←hy] at q0 q1 q2 q3;refine Ybq ?_;intro HY U9;clear hy;go_wp2_with fail;refine Z03 (fun w9=>Below wr.heap.size wr w9) [(0,0),(1,0),(2,0),(3,1),(4,0),(5,0),(6,0),(7,0),(8,1),(9,0),(10,0),(11,0),(12,1),(13,0),(14,2)] Yb Yb (fun KK hKK=>?_);refine Yzy ?_;clear hKK KK;go_wp2_with fail;go_roundw
    case rel=>
     refine ⟨j,Yn,Ya,Ya,?_,Fr.drew (((((Is.o).setCell (p:=⟨g,(j+1)*4,none⟩) (.inl rfl) (_)).setCell (p:=⟨g,(j+1)*4+1,none⟩) (.inl rfl) (_)).setCell (p:=⟨g,(j+1)*4+2,none⟩) (.inl rfl) (_)).setCell (p:=⟨g,(j+1)*4+3,none⟩) (.inl rfl) (_))⟩;have Ss:=((((((((Cj.o).stored ((j+1)*4) (.int .i64 y.kk.kind)).1).stored ((j+1)*4+1) (.string y.kk.text)).1).stored ((j+1)*4+2) (.int .i64 y.kk.n)).1).stored ((j+1)*4+3) (.int .i64 y.v)).1
     have he:setAll ((Z0k l x (j+1)).flatMap PgS.cells) ((j+1)*4) (PgS.cells y)=(Z0k l x j).flatMap PgS.cells:=by
      rw [Z4r PgS.cells_length Ya _ (j+1) Yu,HY.o,Z2o l x hj]
     rw [←he];exact Ss
    case measure=>simp [intOf]<;>omega
  · obtain rfl:i=rank Z16 l x:=by omega
    have rmj:Room wr g 243 (c2*4)∧l.length+1≤c2:=by
     exact Yty
    obtain ⟨zm,re⟩:=rmj;obtain ⟨k,hk⟩:∃k,k=rank Z16 l x:=⟨_,rfl⟩;rw [←hk] at ul hlt ⊢;obtain ⟨u0,t0⟩:=zm.cell (i:=k*4) Ya;obtain ⟨u1,t1⟩:=zm.cell (i:=k*4+1) Ya;obtain ⟨u2,t2⟩:=zm.cell (i:=k*4+2) Ya;obtain ⟨u3,t3⟩:=zm.cell (i:=k*4+3) Ya;refine Yr2 ?_;intro x0 x1 x2;have x3:=(Is.o.cell (p:=⟨w.heap.size,3,none⟩) Ku (fun h=>Lu h.symm)).trans z3;refine Ya8 ?_;intro b1 b2 HK hkw U9;clear zm hk z0 z1 z2 z3;go_wp2_with fail;refine Z03 (fun w9=>Below wr.heap.size wr w9) [(0,0),(1,0),(2,0),(3,1),(4,0),(5,1),(6,0),(7,2)] Yb Yb (fun KK hKK=>?_);refine Yzy ?_;clear hKK KK;go_wp2_with fail;go_ret;have uy:=Cj.o;rw [←HK.o] at uy;have Ss:=((((((((uy).stored (k*4) (.int .i64 x.kk.kind)).1).stored (k*4+1) (.string x.kk.text)).1).stored (k*4+2) (.int .i64 x.kk.n)).1).stored (k*4+3) (.int .i64 x.v)).1
    have he:setAll ((Z0k l x k).flatMap PgS.cells) (k*4) (PgS.cells x)=(put Z16 l x).flatMap PgS.cells:=by
     rw [Z4r PgS.cells_length Ya _ k Yu,Z3b l x ul,Z6b Z5e HO.o hh,HK.o]
    have ju:=Z2y Z5e HO.o hh;refine ⟨YUb,false,some ⟨g,0,none⟩,c2,⟨?_,?_⟩,?_,?_⟩
    · rw [ju]
      exact ((((Ni.o.fr Is.o (fun h=>Dg h.symm)).far (p:=⟨g,k*4,none⟩) (fun h=>Dg h.symm) _).far (p:=⟨g,k*4+1,none⟩) (fun h=>Dg h.symm) _).far (p:=⟨g,k*4+2,none⟩) (fun h=>Dg h.symm) _).far (p:=⟨g,k*4+3,none⟩) (fun h=>Dg h.symm) _
    · rw [ju,←he]
      exact Ss
    · exact ae.o.into (Fr.drew (((((Is.o).setCell (p:=⟨g,k*4,none⟩) (.inl rfl) (_)).setCell (p:=⟨g,k*4+1,none⟩) (.inl rfl) (_)).setCell (p:=⟨g,k*4+2,none⟩) (.inl rfl) (_)).setCell (p:=⟨g,k*4+3,none⟩) (.inl rfl) (_))) (fun k hk=>YWh)
    · exact Kw.o
theorem Zmk (b c:Nat) (sn:Bool) (A:Option Addr) (l:List PgS) (x:PgS) (w:World) (hS:Z35 w b sn A c l) (hs:Srt Z16 l) (hl:(l.length:Int)≤100000000) :
 Calls Tryz.prog 152 #[.pointer (some ⟨b,0,none⟩),.agg (Q1b x)] w (Z8k w b sn A l x):=by
 cases hh:has Z16 l x
 · exact Zge b c sn A l x w hS hs hl hh
 · exact Zcj b c sn A l x w hS hs hl hh
theorem Zb1 (b c:Nat) (sn:Bool) (A:Option Addr) (l:List PgS) (x:PgS) (w:World) (hS:Z35 w b sn A c l) (hs:Srt Z16 l) (hl:(l.length:Int)≤1000000000) (hh:has Z16 l x=false) :
 Calls Tryz.prog 129 #[.pointer (some ⟨b,0,none⟩),.agg (Q1b x)] w fun e w'=>e = .returned (.tuple #[.agg Q2k,.bool false])∧Below w.heap.size w w':=by
 have HS:=hU hS;have HO:=hU hs;clear hS hs;go_enter Tryz.func129,Tryz.ntmps129;go_wp2_with fail;refine (Z9d b c sn A l x _ (HS.o.new_ ((((Zst _ _).alloc (Zsu _) _).alloc Ye _).alloc Yk _)) HO.o Ya).mono ?_;rintro e w1 ⟨rfl,Pk⟩;refine Y0d ?_;intro Al hf1 hz1 HB;clear Pk;go_wp2_with fail;exact bodyPost_ret (v:=.tuple #[.agg Q2k,.bool false]) (by simp [results,Tryz.results129,go_sem,Al]) rfl ⟨rfl,Yt⟩
theorem Zil (b c:Nat) (sn:Bool) (A:Option Addr) (l:List PgS) (x y:PgS) (w:World) (hS:Z35 w b sn A c l) (hs:Srt Z16 l) (hl:(l.length:Int)≤1000000000) (hh:has Z16 l x=true) (hy:l[rank Z16 l x]? = some y) :
 Calls Tryz.prog 129 #[.pointer (some ⟨b,0,none⟩),.agg (Q1b x)] w fun e w'=>e = .returned (.tuple #[.agg (Q1b y),.bool true])∧Below w.heap.size w w':=by
 have HS:=hU hS;have HO:=hU hs;obtain ⟨iu,xf⟩:=Ztp.1 hy;have Xm:=hS.rd PgS.cells_length;have s0:=hS.cell0;have hb:=hS.lt;clear hS hs hy;obtain ⟨g,off,rfl,Fu,R9⟩:=Xm.at_ iu;rw [xf] at R9;obtain ⟨k,hk⟩:∃k,k=rank Z16 l x:=⟨_,rfl⟩;rw [←hk] at R9 iu;have q0:w.cell? ⟨g,off+k*4,none⟩=some (.int .i64 y.kk.kind):=Yq;have q1:w.cell? ⟨g,off+k*4+1,none⟩=some (.string y.kk.text):=YO5;have q2:w.cell? ⟨g,off+k*4+2,none⟩=some (.int .i64 y.kk.n):=YFu;have q3:w.cell? ⟨g,off+k*4+3,none⟩=some (.int .i64 y.v):=YKg;refine Ysh ?_;intro b1 b2;have HK:=hU hk;clear R9 Xm xf hk;go_enter Tryz.func129,Tryz.ntmps129;go_wp2_with fail;refine (Z9d b c sn _ l x _ (HS.o.new_ ((((Zst _ _).alloc (Zsu _) _).alloc Ye _).alloc Yk _)) HO.o Ya).mono ?_;rintro e w1 ⟨rfl,Pk⟩;rw [←HK.o];refine Y0d ?_;intro Al hf1 hz1 HB;clear Pk;have r0:=(HB.o.cell (p:=⟨b,0,none⟩) hb).trans s0;have r1:=(HB.o.cell (p:=⟨g,off+k*4,none⟩) Fu).trans q0;have r2:=(HB.o.cell (p:=⟨g,off+k*4+1,none⟩) Fu).trans q1;have r3:=(HB.o.cell (p:=⟨g,off+k*4+2,none⟩) Fu).trans q2;have r4:=(HB.o.cell (p:=⟨g,off+k*4+3,none⟩) Fu).trans q3;clear s0 q0 q1 q2 q3;go_wp2_with fail;exact bodyPost_ret (v:=.tuple #[.agg (Q1b y),.bool true]) (by simp [results,Tryz.results129,go_sem,Al]) rfl ⟨rfl,Yt⟩
def Zi2 (w:World) (xs:List PgS) (e:Ending) (w':World):Prop:=
 ∃k,e = .returned (.pointer (some ⟨k,0,none⟩))∧w.heap.size≤k∧∃sn A c,Z35 w' k sn A c (puts Z16 [] xs)∧AIn A (w.heap.size≤·)∧Below w.heap.size w w'
theorem Zr7 (A:Option Addr) (c:Nat) (xs:List PgS) (w:World) (hrd:Z0y w 4 PgS.cells A c xs) (hl:(xs.length:Int)≤10000000) :
 Calls Tryz.prog 123 #[.slice A xs.length c] w (Zi2 w xs):=by
 have Ww:=hU hrd;clear hrd;go_enter Tryz.func123,Tryz.ntmps123;go_wp2_with fail;obtain ⟨W0,rp⟩:∃W0,W0=w.alloc (.cells #[.slice none 0 0,.bool false] 284):=⟨_,rfl⟩;have yj:Below w.heap.size w W0:=Yp;have Ud:Z35 W0 w.heap.size false none 0 []:=⟨Yw,⟨Ye,.inl ⟨rfl,rfl⟩⟩⟩;rw [←rp];clear rp;have jv:=hU yj;have Vf:=hU Ud;clear yj Ud
 go_loopw [10] (fun s wr=>∃i:Nat,s = .int .i64 i∧i≤xs.length∧∃sn A' c',Z35 wr w.heap.size sn A' c' (puts Z16 [] (xs.take i))∧AIn A' (w.heap.size≤·)∧Below w.heap.size w wr) (fun s wr=>xs.length - (intOf s).toNat)
 case atStart=>exact ⟨0,rfl,Nat.zero_le _,false,none,0,Vf.o,AIn.none_ _,jv.o⟩
 case round=>
  obtain ⟨i,rfl,hi,sn,A',c',hS,Ml,hB⟩:=hrel;have HS:=hU hS;have HA:=hU Ml;have HB:=hU hB;clear hS Ml hB;by_cases hlt:i<xs.length
  · refine Ycc ?_;intro x hx
    obtain ⟨g,off,rfl,hgs,R9⟩:=(Ww.o.fr (Fr.of_new (M:=fun _=>False) HB.o) (fun _ _ h=>h)).at_ hlt;rw [←hx] at R9;have q0:wr.cell? ⟨g,off+i*4,none⟩=some (.int .i64 x.kk.kind):=Yq;have q1:wr.cell? ⟨g,off+i*4+1,none⟩=some (.string x.kk.text):=YO5;have q2:wr.cell? ⟨g,off+i*4+2,none⟩=some (.int .i64 x.kk.n):=YFu;have q3:wr.cell? ⟨g,off+i*4+3,none⟩=some (.int .i64 x.v):=YKg;refine Yhh ?_;intro b1 b2 HX;clear R9 hx;go_wp2_with fail;have Nl:=Srt.puts Z5e (xs.take i) (Srt.nil (cmp:=Z16))
    have Vx:(((puts Z16 [] (xs.take i)).length:Nat):Int)≤100000000:=by
     have:=Z1e Z5e (xs.take i) (Srt.nil (cmp:=Z16));exact Yt5
    refine (Zmk w.heap.size c' sn A' _ x _ (HS.o.new_ ((Zst _ _).alloc (Zsu _) _)) Nl Vx).mono ?_;rintro e w1 ⟨rfl,Nf,A2,c2,F7,Td,Uz⟩
    have Ky:Below w.heap.size w w1:=(HB.o.alloc HB.o.size _).trans (Td.below YI3 (fun k hk hm=>by
     rcases hm with hm|⟨_,a,ha,hm⟩
     · omega
     · have:=HA.o a ha;omega))
    have jw:AIn A2 (w.heap.size≤·):=by
     exact Yxb
    have fk:=hU F7;have Nk:=hU Ky;have Ns:=hU jw;clear F7 Ky jw Td Uz Nl Vx q0 q1 q2 q3;exact Yqt
  · exact Yro
abbrev zPgS (k:Sym):PgS:=⟨k,0⟩
theorem Zbn (k:Sym) (w:World):Calls Tryz.prog 130 #[.agg (Q1d k)] w fun e w'=>e = .returned (.agg #[.int .i64 k.kind,.string k.text,.int .i64 k.n,.int .i64 0])∧Below w.heap.size w w':=by
 obtain ⟨W,hW⟩:∃W,W=(w.alloc (.cells (Q1d k) 41)).alloc (.cells Q2k 243):=⟨_,rfl⟩;(have hK:Blk W w.heap.size 41 (Q1d k):=by rw [hW];exact (Blk.new _ _ _).alloc _);(have hR:Blk W (w.heap.size+1) 243 Q2k:=by rw [hW];have hh:=Blk.new (w.alloc (.cells (Q1d k) 41)) 243 Q2k;simp only [Zti] at hh;exact hh);(have hB:Below w.heap.size w W:=by rw [hW];exact ((Zst _ _).alloc (Zsu _) _).alloc Ye _);have ht:W.there (w.heap.size+1) 0 (#[.int .i64 k.kind,.string k.text,.int .i64 k.n,.int .i64 0]:Array Value).size:=hR.there;have HT:=hU ht;have HB:=hU hB;obtain ⟨k0,k1,k2⟩:=hK.c3;have kz:=hK.lt;clear ht hR hB hK;go_enter Tryz.func130,Tryz.ntmps130;go_upto_region 1 with (fail);rw [←hW];clear hW;(go_wp2_with (with_reducible refine wpList_store_mid rfl 243 _ _ rfl (w.heap.size+1) 0 #[.int .i64 k.kind,.string k.text,.int .i64 k.n,.int .i64 0] rfl rfl HT.o Yb Yb ?_));refine Ykv ?_;refine bodyPost_ret (v:=.agg #[.int .i64 k.kind,.string k.text,.int .i64 k.n,.int .i64 0]) ?_ rfl ⟨rfl,Below.setCells' _ _ HB.o Ya⟩;exact Z1j (t:=2) (T:=243) rfl _ _ (w.heap.size+1) [.int .i64 k.kind,.string k.text,.int .i64 k.n,.int .i64 0] _ rfl (Zsy W (w.heap.size+1) 0 [.int .i64 k.kind,.string k.text,.int .i64 k.n,.int .i64 0] HT.o) Tryz.underlying243 rfl Yb
theorem Zkk (w:World):Calls Tryz.prog 100 #[] w fun e w'=>∃bm bp sn A c,e = .returned (.pointer (some ⟨bm,0,none⟩))∧w.heap.size≤bm∧w.heap.size≤bp∧AIn A (w.heap.size≤·)∧Blk w' bm 245 #[.pointer (some ⟨bp,0,none⟩)]∧Z35 w' bp sn A c []∧Below w.heap.size w w':=by
 go_enter Tryz.func100,Tryz.ntmps100;go_wp2_with fail;refine (Zr7 none 0 [] _ (Z0y.nil _ _ _) Ye).mono ?_;rintro e w1 ⟨bp,rfl,iv,sn,A,c,hS,hA,hB⟩;have HS:=hU hS;have HB:=hU hB;clear hS hB;go_wp2_with fail;go_ret;have Ct:Below w1.heap.size w1 (w1.alloc (.cells #[.pointer (some ⟨bp,0,none⟩)] 245)):=(Zst _ _).alloc (Zsu _) _;exact Ylk
theorem Zd0 (bm bp cc:Nat) (sn:Bool) (A:Option Addr) (m:List PgS) (k:Sym) (w:World) (hM:Blk w bm 245 #[.pointer (some ⟨bp,0,none⟩)]) (hS:Z35 w bp sn A cc m) (hs:Srt Z16 m) (hl:(m.length:Int)≤1000000) (hh:has Z16 m (zPgS k)=false) :
 Calls Tryz.prog 103 #[.pointer (some ⟨bm,0,none⟩),.agg (Q1d k)] w fun e w'=>e = .returned (.tuple #[.int .i64 0,.bool false])∧Below w.heap.size w w':=by
 refine Ysw ?_;intro s0 Le HS HO HM HH;clear hS hs hM hh;go_enter Tryz.func103,Tryz.ntmps103;go_upto_region 4 with (fail);refine Ya4 ?_;intro W0 Lg im hz0 s1;clear s0;obtain ⟨k0,k1,k2⟩:=im.c3;have Vf:=hU (HS.o.new_ Lg);have HM0:=hU (HM.o.new_ Lg);have HX0:=hU im;have jv:=hU Lg;have hml0:bm<W0.heap.size:=Ya;clear Lg im HS HM
 go_cut [7,8] from 12 (fun p b wc=>b = .bool false∧Below W0.heap.size W0 wc∧∃g,p = .pointer (some ⟨g,0,none⟩)∧W0.heap.size≤g∧g<wc.heap.size∧wc.rangeAt g 0 [.int .i64 0,.string ⟨#[]⟩,.int .i64 0,.int .i64 0])
 case first=>
  refine Z1g (fun w9=>Below W0.heap.size W0 w9) [0,1,2,3,4,7,8,9,12] [3,4] (.fork [(0,0),(1,0),(2,0),(3,1),(4,1)] 5 (.fork [] 6 (.fin [(7,0),(8,0),(9,0),(10,2),(11,2),(12,0)]) 10 (.fin [(6,2),(7,0),(8,0),(9,0),(11,2),(12,0)])) 10 (.fin [(5,2),(6,2),(7,0),(8,0),(9,0),(11,2),(12,0)])) Yb Yb Yb (fun KK hKK=>?_);refine Y8a ?_;intro HB V hV;rw [←hV] at HB ⊢;clear hV
  repeat' (first
   | ((first|(refine Z1r ?_ (Or.inl ⟨Yd,fun w9=>?_⟩) ?_;rotate_left 1;go_simp;with_reducible rfl)|(refine Z1y ?_ (HB.o) (Or.inl ⟨Yd,fun w9 hw9=>?_⟩) ?_;rotate_left 1;obtain ⟨hc9,hf9⟩:=Z0i hw9;go_simp;with_reducible rfl)|refine Z1r undef (Or.inr ⟨Yd,rfl⟩) ?_|refine Z1y undef (HB.o) (Or.inr ⟨Yd,rfl⟩) ?_);go_frame)
   | ((first|refine Z1n (fun K9 hK9=>?_)|refine Z1c rfl (fun K9 hK9=>?_));refine Z0h rfl 243 _ _ rfl g 0 Q2k rfl rfl (show _ from HK.o.there) Yb Yb ?_;show K9 _ (V.setCells g 0 [.int .i64 0,.string ⟨#[]⟩,.int .i64 0,.int .i64 0]);have HR:=hU (Zsy V g 0 [.int .i64 0,.string ⟨#[]⟩,.int .i64 0,.int .i64 0] (show _ from HK.o.there));have HB:=hU (Below.setCells' [.int .i64 0,.string ⟨#[]⟩,.int .i64 0,.int .i64 0] 0 HB.o HG.o);obtain ⟨V,hV⟩:∃V9,V9=V.setCells g 0 [.int .i64 0,.string ⟨#[]⟩,.int .i64 0,.int .i64 0]:=⟨_,rfl⟩;rw [←hV] at HR HB;rw [←hV];have HL:=hU (show g<V.heap.size from Zt5 _ _ (HR.o 0 _ rfl));clear hV;(first|refine hK9 _ _ (HB.o) ?_|refine hK9 _ _ (fun _=>HB.o) ?_);clear hK9 K9;(try go_frame);try simp only [Z08,Zsv])
   | ((first|refine Z1n (fun K9 hK9=>?_)|refine Z1c rfl (fun K9 hK9=>?_));go_simp;(first
     | (refine (Zbn k _).mono ?_;rintro e V ⟨rfl,hb⟩;have HB:=hU (HB.o.trans (hb.mono HB.o.size));(try have HK:=hU (HK.o.new_ hb));clear hb)
     | (refine (Zb1 bp cc sn A m (zPgS k) _ (Vf.o.new_ (HB.o)) HO.o Ya HH.o).mono ?_;rintro e V ⟨rfl,hb⟩;have HB:=hU (HB.o.trans (hb.mono HB.o.size));(try have HK:=hU (HK.o.new_ hb));clear hb)
     | (obtain ⟨g,hg⟩:∃g,g=V.heap.size:=⟨_,rfl⟩;have hk:=Blk.new V 243 Q2k;have HG:=hU (show W0.heap.size≤g from YWc);have HB:=hU (HB.o.alloc HB.o.size (.cells Q2k 243));obtain ⟨V,hV⟩:∃V9,V9=V.alloc (.cells Q2k 243):=⟨_,rfl⟩;rw [←hV,←hg] at hk;rw [←hV] at HB;have HK:=hU hk;rw [←hV,←hg];clear hV hk hg)|fail);(first|refine hK9 _ _ (HB.o) ?_|refine hK9 _ _ (fun _=>HB.o) ?_);clear hK9 K9;(try go_frame);try simp only [Z08,Zsv])
   | (refine Z0p ⟨?_,?_⟩)|fail)
  all_goals
   refine Y1g ?_;exact Ymb
 case rest=>
  obtain ⟨rfl,hB,g,rfl,hg,hgl,hr⟩:=hcut;have HB:=hU hB;have g1:wc.cell? ⟨g,3,none⟩=some (.int .i64 0):=hr 3 _ rfl;exact Y9i
theorem Zcy (bm bp cc:Nat) (sn:Bool) (A:Option Addr) (m:List PgS) (k:Sym) (y:PgS) (w:World) (hM:Blk w bm 245 #[.pointer (some ⟨bp,0,none⟩)]) (hS:Z35 w bp sn A cc m) (hs:Srt Z16 m) (hl:(m.length:Int)≤1000000) (hh:has Z16 m (zPgS k)=true) (hy:m[rank Z16 m (zPgS k)]? = some y) :
 Calls Tryz.prog 103 #[.pointer (some ⟨bm,0,none⟩),.agg (Q1d k)] w fun e w'=>e = .returned (.tuple #[.int .i64 y.v,.bool true])∧Below w.heap.size w w':=by
 refine Ysw ?_;intro s0 Le HS HO HM HH;have HY:=hU hy;clear hy;clear hS hs hM hh;go_enter Tryz.func103,Tryz.ntmps103;go_upto_region 4 with (fail);refine Ya4 ?_;intro W0 Lg im hz0 s1;clear s0;obtain ⟨k0,k1,k2⟩:=im.c3;have Vf:=hU (HS.o.new_ Lg);have HM0:=hU (HM.o.new_ Lg);have HX0:=hU im;have jv:=hU Lg;have hml0:bm<W0.heap.size:=Ya;clear Lg im HS HM
 go_cut [7,8] from 12 (fun p b wc=>b = .bool true∧Below W0.heap.size W0 wc∧∃g,p = .pointer (some ⟨g,0,none⟩)∧W0.heap.size≤g∧g<wc.heap.size∧wc.rangeAt g 0 (Q1a y))
 case first=>
  refine Z1g (fun w9=>Below W0.heap.size W0 w9) [0,1,2,3,4,7,8,9,12] [3,4] (.fork [(0,0),(1,0),(2,0),(3,1),(4,1)] 5 (.fork [] 6 (.fin [(7,0),(8,0),(9,0),(10,2),(11,2),(12,0)]) 10 (.fin [(6,2),(7,0),(8,0),(9,0),(11,2),(12,0)])) 10 (.fin [(5,2),(6,2),(7,0),(8,0),(9,0),(11,2),(12,0)])) Yb Yb Yb (fun KK hKK=>?_);refine Y8a ?_;intro HB V hV;rw [←hV] at HB ⊢;clear hV
  repeat' (first
   | ((first|(refine Z1r ?_ (Or.inl ⟨Yd,fun w9=>?_⟩) ?_;rotate_left 1;go_simp;with_reducible rfl)|(refine Z1y ?_ (HB.o) (Or.inl ⟨Yd,fun w9 hw9=>?_⟩) ?_;rotate_left 1;obtain ⟨hc9,hf9⟩:=Z0i hw9;go_simp;with_reducible rfl)|refine Z1r undef (Or.inr ⟨Yd,rfl⟩) ?_|refine Z1y undef (HB.o) (Or.inr ⟨Yd,rfl⟩) ?_);go_frame)
   | ((first|refine Z1n (fun K9 hK9=>?_)|refine Z1c rfl (fun K9 hK9=>?_));refine Z0h rfl 243 _ _ rfl g 0 (Q1b y) rfl rfl (show _ from HK.o.there) Yb Yb ?_;show K9 _ (V.setCells g 0 (Q1a y));have HR:=hU (Zsy V g 0 (Q1a y) (show _ from HK.o.there));have HB:=hU (Below.setCells' (Q1a y) 0 HB.o HG.o);obtain ⟨V,hV⟩:∃V9,V9=V.setCells g 0 (Q1a y):=⟨_,rfl⟩;rw [←hV] at HR HB;rw [←hV];have HL:=hU (show g<V.heap.size from Zt5 _ _ (HR.o 0 _ rfl));clear hV;(first|refine hK9 _ _ (HB.o) ?_|refine hK9 _ _ (fun _=>HB.o) ?_);clear hK9 K9;(try go_frame);try simp only [Z08,Zsv])
   | ((first|refine Z1n (fun K9 hK9=>?_)|refine Z1c rfl (fun K9 hK9=>?_));go_simp;(first
     | (refine (Zbn k _).mono ?_;rintro e V ⟨rfl,hb⟩;have HB:=hU (HB.o.trans (hb.mono HB.o.size));(try have HK:=hU (HK.o.new_ hb));clear hb)
     | (refine (Zil bp cc sn A m (zPgS k) y _ (Vf.o.new_ (HB.o)) HO.o Ya HH.o HY.o).mono ?_;rintro e V ⟨rfl,hb⟩;have HB:=hU (HB.o.trans (hb.mono HB.o.size));(try have HK:=hU (HK.o.new_ hb));clear hb)
     | (obtain ⟨g,hg⟩:∃g,g=V.heap.size:=⟨_,rfl⟩;have hk:=Blk.new V 243 Q2k;have HG:=hU (show W0.heap.size≤g from YWc);have HB:=hU (HB.o.alloc HB.o.size (.cells Q2k 243));obtain ⟨V,hV⟩:∃V9,V9=V.alloc (.cells Q2k 243):=⟨_,rfl⟩;rw [←hV,←hg] at hk;rw [←hV] at HB;have HK:=hU hk;rw [←hV,←hg];clear hV hk hg)|fail);(first|refine hK9 _ _ (HB.o) ?_|refine hK9 _ _ (fun _=>HB.o) ?_);clear hK9 K9;(try go_frame);try simp only [Z08,Zsv])
   | (refine Z0p ⟨?_,?_⟩)|fail)
  all_goals
   refine Y1g ?_;exact Ymb
 case rest=>
  obtain ⟨rfl,hB,g,rfl,hg,hgl,hr⟩:=hcut;have HB:=hU hB;have g1:wc.cell? ⟨g,3,none⟩=some (.int .i64 y.v):=hr 3 _ rfl;exact Y9i
theorem Z1w.of_PgS {a b:World}(h:Below a.heap.size a b){sn sn':Bool}{A A':Option Addr}(hm:Z1w b sn A sn' A'):Z1w a sn A sn' A':=
 hm.imp id (fun ⟨h1,g,h2,h3⟩=>⟨h1,g,by have:=h.size;omega,h3⟩)
theorem Zko (bm bp cc:Nat) (sn:Bool) (A:Option Addr) (m:List PgS) (k:Sym) (xv:Int) (w:World) (hM:Blk w bm 245 #[.pointer (some ⟨bp,0,none⟩)]) (hS:Z35 w bp sn A cc m) (hs:Srt Z16 m) (hl:(m.length:Int)≤1000000) (hh:has Z16 m (zPgS k)=false) :
 Calls Tryz.prog 128 #[.pointer (some ⟨bm,0,none⟩),.agg (Q1d k),.int .i64 xv] w fun e w'=>e = .returned (.bool true)∧∃sn' A' c',Z35 w' bp sn' A' c' (put Z16 m ⟨k,xv⟩)∧Fr (Z0w bp sn A) w w'∧Z1w w sn A sn' A':=by
 have of:has Z16 m ⟨k,xv⟩=false:=hh;refine Ysw ?_;intro s0 Le HS HO HM HH;have Wv:=hU of;clear hS hs hM hh of;go_enter Tryz.func128,Tryz.ntmps128;go_upto_region 3 with (fail);refine Ya4 ?_;intro W0 Lg im hz0 s1;clear s0;obtain ⟨k0,k1,k2⟩:=im.c3;refine Yn6 ?_;intro Vf Rq jt jv hml0;clear Lg im HS HM
 go_cut [8] from 11 (fun b wc=>b = .bool false∧Below W0.heap.size W0 wc)
 case first=>
  refine Z1g (fun w9=>Below W0.heap.size W0 w9) [0,1,2,3,4,7,8,9,12] [3,4] (.fork [(0,0),(1,0),(2,0),(3,1),(4,1)] 5 (.fork [] 6 (.fin [(7,0),(8,0),(9,0),(10,2),(11,2),(12,0)]) 10 (.fin [(6,2),(7,0),(8,0),(9,0),(11,2),(12,0)])) 10 (.fin [(5,2),(6,2),(7,0),(8,0),(9,0),(11,2),(12,0)])) Yb Yb Yb (fun KK hKK=>?_);refine Y8a ?_;intro HB V hV;rw [←hV] at HB ⊢;clear hV
  repeat' (first
   | ((first|(refine Z1r ?_ (Or.inl ⟨Yd,fun w9=>?_⟩) ?_;rotate_left 1;go_simp;with_reducible rfl)|(refine Z1y ?_ (HB.o) (Or.inl ⟨Yd,fun w9 hw9=>?_⟩) ?_;rotate_left 1;obtain ⟨Do,rr⟩:=Z0i hw9;go_simp;with_reducible rfl)|refine Z1r undef (Or.inr ⟨Yd,rfl⟩) ?_|refine Z1y undef (HB.o) (Or.inr ⟨Yd,rfl⟩) ?_);go_frame)
   | ((first|refine Z1n (fun K9 hK9=>?_)|refine Z1c rfl (fun K9 hK9=>?_));refine Z0h rfl 243 _ _ rfl g 0 Q2k rfl rfl (show _ from HK.o.there) Yb Yb ?_;show K9 _ (V.setCells g 0 [.int .i64 0,.string ⟨#[]⟩,.int .i64 0,.int .i64 0]);have HR:=hU (Zsy V g 0 [.int .i64 0,.string ⟨#[]⟩,.int .i64 0,.int .i64 0] (show _ from HK.o.there));have HB:=hU (Below.setCells' [.int .i64 0,.string ⟨#[]⟩,.int .i64 0,.int .i64 0] 0 HB.o HG.o);obtain ⟨V,hV⟩:∃V9,V9=V.setCells g 0 [.int .i64 0,.string ⟨#[]⟩,.int .i64 0,.int .i64 0]:=⟨_,rfl⟩;rw [←hV] at HR HB;rw [←hV];have HL:=hU (show g<V.heap.size from Zt5 _ _ (HR.o 0 _ rfl));clear hV;(first|refine hK9 _ _ (HB.o) ?_|refine hK9 _ _ (fun _=>HB.o) ?_);clear hK9 K9;(try go_frame);try simp only [Z08,Zsv])
   | ((first|refine Z1n (fun K9 hK9=>?_)|refine Z1c rfl (fun K9 hK9=>?_));go_simp;(first
     | (refine (Zbn k _).mono ?_;rintro e V ⟨rfl,hb⟩;have HB:=hU (HB.o.trans (hb.mono HB.o.size));(try have HK:=hU (HK.o.new_ hb));clear hb)
     | (refine (Zb1 bp cc sn A m (zPgS k) _ (Vf.o.new_ (HB.o)) HO.o Ya HH.o).mono ?_;rintro e V ⟨rfl,hb⟩;have HB:=hU (HB.o.trans (hb.mono HB.o.size));(try have HK:=hU (HK.o.new_ hb));clear hb)
     | (obtain ⟨g,hg⟩:∃g,g=V.heap.size:=⟨_,rfl⟩;have hk:=Blk.new V 243 Q2k;have HG:=hU (show W0.heap.size≤g from YWc);have HB:=hU (HB.o.alloc HB.o.size (.cells Q2k 243));obtain ⟨V,hV⟩:∃V9,V9=V.alloc (.cells Q2k 243):=⟨_,rfl⟩;rw [←hV,←hg] at hk;rw [←hV] at HB;have HK:=hU hk;rw [←hV,←hg];clear hV hk hg)|fail);(first|refine hK9 _ _ (HB.o) ?_|refine hK9 _ _ (fun _=>HB.o) ?_);clear hK9 K9;(try go_frame);try simp only [Z08,Zsv])
   | (refine Z0p ⟨?_,?_⟩)|fail)
  all_goals
   refine Y1g ?_;exact Yfh
 case rest=>
  obtain ⟨rfl,hB⟩:=hcut;have r0:=(Rq.o.new_ hB).c1;have hX:=jt.o.new_ hB;have hml2:=(Rq.o.new_ hB).lt;have hxl2:=hX.lt;have HB:=hU hB;have fk:=hU (Vf.o.new_ hB);clear s1 k0 k1 k2;obtain ⟨k0,k1,k2⟩:=hX.c3;clear hB hX;go_wp2_with fail;refine Z03 (fun w9=>Below wc.heap.size wc w9) [(0,0),(1,0),(2,0),(3,1),(4,1),(5,0),(6,0),(7,2),(8,0)] Yb Yb (fun KK hKK=>?_);refine Ygs ?_;intro K9 hK9;refine (Zmk bp cc sn A m ⟨k,xv⟩ _ (fk.o.new_ ((Zst _ _).drew)) HO.o Ya).mono ?_;rintro e w5 ⟨rfl,Vh⟩;have HP:=hU Vh;clear Vh;refine Y8n ?_;clear hK9 K9;refine Yyj ?_;refine Yf0 ?_;clear hKK KK;go_wp2_with fail;go_ret;have Ua:Below w.heap.size w wc:=jv.o.trans (HB.o.mono Ya);obtain ⟨sn',A',c',g1,g2,g3⟩:=HP.o;refine ⟨by rw [Wv.o]<;>rfl,sn',A',c',g1,(Fr.of_new Ua).trans ((Fr.refl _ wc).drew.trans g2),Z1w.of_PgS Ua g3⟩
end
section
open Go.RowKit Go.Shelf
attribute [local go_sem] Oper.semAt_some
theorem Zef :∀{ns:List Sym},ns.Nodup→∀{i:Nat}{s:Sym},ns[i]? = some s→plV ns s=i+1
 | [],_,i,s,h=>YSi
 | x :: l,hn,0,s,h=>by rw [plV,if_pos YIz]
 | x :: l,hn,i+1,s,h=>by
   obtain ⟨h1,h2⟩:=List.nodup_cons.1 hn;(have e2:l[i]? = some s:=by simpa using h);have Xf:x≠s:=fun e=>h1 (by rw [e];exact List.mem_of_getElem? e2);have ih:=Zef h2 e2;rw [plV,if_neg Xf,ih,if_neg Ya]
structure MapN (mm:List PgS) (ns:List Sym):Prop where
 srt:Srt Z16 mm
 len:mm.length=ns.length
 nodup:ns.Nodup
 mem :∀y,y∈mm↔∃i:Nat,ns[i]? = some y.kk∧y.v=(i:Int)+1
theorem MapN.nil:MapN [] []:=⟨Srt.nil,rfl,.nil,fun y=>Ye⟩
theorem MapN.has {mm:List PgS}{ns:List Sym}(h:MapN mm ns) (s:Sym) (z:Int):has Z16 mm ⟨s,z⟩=decide (s∈ns):=by
 by_cases hv:s∈ns
 · rw [Zt9 hv,Z46]
   obtain ⟨i,hi,e⟩:=List.getElem_of_mem hv;exact ⟨⟨s,(i:Int)+1⟩,(h.mem _).2 ⟨i,by rw [Zt3 hi,e],rfl⟩,Z9q.2 rfl⟩
 · rw [Zsx hv,Z3w]
   intro y hy e;obtain ⟨i,hi,_⟩:=(h.mem y).1 hy;have e3:y.kk=s:=Z9q.1 e;exact hv (by rw [←e3];exact List.mem_of_getElem? hi)
theorem MapN.get {mm:List PgS}{ns:List Sym}(h:MapN mm ns){s:Sym}{z:Int}(hv:s∈ns):∃y,mm[rank Z16 mm ⟨s,z⟩]? = some y∧y.v=(plV ns s:Int):=by
 (have hh:Go.Proofs.YtcnnofgaifcgaaaGreat.has Z16 mm ⟨s,z⟩=true:=by rw [h.has,Zt9 hv]);obtain ⟨_,_,hk,e⟩:=Z9s Z5e h.srt hh;refine ⟨_,Zt3 hk,?_⟩;obtain ⟨i,hi,e2⟩:=(h.mem _).1 (Ztf hk);have e3:_=s:=Z9q.1 e;rw [e3] at hi;rw [e2,Zef h.nodup hi];omega
theorem MapN.put {mm:List PgS}{ns:List Sym}(h:MapN mm ns){s:Sym}(hv :¬s∈ns):MapN (put Z16 mm ⟨s,(ns.length:Int)+1⟩) (ns ++ [s]):=by
 (have hh:Go.Proofs.YtcnnofgaifcgaaaGreat.has Z16 mm ⟨s,(ns.length:Int)+1⟩=false:=by rw [h.has,Zsx hv]);refine ⟨h.srt.put Z5e _,by rw [Z2y Z5e h.srt hh,h.len];simp,List.nodup_append.2 ⟨h.nodup,Ye,fun a ha b hb=>by rw [Zua.1 hb];exact fun e=>hv (e ▸ ha)⟩,fun y=>?_⟩
 have hm:y∈Go.Proofs.YtcnnofgaifcgaaaGreat.put Z16 mm ⟨s,(ns.length:Int)+1⟩↔y=⟨s,(ns.length:Int)+1⟩∨y∈mm:=by
  rw [Z6b Z5e h.srt hh,Ztu,Ztb];constructor
  · rintro (g|g|g)
    · exact .inr (List.mem_of_mem_take g)
    · exact .inl g
    · exact .inr (List.mem_of_mem_drop g)
  · rintro (g|g)
    · exact .inr (.inl g)
    · rw [←List.take_append_drop (rank Z16 mm ⟨s,(ns.length:Int)+1⟩) mm,Ztu] at g
      exact g.elim .inl (fun g=>.inr (.inr g))
 rw [hm,h.mem y];constructor
 · rintro (e|⟨i,hi,e⟩)
   · subst e
     exact ⟨ns.length,Ye,rfl⟩
   · have hl:i<ns.length:=(Ztp.1 hi).1
     exact ⟨i,by rw [Zto hl];exact hi,e⟩
 · rintro ⟨i,hi,e⟩
   by_cases hl:i<ns.length
   · exact .inr ⟨i,by rwa [Zto hl] at hi,e⟩
   · have ul:i=ns.length:=by
      have:=(Ztp.1 hi).1;exact Yt5
     subst ul;rw [Ztn (Zsu _)] at hi;simp at hi;obtain ⟨yk,yv⟩:=y;simp only at hi e;subst hi;subst e;exact .inl rfl
theorem Z1p {w:World}{b1 b2:Nat}{e1 e2:TypeId}{s1 s2 n m k:Nat}{v u:Value}{xs ys:List Value}(h1:w.ownsRow b1 e1 s1 v n xs) (h2:w.ownsRow b2 e2 s2 u m ys) (hne:e1≠e2) (hk:v.ownBlock=some k):u.ownBlock≠some k:=by
 rcases h2.2 with ⟨rfl,_⟩|⟨g,cap,cur,rfl,_,hg,_⟩
 · simp [Value.ownBlock]
 · intro e
   (have:g=k:=by simpa [Value.ownBlock] using e);subst this;exact Z01 h1 (show Blk w g e2 cur from hg) hne hk
structure NM (D:Nat→Prop) (w:World) (nb:Nat) (ns:List Sym) (bm bp:Nat) (sn:Bool) (A:Option Addr) (cc:Nat) (mm:List PgS) (L:Option Addr) (cl:Nat):Prop where
 blk:Blk w nb 212 #[.pointer (some ⟨bm,0,none⟩),.slice L ns.length cl]
 map:Blk w bm 245 #[.pointer (some ⟨bp,0,none⟩)]
 set:Z35 w bp sn A cc mm
 ok:MapN mm ns
 row:w.ownsRow 0 41 3 (.slice L ns.length cl) ns.length (ns.flatMap Sym.cells)
 dn:D nb
 dm:D bm
 dp:D bp
 da:AIn A D
 dl:AIn L D
 lt :∀k,D k→k<w.heap.size
def Nm (D:Nat→Prop) (w:World) (nb:Nat) (ns:List Sym):Prop:=∃bm bp sn A cc mm L cl,NM D w nb ns bm bp sn A cc mm L cl
section
variable {D:Nat→Prop}{w w':World}{nb:Nat}{ns:List Sym}{bm bp:Nat}{sn:Bool}{A:Option Addr}{cc:Nat}{mm:List PgS}{L:Option Addr}{cl:Nat}
theorem NM.new_ (h:NM D w nb ns bm bp sn A cc mm L cl) (hb:Below w.heap.size w w'):NM D w' nb ns bm bp sn A cc mm L cl:=
 ⟨h.blk.new_ hb,h.map.new_ hb,h.set.new_ hb,h.ok,Z02 h.row hb,h.dn,h.dm,h.dp,h.da,h.dl,fun k hk=>Zsw (h.lt k hk) hb.size⟩
theorem Nm.new_ (h:Nm D w nb ns) (hb:Below w.heap.size w w'):Nm D w' nb ns:=by
 obtain ⟨bm,bp,sn,A,cc,mm,L,cl,h⟩:=h;exact ⟨bm,bp,sn,A,cc,mm,L,cl,h.new_ hb⟩
theorem NM.fr {M:Nat→Prop}(h:NM D w nb ns bm bp sn A cc mm L cl) (hF:Fr M w w') (hM :∀k,D k→¬M k):NM D w' nb ns bm bp sn A cc mm L cl:=by
 refine ⟨h.blk.fr hF (hM _ h.dn),h.map.fr hF (hM _ h.dm),h.set.fr hF (hM _ h.dp) (h.da.mono hM),h.ok,⟨h.row.1,h.row.2.imp id fun ⟨g,cap,cur,hv,h0,hg,hr⟩=>⟨g,cap,cur,hv,h0,?_,hr⟩⟩,h.dn,h.dm,h.dp,h.da,h.dl,fun k hk=>Zsw (h.lt k hk) hF.size⟩;injection hv with hv;exact Blk.fr (t:=41) hg hF (hM _ (h.dl ⟨g,0,none⟩ hv))
theorem Nm.fr {M:Nat→Prop}(h:Nm D w nb ns) (hF:Fr M w w') (hM :∀k,D k→¬M k):Nm D w' nb ns:=by
 obtain ⟨bm,bp,sn,A,cc,mm,L,cl,h⟩:=h;exact ⟨bm,bp,sn,A,cc,mm,L,cl,h.fr hF hM⟩
theorem Nm.lt (h:Nm D w nb ns):∀k,D k→k<w.heap.size:=by
 obtain ⟨bm,bp,sn,A,cc,mm,L,cl,h⟩:=h;exact h.lt
end
theorem Zp3 {mm:List PgS}{ns:List Sym}{bm bp cc:Nat}{sn:Bool}{A:Option Addr}(s:Sym) (w:World) (h1:Blk w bm 245 #[.pointer (some ⟨bp,0,none⟩)]) (h2:Z35 w bp sn A cc mm) (h3:MapN mm ns) (hl:ns.length≤1000000) :
 Calls Tryz.prog 103 #[.pointer (some ⟨bm,0,none⟩),.agg (Q1d s)] w fun e w'=>e = .returned (.tuple #[.int .i64 (plV ns s:Int),.bool (decide (s∈ns))])∧Below w.heap.size w w':=by
 (have hlm:(mm.length:Int)≤1000000:=by rw [h3.len];omega);by_cases hv:s∈ns
 · obtain ⟨y,g1,g2⟩:=h3.get (z:=0) hv
   have:=Zcy bm bp cc sn A mm s y w h1 h2 h3.srt hlm (by rw [h3.has,Zt9 hv]) g1;rw [g2] at this;rw [Zt9 hv];exact this
 · have:=Zd0 bm bp cc sn A mm s w h1 h2 h3.srt hlm (by rw [h3.has,Zsx hv])
   rw [Zsx hv,Z83.2 hv];exact this
theorem Z4d {D:Nat→Prop}{nb:Nat}{ns:List Sym}(s:Sym) (w:World) (h:Nm D w nb ns) (hl:ns.length≤100000):Calls Tryz.prog 79 #[.pointer (some ⟨nb,0,none⟩),.agg (Q1d s)] w fun e w'=>e = .returned (.int .i64 (plV ns s:Int))∧Below w.heap.size w w':=by
 obtain ⟨bm,bp,sn,A,cc,mm,L,cl,h⟩:=h;have HG:=hU (show ∀W,Below w.heap.size w W→_ from fun W hW=>Zp3 s W (h.map.new_ hW) (h.set.new_ hW) h.ok Ya);have m0:=(h.blk.cell 0).trans rfl;have mz:=h.blk.lt;obtain ⟨r,hr⟩:∃r,r=(plV ns s:Int):=⟨_,rfl⟩;obtain ⟨b,yj⟩:∃b,b=decide (s∈ns):=⟨_,rfl⟩;rw [←hr,←yj] at HG;rw [←hr];clear h hr yj hl;go_enter Tryz.func79,Tryz.ntmps79;go_upto_region 1 with fail;obtain ⟨w1,Fg⟩:∃w1,w1=w.alloc (.cells (Q1d s) 41):=⟨_,rfl⟩;have HB:=hU (show Below w.heap.size w w1 by rw [Fg];exact (Zst _ _).alloc (Zsu _) _);(have hk:=show Blk w1 w.heap.size 41 (Q1d s) by rw [Fg];exact Blk.new _ _ _);rw [←Fg];clear Fg;obtain ⟨k0,k1,k2⟩:=hk.c3;have kz:=hk.lt;have m1:=(HB.o.cell (p:=⟨nb,0,none⟩) mz).trans m0;have mz1:=Zsw mz HB.o.size;clear hk m0;refine Z03 (fun w9=>Below w1.heap.size w1 w9) [(0,0),(1,0),(2,0),(3,1),(4,1),(5,2),(6,0),(7,0),(8,0),(9,0),(10,0)] Yb Yb (fun KK hKK=>?_);refine Ygs ?_;intro K9 hK9;refine (HG.o _ (HB.o.trans (((Zst w1.heap.size w1).drew).mono HB.o.size))).mono ?_;rintro e w31 ⟨rfl,Lc⟩;have tc:=hU (((Zst w1.heap.size w1).drew).trans (Lc.mono Ye));clear Lc;refine Y8n ?_;clear hK9 K9;refine Yyj ?_;refine Yf0 ?_;clear hKK KK;clear k0 k1 k2 m1;go_wp2_with fail;go_ret;exact ⟨rfl,HB.o.trans (tc.o.mono HB.o.size)⟩
theorem Zco (a b:Int) (w:World):Calls Tryz.prog 124 #[.int .i64 a,.int .i64 b] w fun e w'=>e = .returned (.int .i64 (Z1b a b))∧w=w':=by
 go_enter Tryz.func124,Tryz.ntmps124;exact Ya9
theorem Zp9 {D:Nat→Prop}{nb:Nat}{ns:List Sym}(s:Sym) (w:World) (h:Nm D w nb ns) (hl:ns.length≤100000):Calls Tryz.prog 127 #[.pointer (some ⟨nb,0,none⟩),.agg (Q1d s)] w fun e w'=>e = .returned (.int .i64 (rkN ns s))∧Below w.heap.size w w':=by
 have HP:=hU (fun W (hW:Below w.heap.size w W)=>Z4d s W (h.new_ hW) hl);refine Yvc ?_;intro HA;clear h hl;by_cases hk:s.kind=1
 · have HR:=hU (show rkN ns s=if plV ns s=0 then 2 else 1 by rw [rkN,if_neg Ya])
   have e1:(s.kind != 1)=false:=YCl;by_cases hp:plV ns s=0
   · have HR:=hU (show rkN ns s=2 by rw [HR.o,if_pos hp])
     rw [hp] at HP;clear hk hp;go_enter Tryz.func127,Tryz.ntmps127;exact Ye8
   · have HR:=hU (show rkN ns s=1 by rw [HR.o,if_neg hp])
     obtain ⟨r,hr⟩:∃r,r=plV ns s:=⟨_,rfl⟩;rw [←hr] at HP;have r1:(0:Int)<(r:Int):=Ya;have r2:0<r:=Ya;clear hk hp hr;go_enter Tryz.func127,Tryz.ntmps127;exact Ye8
 · have HR:=hU (show rkN ns s=0 by rw [rkN,if_pos hk])
   have e1:(s.kind != 1)=true:=YCl;clear hk;go_enter Tryz.func127,Tryz.ntmps127;go_wp2_with fail;go_ret;exact ⟨YE7,HA.o⟩
theorem Zs5 {D:Nat→Prop}{nb:Nat}{ns:List Sym}(s:Sym) (w:World) (h:Nm D w nb ns) (hl:ns.length≤100000):Calls Tryz.prog 125 #[.pointer (some ⟨nb,0,none⟩),.agg (Q1d s)] w fun e w'=>e = .returned (.int .i64 (idN ns s))∧Below w.heap.size w w':=by
 have HP:=hU (fun W (hW:Below w.heap.size w W)=>Z4d s W (h.new_ hW) hl);refine Yvc ?_;intro HA;by_cases hp:plV ns s=0
 · have HR:=hU (show idN ns s=(ns.length:Int)+1 by rw [idN,if_pos hp])
   obtain ⟨bm,bp,sn,A,cc,mm,L,cl,h⟩:=h;have HN:=hU h.blk;have v1:IntKind.i64.wrap ((ns.length:Int)+1)=(ns.length:Int)+1:=Zt8 _ Ya;rw [hp] at HP;clear hp h;go_enter Tryz.func125,Tryz.ntmps125;go_wp2_with fail;refine Yis ?_;intro w2 hb HB;have hn:=HN.o.new_ HB.o;have n1:=(hn.cell 1).trans rfl;have nz:=hn.lt;clear hb hn;go_wp2_with fail;exact Yyw
 · have HR:=hU (show idN ns s=(plV ns s:Int) by rw [idN,if_neg hp])
   obtain ⟨r,hr⟩:∃r,r=plV ns s:=⟨_,rfl⟩;rw [←hr] at HP HR;have r1:(0:Int)<(r:Int):=Ya;have r2:0<r:=Ya;clear hp hr h;go_enter Tryz.func125,Tryz.ntmps125;exact Ye8
end
end Go.Proofs.YtcnnofgaifcgaaaGreat
