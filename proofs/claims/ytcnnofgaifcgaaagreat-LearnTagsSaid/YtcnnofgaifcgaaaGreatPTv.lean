/-
  Texts put together: LrnBd, VaryA7.
-/
import Derived.Test.YtcnnofgaifcgaaaGreatPTu
namespace Go.Proofs.YtcnnofgaifcgaaaGreat
set_option maxRecDepth 100000
set_option maxHeartbeats 32000000
set_option linter.unusedSimpArgs false
section
open Go.RowKit Go.Shelf
attribute [local go_sem] Oper.semAt_some
theorem Zpx (n:Nat) (on:Bool) (room lv:Int){gf gs:Nat}{lb ls:Array Value}{kb:Nat}{A:Option Addr}{c:Nat}(recs:List Z0c) (l:List Z24) (AP:Option Addr) (cP:Nat) (r:Option (Z3r×List Int)) (X:World)
 (hk:Blk X kb 22 #[.slice A recs.length c]) (hr:RowR (Z18 n) (· < X.heap.size) X A c recs) (h0:recs.length≤20∧∀r∈recs,SmR n r∧r.elems.length≤20) (hp:Z0y X 16 Z24.cells AP cP l) (hl:l.length≤60)
 (hC:on=true→(Z3k recs lv (Z3q l)).lost=0→∀B1 d1 B2 d2 B3 d3 B4 d4 W,Below X.heap.size X W→Zqi n (Z3k recs lv (Z3q l)) (· < W.heap.size) W B1 d1 B2 d2 B3 d3 B4 d4→
   Calls Tryz.prog 20 #[.int .i64 room,.agg #[.slice B1 (Z3k recs lv (Z3q l)).elems.length d1,.slice B2 (Z3k recs lv (Z3q l)).holes.length d2,.slice B3 (Z3k recs lv (Z3q l)).aparts.length d3,.slice B4 (Z3k recs lv (Z3q l)).news.length d4,.int .i64 ((Z3k recs lv (Z3q l)).visited:Nat),.int .i64 ((Z3k recs lv (Z3q l)).lost:Nat)],.func (.func gf) #[] lb,.slice AP l.length cP,.func (.func gs) #[] ls] W (Z4o n r W)) :
 Calls Tryz.prog 6 #[.bool on,.int .i64 room,.int .i64 lv,.func (.func gf) #[] lb,.func (.func 21) #[] #[.pointer (some ⟨kb,0,none⟩)],.slice AP l.length cP,.func (.func gs) #[] ls] X (Zrr n (Z5c on r recs lv l) X):=by
 have HK:=hU hk;have HR:=hU hr;have HP:=hU hp;have HH:=hU h0;obtain ⟨T,hT⟩:∃T,T=Z3k recs lv (Z3q l):=⟨_,rfl⟩;have HMO:=hU (show ¬l = []→Z5c on r recs lv l=Za3 on r T from fun h=>by unfold Z5c;rw [if_neg h,hT]);rw [←hT] at hC;have HTT:=hU hT;have HC0:=hU hC;have hcp:=hp.cap;clear hk hr hp h0 hC hT;obtain ⟨i0,tm,Nc,rm,Aj⟩:=infp Z8r;go_enter Tryz.func6,Tryz.ntmps6;go_upto_region 1 with fail;obtain ⟨W1,Wo⟩:∃W,W=X.alloc (.cells Q2y 38):=⟨_,rfl⟩;obtain ⟨Oy,Af⟩:∃b,b=X.heap.size:=⟨_,rfl⟩;have lp:=hU (show Blk W1 Oy 38 Q2y by rw [Wo,Af];exact Blk.new _ _ _);have HB:=hU (show Below X.heap.size X W1 from Yo);have mg:=hU (show X.heap.size≤Oy by rw [Af];exact Zsu _);rw [←Wo,←Af];clear Wo Af;by_cases hl0:l.length=0
 case pos=>
  obtain rfl:=Zty.1 hl0;have e0:((([]:List Z24).length:Int) == 0)=true:=rfl;have HT:=hU (show W1.there Oy 0 (Q2y:Array Value).size from lp.o.there);(go_wp2_with (with_reducible refine wpList_store_mid rfl 38 _ _ rfl Oy 0 Q2y rfl rfl HT.o Yb Yb ?_));refine Ykv ?_;refine bodyPost_ret (v:=.agg Q2y) ?_ rfl ?_
  · exact Z1j (t:=14) (T:=38) rfl _ _ Oy [.int .i64 0,.string ⟨#[]⟩,.slice none 0 0,.slice none 0 0,.slice none 0 0,.slice none 0 0,.slice none 0 0,.slice none 0 0,.slice none 0 0,.int .i64 0,.int .i64 0] _ rfl (Zsy W1 Oy 0 [.int .i64 0,.string ⟨#[]⟩,.slice none 0 0,.slice none 0 0,.slice none 0 0,.slice none 0 0,.slice none 0 0,.slice none 0 0,.slice none 0 0,.int .i64 0,.int .i64 0] HT.o) Tryz.underlying38 rfl Yb
  · rw [show Z5c on _ recs lv _=_ from rfl]
    refine ⟨Below.setCells' _ _ HB.o mg.o,none,0,none,0,none,0,none,0,none,0,none,0,none,0,rfl,RowR.nil _ _ _,RowR.nil _ _ _,Z0y.nil _ _ _,AIn.none_ _,⟨rfl,.inl ⟨rfl,rfl⟩⟩⟩
 (have e0:((l.length:Int) == 0)=false:=by simpa using hl0);have HL0:=hU (show ¬l = [] from fun h=>hl0 (by rw [h];rfl));clear hl0;go_upto_region 3 with fail;clear e0;go_wp2_with fail;refine (Zki _).mono ?_;rintro e w2 ⟨bm,bp,sn,Am,cm,rfl,jl,iv,hAm,hM,hS,hb⟩
 have HN:=hU (show ¬Z0w bp sn Am bm by
  rintro (e|⟨_,a,ha,e⟩)
  · exact hM.ne_ hS.blk Yc e
  · exact Z01 hS.row hM Yc YVi)
 have Vf:=hU (show BS X Oy bm bp [] none 0 sn Am cm [] w2 from ⟨lp.o.new_ hb,mg.o,⟨Ye,.inl ⟨rfl,rfl⟩⟩,AIn.none_ _,hM,hS,Zt6 HB.o.size iv,hAm.mono (fun k hk=>Zt6 HB.o.size hk),Srt.nil,fun z=>rfl,HB.o.trans (hb.mono HB.o.size)⟩);clear jl iv hAm hM hS hb HN lp HB;go_upto_region 6 with fail
 go_loopw [16,33] (fun vb vi wr=>∃(k:Nat) (bys:List Int) (Ab:Option Addr) (cb:Nat) (sn:Bool) (Am:Option Addr) (cm:Nat) (m:List PgL),vi = .int .i64 (k:Int)∧k≤l.length∧vb = .slice Ab bys.length cb∧bys=Z3q (l.take k)∧m.length≤k∧BS X Oy bm bp bys Ab cb sn Am cm m wr) (fun vb vi wr=>l.length - (intOf vi).toNat)
 case atStart=>exact ⟨0,[],none,0,sn,Am,cm,[],rfl,Nat.zero_le _,rfl,rfl,Nat.zero_le _,Vf.o⟩
 case round=>
 clear Vf;obtain ⟨k,bys,Ab,cb,sn,Am,cm,m,rfl,hk,rfl,jj,Le,Xe⟩:=hrel;have Uj:=hU Xe;have U8:=hU jj;(have P2:bys.length≤60:=by have:=Zkr (l.take k);rw [←jj] at this;have:=List.length_take_le k l;omega);clear Xe jj;by_cases hlt:k<l.length
 · skip
   obtain ⟨y,hy⟩:∃y,y=l[k]:=⟨_,rfl⟩;have HY:=hU hy;obtain ⟨g,off,Jo,Gb,Gk⟩:=(HP.o.new_ Uj.o.bel).range hlt;rw [←hy] at Gk;subst Jo;have ly:=hU (show wr.rangeAt g (off+k*16) (Q0w y) from Gk);obtain ⟨W5,wv,Tq,oq,ww,Ew⟩:=Z4b (w:=wr) (t:=63) Q2i (Q0w y) rfl;have o9:=hU wv;have Nw:=hU Tq;have kc:=hU (Uj.o.new_ ww);have vy:=hU (show Blk W5 wr.heap.size 63 (Q0x y) from Z3m (zs:=Q2i) (vs:=(Q0w y)) rfl wv oq);have HBB5:=hU ww;have j1:(0:Int)≤(k:Int):=Ya;have j2:(k:Int)<(l.length:Int):=Ya;have v1:IntKind.i64.wrap ((k:Int)+1)=(k:Int)+1:=Zt8 _ Ya;clear wv Tq Gk oq hy Gb Ew ww
   go_upto_region 8 with (first
   | (with_reducible refine wpList_load_mid rfl 63 _ rfl g (off+k*16) rfl (Q0w y) _ ly.o Tryz.underlying63 rfl Yb ?_)
   | ((with_reducible refine wpList_store_mid rfl 63 _ _ rfl wr.heap.size 0 (Q0x y) rfl rfl Nw.o Yb Yb ?_);rw [←o9.o]))
   obtain ⟨b18,Ko⟩:∃b,b=wr.heap.size:=⟨_,rfl⟩;rw [←Ko] at vy ⊢;clear Ko;have k15:=(vy.o.cell 15).trans rfl;have kz:=vy.o.lt;have HNM:=hU (kc.o.off kc.o.mb Yc Yc);cases hh:has Z0d m ⟨y.by_,true⟩
   · skip
     have HHF:=hU (show ¬y.by_∈bys from YMo);have HHH:=hU hh;clear hh;go_wp2_with fail;refine (Zkm bm bp cm sn Am m ⟨y.by_,true⟩ W5 kc.o.mb kc.o.st kc.o.srt Ya HHH.o).mono ?_;rintro e w6 ⟨rfl,Vq,A6,c6,Us,Mq,Tf⟩;have zn:=hU (kc.o.put Us (kc.o.srt.put Z3z _) Mq Tf)
     have HHS:=hU (show ∀z,has Z0d (put Z0d m ⟨y.by_,true⟩) z=decide (z.kk∈bys ++ [y.by_]) from fun z=>by
      rw [Zom kc.o.srt,kc.o.hs z,←Bool.decide_or]
      exact decide_eq_decide.2 (by simp only [Ztu,Zua,eq_comm]))
     (have eh:(put Z0d m ⟨y.by_,true⟩).length≤k+1:=by have:=Z4s Z3z kc.o.srt (⟨y.by_,true⟩:PgL);omega);have HK6:=hU (vy.o.fr Mq (kc.o.off vy.o Yc Yc));clear Us Mq Tf k15 kz;have k15:=(HK6.o.cell 15).trans rfl;have kz:=HK6.o.lt;obtain ⟨W7,pn⟩:∃W,W=w6.alloc (.cells #[.int .i64 y.by_] 3):=⟨_,rfl⟩;have Me:=hU pn;have ms:=hU (show Below w6.heap.size w6 W7 from YF0);have ii:=hU (show 0<1→∃ad,(some (⟨w6.heap.size,0,none⟩:Addr))=some ad∧∀j u,([y.by_].flatMap Int.cells1)[j]? = some u→W7.cell? (ad.add j)=some u from fun _=>⟨_,rfl,by rw [pn];exact Zte (heap_alloc_new _ _)⟩);clear pn;(go_wp2_with (at_builtin;rw [←Me.o];refine Z0g W7 rfl (.tmp 41) (.tmp 44) 30 rfl 3 i0 _ 1 8 Tryz.underlying30 tm Nc rm Aj rfl Ya (.slice Ab bys.length cb) bys.length (bys.flatMap Int.cells1) rfl (Z02 zn.o.own ms.o) (some ⟨w6.heap.size,0,none⟩) 1 1 ([y.by_].flatMap Int.cells1) rfl rfl ii.o (Z7o _) Yj Ya ?_;intro v3 w9 rn Kg E5 Tt;obtain ⟨A9,c9,rfl,kj⟩:=zn.o.app ms.o kc.o HHS.o rn Kg Tt;obtain ⟨ol,I9⟩:∃ol,ol=bys ++ [y.by_]:=⟨_,rfl⟩;rw [←I9] at kj ⊢;have ji:=hU I9;have db:=hU kj;clear rn Kg E5 Tt kj I9));go_roundw
     case rel=>exact ⟨k+1,ol,A9,c9,Vq,A6,c6,_,Yn,Ya,rfl,by rw [Zax hlt,←U8.o,←HY.o,Ze8,if_neg HHF.o,ji.o],eh,db.o⟩
     case measure=>simp [intOf]<;>omega
   · skip
     have HHF:=hU (show y.by_∈bys from YMo);have HHH:=hU hh;clear hh;go_wp2_with fail;refine (Zie bm bp cm sn Am m ⟨y.by_,true⟩ W5 kc.o.mb kc.o.st kc.o.srt Ya HHH.o HNM.o).mono ?_;rintro e w6 ⟨rfl,Vq,A6,c6,m6,Us,Jc,hlm6,wk,Mq,Tf⟩;have T9:=hU ((kc.o.put Us Jc Mq Tf).same kc.o (fun z=>by rw [wk];exact kc.o.hs z));clear Us Mq Tf Jc wk k15 kz;go_wp2_with fail;go_roundw
     case rel=>exact ⟨k+1,bys,Ab,cb,Vq,A6,c6,m6,Yn,Ya,rfl,by rw [Zax hlt,←U8.o,←HY.o,Ze8,if_pos HHF.o],Ya,T9.o⟩
     case measure=>simp [intOf]<;>omega
 · skip
   (obtain rfl:k=l.length:=Ya);have bg:=hU (show bys=Z3q l by rw [U8.o,Ztc]);have jz :¬(l.length:Int)<(l.length:Int):=Ya;have Jm:=hU Uj.o.bel;have lp:=hU Uj.o.box
   have tu:=hU (show Calls Tryz.prog 19 #[.int .i64 lv,.slice Ab bys.length cb,.func (.func 21) #[] #[.pointer (some ⟨kb,0,none⟩)]] wr (Zau n T wr) by
    rw [HTT.o,←bg.o]
    exact Zor lv wr (HK.o.new_ Jm.o) ((HR.o.new_ Jm.o).weaken (fun k hk=>Zsw hk Jm.o.size)) HH.o (Z0e Int.cells1_length Uj.o.own) Ya)
   clear Uj U8 bg hk hlt Le P2;go_wp2_with fail;refine tu.o.mono ?_;rintro e w7 ⟨B1,d1,B2,d2,B3,d3,B4,d4,rfl,Eq,Vn,ho7⟩;have mv:=hU Eq;have xj:=hU ho7;have lp:=hU (lp.o.new_ Vn);have Jm:=hU (Jm.o.trans (Vn.mono Jm.o.size));clear Eq Vn ho7 tu jz;go_upto_region 12 with fail;obtain ⟨W8,wl⟩:∃W,W=w7.alloc (.cells #[.slice B1 T.elems.length d1,.slice B2 T.holes.length d2,.slice B3 T.aparts.length d3,.slice B4 T.news.length d4,.int .i64 (T.visited:Nat),.int .i64 (T.lost:Nat)] 36):=⟨_,rfl⟩;obtain ⟨b19,ie⟩:∃b,b=w7.heap.size:=⟨_,rfl⟩;have Oj:=hU (show Blk W8 b19 36 #[.slice B1 T.elems.length d1,.slice B2 T.holes.length d2,.slice B3 T.aparts.length d3,.slice B4 T.news.length d4,.int .i64 (T.visited:Nat),.int .i64 (T.lost:Nat)] by rw [wl,ie];exact Blk.new _ _ _);have gl:Below w7.heap.size w7 W8:=YVx;rw [←wl,←ie];have lp:=hU (lp.o.new_ gl);have Jm:=hU (Jm.o.trans (gl.mono Jm.o.size));have mv:=hU (show Zqi n T (· < W8.heap.size) W8 B1 d1 B2 d2 B3 d3 B4 d4 from ⟨Zpm mv.o.1 gl,Zpm mv.o.2.1 gl,Zpm mv.o.2.2.1 gl,Zpm mv.o.2.2.2 gl⟩);have xj:=hU (Z02 xj.o gl);clear wl ie gl;obtain ⟨sg,E9,Pp,Jy,Sc,kq⟩:=Oj.o.c6;have tz:=Oj.o.lt;by_cases hne:T.elems.length=0
   case pos=>
    (have e1:((T.elems.length:Int) == 0)=true:=by simp [hne]);have Ux:=hU (Zty.1 hne);clear hne;have HT:=hU (show W8.there Oy 0 (#[.int .i64 0,.string ⟨#[]⟩,.slice none 0 0,.slice none 0 0,.slice none 0 0,.slice B1 T.elems.length d1,.slice B2 T.holes.length d2,.slice B3 T.aparts.length d3,.slice B4 T.news.length d4,.int .i64 (T.visited:Nat),.int .i64 (T.lost:Nat)]:Array Value).size from lp.o.there);(go_wp2_with (with_reducible refine wpList_store_mid rfl 38 _ _ rfl Oy 0 #[.int .i64 0,.string ⟨#[]⟩,.slice none 0 0,.slice none 0 0,.slice none 0 0,.slice B1 T.elems.length d1,.slice B2 T.holes.length d2,.slice B3 T.aparts.length d3,.slice B4 T.news.length d4,.int .i64 (T.visited:Nat),.int .i64 (T.lost:Nat)] rfl rfl HT.o Yb Yb ?_));refine Ykv ?_;refine bodyPost_ret (v:=.agg #[.int .i64 0,.string ⟨#[]⟩,.slice none 0 0,.slice none 0 0,.slice none 0 0,.slice B1 T.elems.length d1,.slice B2 T.holes.length d2,.slice B3 T.aparts.length d3,.slice B4 T.news.length d4,.int .i64 (T.visited:Nat),.int .i64 (T.lost:Nat)]) ?_ rfl ?_
    · exact Z1j (t:=14) (T:=38) rfl _ _ Oy [.int .i64 0,.string ⟨#[]⟩,.slice none 0 0,.slice none 0 0,.slice none 0 0,.slice B1 T.elems.length d1,.slice B2 T.holes.length d2,.slice B3 T.aparts.length d3,.slice B4 T.news.length d4,.int .i64 (T.visited:Nat),.int .i64 (T.lost:Nat)] _ rfl (Zsy W8 Oy 0 [.int .i64 0,.string ⟨#[]⟩,.slice none 0 0,.slice none 0 0,.slice none 0 0,.slice B1 T.elems.length d1,.slice B2 T.holes.length d2,.slice B3 T.aparts.length d3,.slice B4 T.news.length d4,.int .i64 (T.visited:Nat),.int .i64 (T.lost:Nat)] HT.o) Tryz.underlying38 rfl Yb
    · rw [show Z5c on _ recs lv _=_ from (HMO.o HL0.o).trans (by unfold Za3;rw [if_pos Ux.o])]
      refine ⟨Below.setCells' _ _ Jm.o mg.o,none,0,none,0,none,0,B1,d1,B2,d2,B3,d3,B4,d4,rfl,RowR.nil _ _ _,RowR.nil _ _ _,Z0y.nil _ _ _,AIn.none_ _,Z1i xj.o lp.o Yc _ _⟩
   (have e1:((T.elems.length:Int) == 0)=false:=by simpa using hne);have Ux:=hU (show ¬T.elems = [] from fun h=>hne (by rw [h];rfl));(have hcb:T.elems.length≤400:=by have h1:=Z7p (fun r hr=>(HH.o.2 r hr).2) lv (Z3q l);have h2:=HH.o.1;rw [←HTT.o] at h1;omega);clear hne;go_upto_region 14 with fail;clear e1;obtain ⟨q,hq⟩:∃q,q=(on && decide (T.lost=0)):=⟨_,rfl⟩
   go_cut [62] from 57 (fun v wc=>v = .bool q∧wc=W8)
   case first=>
    cases on
    · go_wp2_with fail
      go_meet
      case rel=>exact ⟨by rw [hq];rfl,rfl⟩
    · by_cases hz:T.lost=0
      · have e2:(((T.lost:Nat):Int) == 0)=true:=by simp [hz]
        (have M5:q=true:=by rw [hq];simp [hz]);exact Yt3
      · have e2:(((T.lost:Nat):Int) == 0)=false:=by simpa using hz
        (have M5:q=false:=by rw [hq];simp [hz]);exact Yt3
   case rest=>
   obtain ⟨rfl,rfl⟩:=hcut;have HQ:=hU (show q=true↔on=true∧T.lost=0 by rw [hq];simp);clear hq
   go_upto_if 62 with fail
   go_cut [] from 57 (fun wd=>Below wc.heap.size wc wd∧(if on=true∧T.lost=0 then r else none)=none)
   case first=>
    cases q
    · have HQN:=hU (show (if on=true∧T.lost=0 then r else none)=none from if_neg (fun h=>by have:=HQ.o.2 h;cases this))
      go_wp2_with fail;go_meet
      case rel=>exact ⟨Zst _ _,HQN.o⟩
    · skip
      have HQY:=hU (show (if on=true∧T.lost=0 then r else none)=r from if_pos (HQ.o.1 rfl));have ex:=hU (HC0.o (HQ.o.1 rfl).1 (HQ.o.1 rfl).2 B1 d1 B2 d2 B3 d3 B4 d4 wc Jm.o mv.o)
      cases r with
      | none=>
        go_wp2_with fail;refine ex.o.mono ?_;rintro e w9 ⟨Ct,rfl⟩;have yq:=hU Ct;clear Ct;go_upto_region 16 with fail;obtain ⟨WA,iz⟩:∃W,W=w9.alloc (.cells Q2p 29):=⟨_,rfl⟩;have Ge:=hU (show Below wc.heap.size wc WA by rw [iz];exact yq.o.alloc yq.o.size _);rw [←iz];clear iz;go_wp2_with fail;go_meet
        case rel=>exact ⟨Ge.o,HQY.o⟩
      | some z=>
        obtain ⟨p,tags⟩:=z;go_wp2_with fail;refine ex.o.mono ?_;rintro e w9 ⟨Ct,A1,c1,A2,c2,A3,c3,rfl,g1,g2,g3,g4⟩;have Ak:=hU lp.o.lt;have Rc:=hU Jm.o.size;have lp:=hU (lp.o.new_ Ct);have Oj:=hU (Oj.o.new_ Ct);have xj:=hU (Z02 xj.o Ct);have Jm:=hU (Jm.o.trans (Ct.mono Jm.o.size));refine Ys5 ?_;intro G1 G2 G3;have G4:=hU g4;clear Ct g1 g2 g3 g4 sg E9 Pp Jy Sc kq tz;go_upto_region 16 with fail;obtain ⟨WA,iz⟩:∃W,W=w9.alloc (.cells (Q0v p A1 c1 A2 c2) 29):=⟨_,rfl⟩;obtain ⟨b20,Po⟩:∃b,b=w9.heap.size:=⟨_,rfl⟩;have K20:=hU (show Blk WA b20 29 (Q0v p A1 c1 A2 c2) by rw [iz,Po];exact Blk.new _ _ _);(have Md:Below w9.heap.size w9 WA:=by rw [iz];exact (Zst _ _).alloc (Zsu _) _);rw [←iz,←Po];have lp:=hU (lp.o.new_ Md);have Oj:=hU (Oj.o.new_ Md);have xj:=hU (Z02 xj.o Md);have G1:=hU (G1.o.new_ Md);have G2:=hU (G2.o.new_ Md);have G3:=hU (G3.o.new_ Md);have Jm:=hU (Jm.o.trans (Md.mono Jm.o.size));have HZA:=hU Md.size;clear iz Po Md;obtain ⟨sg,E9,Pp,Jy,Sc,kq⟩:=Oj.o.c6;have tz:=Oj.o.lt;obtain ⟨p0,p1,p2⟩:=K20.o.c3;have pz:=K20.o.lt;have HT:=hU (show WA.there Oy 0 (#[.int .i64 1,.string p.name,.slice A1 p.conds.length c1,.slice A2 p.acts.length c2,.slice A3 tags.length c3,.slice B1 T.elems.length d1,.slice B2 T.holes.length d2,.slice B3 T.aparts.length d3,.slice B4 T.news.length d4,.int .i64 (T.visited:Nat),.int .i64 (T.lost:Nat)]:Array Value).size from lp.o.there);(go_wp2_with (with_reducible refine wpList_store_mid rfl 38 _ _ rfl Oy 0 #[.int .i64 1,.string p.name,.slice A1 p.conds.length c1,.slice A2 p.acts.length c2,.slice A3 tags.length c3,.slice B1 T.elems.length d1,.slice B2 T.holes.length d2,.slice B3 T.aparts.length d3,.slice B4 T.news.length d4,.int .i64 (T.visited:Nat),.int .i64 (T.lost:Nat)] rfl rfl HT.o Yb Yb ?_));refine Ykv ?_;refine bodyPost_ret (v:=.agg #[.int .i64 1,.string p.name,.slice A1 p.conds.length c1,.slice A2 p.acts.length c2,.slice A3 tags.length c3,.slice B1 T.elems.length d1,.slice B2 T.holes.length d2,.slice B3 T.aparts.length d3,.slice B4 T.news.length d4,.int .i64 (T.visited:Nat),.int .i64 (T.lost:Nat)]) ?_ rfl ?_
        · exact Z1j (t:=14) (T:=38) rfl _ _ Oy [.int .i64 1,.string p.name,.slice A1 p.conds.length c1,.slice A2 p.acts.length c2,.slice A3 tags.length c3,.slice B1 T.elems.length d1,.slice B2 T.holes.length d2,.slice B3 T.aparts.length d3,.slice B4 T.news.length d4,.int .i64 (T.visited:Nat),.int .i64 (T.lost:Nat)] _ rfl (Zsy WA Oy 0 [.int .i64 1,.string p.name,.slice A1 p.conds.length c1,.slice A2 p.acts.length c2,.slice A3 tags.length c3,.slice B1 T.elems.length d1,.slice B2 T.holes.length d2,.slice B3 T.aparts.length d3,.slice B4 T.news.length d4,.int .i64 (T.visited:Nat),.int .i64 (T.lost:Nat)] HT.o) Tryz.underlying38 rfl Yb
        · rw [show Z5c on _ recs lv _=_ from (HMO.o HL0.o).trans (by unfold Za3;rw [if_neg Ux.o,HQY.o])]
          refine ⟨Below.setCells' _ _ Jm.o mg.o,A1,c1,A2,c2,A3,c3,B1,d1,B2,d2,B3,d3,B4,d4,rfl,G1.o.keep YIu (fun k hk hl=>⟨⟨Zt6 Rc.o hk.1,by rw [Z06];exact hl⟩,Z1d _ _ _ _ _ (by have:=hk.1;have:=Ak.o;omega)⟩),G2.o.keep YIu (fun k hk hl=>⟨⟨Zt6 Rc.o hk.1,by rw [Z06];exact hl⟩,Z1d _ _ _ _ _ (by have:=hk.1;have:=Ak.o;omega)⟩),G3.o.keep YIu (fun q hq ⟨a,ha,e⟩=>World.cell?_of_block (Z1d _ _ _ _ _ (by have h1:wc.heap.size≤a.block:=G4.o a ha;have:=Ak.o;omega))),G4.o.mono (fun k hk=>Zt6 Rc.o hk),Z1i xj.o lp.o Yc _ _⟩
   case rest=>
   obtain ⟨S8,af⟩:=hcut;have HQN:=hU af;have lp:=hU (lp.o.new_ S8);have Oj:=hU (Oj.o.new_ S8);have xj:=hU (Z02 xj.o S8);have Jm:=hU (Jm.o.trans (S8.mono Jm.o.size));have Rc:=hU Jm.o.size;have No:=hU (show Z0y wc 14 Z0j.cells B1 d1 T.elems from Z0e Z0j.cells_length xj.o);clear S8 af sg E9 Pp Jy Sc kq tz mv HC0;obtain ⟨sg,E9,Pp,Jy,Sc,kq⟩:=Oj.o.c6;have tz:=Oj.o.lt;go_upto_region 20 with fail;clear sg E9 Pp Jy Sc kq tz
   go_loopw [23,81] (fun vt vi wr=>∃(i:Nat) (tags:List Int) (At:Option Addr) (ct:Nat),vi = .int .i64 (i:Int)∧i≤T.elems.length∧vt = .slice At tags.length ct∧tags=(T.elems.take i).map (fun e=>e.elem.tag)∧wr.ownsRow 0 3 1 (.slice At tags.length ct) tags.length (tags.flatMap Int.cells1)∧AIn At (wc.heap.size≤·)∧Below wc.heap.size wc wr) (fun vt vi wr=>T.elems.length - (intOf vi).toNat)
   case atStart=>exact ⟨0,[],none,0,rfl,Nat.zero_le _,rfl,rfl,⟨Ye,.inl ⟨rfl,rfl⟩⟩,AIn.none_ _,Zst _ _⟩
   case round=>
   obtain ⟨i,tags,At,ct,rfl,hi,rfl,ln,hto,hta,yo⟩:=hrel;have Em:=hU ln;have HTO:=hU hto;have pr:=hU hta;have eq:=hU yo;(have htl:tags.length≤T.elems.length:=by rw [ln,Ztl,Zu3];omega);clear ln hto hta yo;by_cases hlt:i<T.elems.length
   · skip
     obtain ⟨y,hy⟩:∃y,y=T.elems[i]:=⟨_,rfl⟩;have HY:=hU hy;obtain ⟨g,off,Jo,Gb,Gk⟩:=(No.o.new_ eq.o).range hlt;rw [←hy] at Gk;subst Jo;have ly:=hU (show wr.rangeAt g (off+i*14) (Q0g y) from Gk);obtain ⟨W5,wv,Tq,oq,ww,Ew⟩:=Z4b (w:=wr) (t:=52) Q2v (Q0g y) rfl;have o9:=hU wv;have Nw:=hU Tq;have vy:=hU (show Blk W5 wr.heap.size 52 (Q0h y) from Z3m (zs:=Q2v) (vs:=(Q0g y)) rfl wv oq);have Xp:=hU (eq.o.trans (ww.mono eq.o.size));have HTO5:=hU (Z02 HTO.o ww);have j1:(0:Int)≤(i:Int):=Ya;have j2:(i:Int)<(T.elems.length:Int):=Ya;have v1:IntKind.i64.wrap ((i:Int)+1)=(i:Int)+1:=Zt8 _ Ya;clear wv Tq Gk oq hy Gb Ew ww
     go_upto_region 22 with (first
     | (with_reducible refine wpList_load_mid rfl 52 _ rfl g (off+i*14) rfl (Q0g y) _ ly.o Tryz.underlying52 rfl Yb ?_)
     | ((with_reducible refine wpList_store_mid rfl 52 _ _ rfl wr.heap.size 0 (Q0h y) rfl rfl Nw.o Yb Yb ?_);rw [←o9.o]))
     have k11:=(vy.o.cell 11).trans rfl;have kz:=vy.o.lt;obtain ⟨W7,pn⟩:∃W,W=W5.alloc (.cells #[.int .i64 y.elem.tag] 3):=⟨_,rfl⟩;have Me:=hU pn;have Vn:Below W5.heap.size W5 W7:=YF0;have ms:=hU (Xp.o.trans (Vn.mono Xp.o.size));have HTO7:=hU (Z02 HTO5.o Vn);have ii:=hU (show 0<1→∃ad,(some (⟨W5.heap.size,0,none⟩:Addr))=some ad∧∀j u,([y.elem.tag].flatMap Int.cells1)[j]? = some u→W7.cell? (ad.add j)=some u from fun _=>⟨_,rfl,by rw [pn];exact Zte (heap_alloc_new _ _)⟩);clear pn Vn;(go_wp2_with (at_builtin;rw [←Me.o];refine Z0g W7 rfl (.tmp 85) (.tmp 89) 30 rfl 3 i0 _ 1 8 Tryz.underlying30 tm Nc rm Aj rfl Ya (.slice At tags.length ct) tags.length (tags.flatMap Int.cells1) rfl HTO7.o (some ⟨W5.heap.size,0,none⟩) 1 1 ([y.elem.tag].flatMap Int.cells1) rfl rfl ii.o (Z7o _) Yj Ya ?_;intro v3 w9 rn Kg E5 Tt;obtain ⟨A9,c9,rfl,Ui,ha9,Ct⟩:=Zl5 (B:=wc.heap.size) (ys:=[y.elem.tag]) rn Kg Tt pr.o ms.o.size;obtain ⟨ol,I9⟩:∃ol,ol=tags ++ [y.elem.tag]:=⟨_,rfl⟩;rw [←I9] at Ui ⊢;have ji:=hU I9;have HO9:=hU Ui;have av:=hU ha9;have yq:=hU (ms.o.trans Ct);clear rn Kg E5 Tt Ui ha9 Ct I9));go_roundw
     case rel=>exact ⟨i+1,ol,A9,c9,Yn,Ya,rfl,by rw [ji.o,Em.o,Z2a hlt,Ztm,HY.o];rfl,HO9.o,av.o,yq.o⟩
     case measure=>simp [intOf]<;>omega
   · skip
     (obtain rfl:i=T.elems.length:=Ya);have Em:=hU (show tags=T.elems.map (fun e=>e.elem.tag) by rw [Em.o,Ztc]);have lp:=hU (lp.o.new_ eq.o);have Oj:=hU (Oj.o.new_ eq.o);have xj:=hU (Z02 xj.o eq.o);have Jm:=hU (Jm.o.trans (eq.o.mono Jm.o.size));have jz :¬(T.elems.length:Int)<(T.elems.length:Int):=Ya;clear hlt hi;obtain ⟨sg,E9,Pp,Jy,Sc,kq⟩:=Oj.o.c6;have tz:=Oj.o.lt;have HT:=hU (show wr.there Oy 0 (#[.int .i64 2,.string ⟨#[]⟩,.slice none 0 0,.slice none 0 0,.slice At tags.length ct,.slice B1 T.elems.length d1,.slice B2 T.holes.length d2,.slice B3 T.aparts.length d3,.slice B4 T.news.length d4,.int .i64 (T.visited:Nat),.int .i64 (T.lost:Nat)]:Array Value).size from lp.o.there);(go_wp2_with (with_reducible refine wpList_store_mid rfl 38 _ _ rfl Oy 0 #[.int .i64 2,.string ⟨#[]⟩,.slice none 0 0,.slice none 0 0,.slice At tags.length ct,.slice B1 T.elems.length d1,.slice B2 T.holes.length d2,.slice B3 T.aparts.length d3,.slice B4 T.news.length d4,.int .i64 (T.visited:Nat),.int .i64 (T.lost:Nat)] rfl rfl HT.o Yb Yb ?_));refine Ykv ?_;refine bodyPost_ret (v:=.agg #[.int .i64 2,.string ⟨#[]⟩,.slice none 0 0,.slice none 0 0,.slice At tags.length ct,.slice B1 T.elems.length d1,.slice B2 T.holes.length d2,.slice B3 T.aparts.length d3,.slice B4 T.news.length d4,.int .i64 (T.visited:Nat),.int .i64 (T.lost:Nat)]) ?_ rfl ?_
     · exact Z1j (t:=14) (T:=38) rfl _ _ Oy [.int .i64 2,.string ⟨#[]⟩,.slice none 0 0,.slice none 0 0,.slice At tags.length ct,.slice B1 T.elems.length d1,.slice B2 T.holes.length d2,.slice B3 T.aparts.length d3,.slice B4 T.news.length d4,.int .i64 (T.visited:Nat),.int .i64 (T.lost:Nat)] _ rfl (Zsy wr Oy 0 [.int .i64 2,.string ⟨#[]⟩,.slice none 0 0,.slice none 0 0,.slice At tags.length ct,.slice B1 T.elems.length d1,.slice B2 T.holes.length d2,.slice B3 T.aparts.length d3,.slice B4 T.news.length d4,.int .i64 (T.visited:Nat),.int .i64 (T.lost:Nat)] HT.o) Tryz.underlying38 rfl Yb
     · rw [show Z5c on _ recs lv _=_ from (HMO.o HL0.o).trans (by unfold Za3;rw [if_neg Ux.o,HQN.o])]
       refine ⟨Below.setCells' _ _ Jm.o mg.o,none,0,none,0,At,ct,B1,d1,B2,d2,B3,d3,B4,d4,by rw [←Em.o];rfl,RowR.nil _ _ _,RowR.nil _ _ _,by rw [←Em.o];exact Z0e Int.cells1_length (Z1i HTO.o lp.o Yc _ _),pr.o.mono (fun k hk=>Zt6 Rc.o hk),Z1i xj.o lp.o Yc _ _⟩
section
variable {X:World}{bx:Array Value}{nb mb:Nat}{ns:List Sym}{es:List Elem}{AO:Option Addr}{cO:Nat}{vcs:List VCo}{AC:Option Addr}{cC:Nat}{tags:List Int}{At:Option Addr}{ct:Nat}{D:Nat→Prop}
theorem Znu (x:Z1a) (w:World) (h:P3 X bx nb mb ns es AO cO vcs AC cC tags At ct D w) (hl:vcs.length=es.length) (hvl :∀v∈vcs,v.vs.length≤1000) (hn:ns.length≤1000) (hel:es.length≤1000) :
 Calls Tryz.prog 81 #[.pointer (some ⟨mb,0,none⟩),.agg (Q0z x)] w (Zs0 X bx nb mb ns es AO cO vcs AC cC tags At ct D (Z3t ns es x (vcs.map VCo.vs))):=by
 have H:=hU h;have ei:=hU hvl;have nc:=hU hn;have HEL:=hU hel;have xo:=hU hl;clear h hvl hn hel hl;go_enter Tryz.func81,Tryz.ntmps81;go_upto_region 1 with fail;obtain ⟨W1,Wo⟩:∃W,W=w.alloc (.cells (Q0z x) 122):=⟨_,rfl⟩;obtain ⟨b3,Ri⟩:∃b,b=w.heap.size:=⟨_,rfl⟩;have K3:=hU (show Blk W1 b3 122 (Q0z x) from YN6);have jv:=hU (show Below w.heap.size w W1 from Yo);rw [←Wo,←Ri];clear Wo Ri;have HP:=hU (show ∀W,Below W1.heap.size W1 W→P3 X bx nb mb ns es AO cO vcs AC cC tags At ct D W from fun W hW=>H.o.new_ (jv.o.trans (hW.mono jv.o.size)));clear H jv;obtain ⟨la,zj⟩:∃b,b=Z6a ns es x.a:=⟨_,rfl⟩;have Wu:=hU zj;clear zj;obtain ⟨lb,hlb⟩:∃b,b=Z6a ns es x.b:=⟨_,rfl⟩;have Xo:=hU hlb;clear hlb;obtain ⟨oa,hoa⟩:∃b,b=Z4t ns x.a:=⟨_,rfl⟩;have Az:=hU hoa;clear hoa;obtain ⟨ob,hob⟩:∃b,b=Z4t ns x.b:=⟨_,rfl⟩;have ou:=hU hob;clear hob;obtain ⟨sa,Sr⟩:∃b,b=Z5t es x.a:=⟨_,rfl⟩;have Esa:=hU Sr;clear Sr;obtain ⟨sb,hsb⟩:∃b,b=Z5t es x.b:=⟨_,rfl⟩;have Esb:=hU hsb;clear hsb;have Cx:=hU (show ∀W,Below W1.heap.size W1 W→Calls Tryz.prog 106 #[.pointer (some ⟨mb,0,none⟩),.agg (Q1d x.a)] W fun e w'=>e = .returned (.bool la)∧Below W1.heap.size W1 w' from fun W hW=>(Zhl x.a W (HP.o W hW).cs nc.o).mono fun e w' hh=>⟨by rw [Wu.o];exact hh.1,hW.trans (hh.2.mono hW.size)⟩);have HLB:=hU (show ∀W,Below W1.heap.size W1 W→Calls Tryz.prog 106 #[.pointer (some ⟨mb,0,none⟩),.agg (Q1d x.b)] W fun e w'=>e = .returned (.bool lb)∧Below W1.heap.size W1 w' from fun W hW=>(Zhl x.b W (HP.o W hW).cs nc.o).mono fun e w' hh=>⟨by rw [Xo.o];exact hh.1,hW.trans (hh.2.mono hW.size)⟩);have HOA:=hU (show ∀W,Below W1.heap.size W1 W→Calls Tryz.prog 107 #[.pointer (some ⟨mb,0,none⟩),.agg (Q1d x.a)] W fun e w'=>e = .returned (.bool oa)∧Below W1.heap.size W1 w' from fun W hW=>(Zll x.a W (HP.o W hW).cs nc.o).mono fun e w' hh=>⟨by rw [Az.o];exact hh.1,hW.trans (hh.2.mono hW.size)⟩);have HOB:=hU (show ∀W,Below W1.heap.size W1 W→Calls Tryz.prog 107 #[.pointer (some ⟨mb,0,none⟩),.agg (Q1d x.b)] W fun e w'=>e = .returned (.bool ob)∧Below W1.heap.size W1 w' from fun W hW=>(Zll x.b W (HP.o W hW).cs nc.o).mono fun e w' hh=>⟨by rw [ou.o];exact hh.1,hW.trans (hh.2.mono hW.size)⟩);have fg:=hU (show ∀W,Below W1.heap.size W1 W→Calls Tryz.prog 108 #[.pointer (some ⟨mb,0,none⟩),.agg (Q1d x.a)] W fun e w'=>e = .returned (.bool sa)∧Below W1.heap.size W1 w' from fun W hW=>(Zgp x.a W (HP.o W hW).cs).mono fun e w' hh=>⟨by rw [Esa.o];exact hh.1,hW.trans (hh.2.mono hW.size)⟩);have HSB:=hU (show ∀W,Below W1.heap.size W1 W→Calls Tryz.prog 108 #[.pointer (some ⟨mb,0,none⟩),.agg (Q1d x.b)] W fun e w'=>e = .returned (.bool sb)∧Below W1.heap.size W1 w' from fun W hW=>(Zgp x.b W (HP.o W hW).cs).mono fun e w' hh=>⟨by rw [Esb.o];exact hh.1,hW.trans (hh.2.mono hW.size)⟩);have HB:=hU (Zst W1.heap.size W1)
 have HLP:=HB.o;clear HLP;refine Y7w ?_;intro x0 x1 x2 x3 x4 x5 x6 xz;obtain ⟨c1,Al⟩:∃c,c=(decide (x.rel=7) && (la && ob ||lb && oa)):=⟨_,rfl⟩;have C1:=hU Al;clear Al;obtain ⟨v1,Ey⟩:∃v,v=Value.agg (Q0z x):=⟨_,rfl⟩;rw [←Ey];clear Ey
 go_cut [5] from 6 to 110 (fun v W=>v = .bool c1∧Below W1.heap.size W1 W)
 case first=>
  by_cases h7:x.rel=7
  case neg=>
   (have t7:(x.rel == 7)=false:=by simpa using h7);go_wp2_with fail;go_meet
   case rel=>exact ⟨by rw [C1.o,Zsx h7];rfl,HB.o⟩
  (have t7:(x.rel == 7)=true:=by simp [h7]);cases la<;>cases ob<;>cases lb<;>cases oa
  all_goals
   (go_wp2_with (first|((with_reducible refine (Cx.o _ HB.o).mono ?_);rintro e V ⟨rfl,hb⟩;clear x0 x1 x2 x3 x4 x5 x6 xz HB;have HB:=hU hb;clear hb;obtain ⟨x0,x1,x2,x3,x4,x5,x6⟩:=(K3.o.new_ HB.o).c7;have xz:=(K3.o.new_ HB.o).lt)|((with_reducible refine (HLB.o _ HB.o).mono ?_);rintro e V ⟨rfl,hb⟩;clear x0 x1 x2 x3 x4 x5 x6 xz HB;have HB:=hU hb;clear hb;obtain ⟨x0,x1,x2,x3,x4,x5,x6⟩:=(K3.o.new_ HB.o).c7;have xz:=(K3.o.new_ HB.o).lt)|((with_reducible refine (HOA.o _ HB.o).mono ?_);rintro e V ⟨rfl,hb⟩;clear x0 x1 x2 x3 x4 x5 x6 xz HB;have HB:=hU hb;clear hb;obtain ⟨x0,x1,x2,x3,x4,x5,x6⟩:=(K3.o.new_ HB.o).c7;have xz:=(K3.o.new_ HB.o).lt)|((with_reducible refine (HOB.o _ HB.o).mono ?_);rintro e V ⟨rfl,hb⟩;clear x0 x1 x2 x3 x4 x5 x6 xz HB;have HB:=hU hb;clear hb;obtain ⟨x0,x1,x2,x3,x4,x5,x6⟩:=(K3.o.new_ HB.o).c7;have xz:=(K3.o.new_ HB.o).lt)));go_meet
   case rel=>exact ⟨by rw [C1.o,Zt9 h7];rfl,HB.o⟩
 case rest=>
  obtain ⟨rfl,wi⟩:=hcut;clear x0 x1 x2 x3 x4 x5 x6 xz HB;have HB:=hU wi;obtain ⟨V,hV⟩:∃V,V=wc:=⟨_,rfl⟩;rw [←hV] at HB ⊢;clear hV wi wc;refine Y7w ?_;intro x0 x1 x2 x3 x4 x5 x6 xz;cases c1
  case true=>
   have HE:=hU (show Z3t ns es x (vcs.map VCo.vs)=none by
    have h1:=C1.o;rw [Wu.o,Xo.o,Az.o,ou.o] at h1;unfold Z3t
    rw [if_pos (by simpa using h1.symm)])
   go_wp2_with fail;go_ret;rw [HE.o];exact And.intro rfl (HP.o _ HB.o)
  have N1:=hU (show ¬(x.rel=7∧(Z6a ns es x.a=true∧Z4t ns x.b=true∨Z6a ns es x.b=true∧Z4t ns x.a=true)) by
   have h1:=C1.o;rw [Wu.o,Xo.o,Az.o,ou.o] at h1;intro hc;have h2:(decide (x.rel=7) && (Z6a ns es x.a && Z4t ns x.b ||Z6a ns es x.b && Z4t ns x.a))=true:=YRq;rw [h2] at h1
   cases h1)
  clear C1;obtain ⟨c2,Kz⟩:∃c,c=(oa ||ob):=⟨_,rfl⟩;have C2:=hU Kz;clear Kz;go_upto_region 3 with fail
  go_cut [33] from 34 to 110 (fun v W=>v = .bool c2∧Below W1.heap.size W1 W)
  case first=>
   cases oa<;>cases ob
   all_goals
    (go_wp2_with (first|((with_reducible refine (HOA.o _ HB.o).mono ?_);rintro e V ⟨rfl,hb⟩;clear x0 x1 x2 x3 x4 x5 x6 xz HB;have HB:=hU hb;clear hb;obtain ⟨x0,x1,x2,x3,x4,x5,x6⟩:=(K3.o.new_ HB.o).c7;have xz:=(K3.o.new_ HB.o).lt)|((with_reducible refine (HOB.o _ HB.o).mono ?_);rintro e V ⟨rfl,hb⟩;clear x0 x1 x2 x3 x4 x5 x6 xz HB;have HB:=hU hb;clear hb;obtain ⟨x0,x1,x2,x3,x4,x5,x6⟩:=(K3.o.new_ HB.o).c7;have xz:=(K3.o.new_ HB.o).lt)));go_meet
    case rel=>exact ⟨by rw [C2.o];rfl,HB.o⟩
  case rest=>
   obtain ⟨rfl,wi⟩:=hcut;clear x0 x1 x2 x3 x4 x5 x6 xz HB;have HB:=hU wi;obtain ⟨V,hV⟩:∃V,V=wc:=⟨_,rfl⟩;rw [←hV] at HB ⊢;clear hV wi wc;refine Y7w ?_;intro x0 x1 x2 x3 x4 x5 x6 xz;cases c2
   case true=>
    have HQ:=hU (show Z4t ns x.a=true∨Z4t ns x.b=true by
     have h1:=C2.o;rw [Az.o,ou.o] at h1
     simpa using h1.symm)
    have HE:=hU (show Z3t ns es x (vcs.map VCo.vs)=some (vcs.map VCo.vs) by rw [Z3t,if_neg N1.o,if_pos HQ.o]);exact Ylt
   have N2:=hU (show ¬(Z4t ns x.a=true∨Z4t ns x.b=true) by
    have h1:=C2.o;rw [Az.o,ou.o] at h1
    simpa using h1.symm)
   clear C2;obtain ⟨c3,Nn⟩:∃c,c=(decide (x.a.kind=1) && decide (x.b.kind=1)):=⟨_,rfl⟩;have C3:=hU Nn;clear Nn;go_upto_region 5 with fail
   go_cut [44] from 45 to 110 (fun v W=>v = .bool c3∧Below W1.heap.size W1 W)
   case first=>
    by_cases ha:x.a.kind=1
    case neg=>
     (have ta:(x.a.kind == 1)=false:=by simpa using ha);go_wp2_with fail;go_meet
     case rel=>exact ⟨by rw [C3.o,Zsx ha];rfl,HB.o⟩
    by_cases hb:x.b.kind=1
    case neg=>
     have tb:(x.b.kind == 1)=false:=YB3;go_wp2_with fail;go_meet
     case rel=>exact ⟨by rw [C3.o,Zt9 ha,Zsx hb];rfl,HB.o⟩
    have C3:=hU (show c3=true by rw [C3.o,Zt9 ha,Zt9 hb];rfl);go_wp2_with fail;go_meet
    case rel=>exact ⟨by rw [C3.o],HB.o⟩
   case rest=>
    obtain ⟨rfl,wi⟩:=hcut;clear x0 x1 x2 x3 x4 x5 x6 xz HB;have HB:=hU wi;obtain ⟨V,hV⟩:∃V,V=wc:=⟨_,rfl⟩;rw [←hV] at HB ⊢;clear hV wi wc;refine Y7w ?_;intro x0 x1 x2 x3 x4 x5 x6 xz;cases c3
    case true=>
     have Q3:=hU (show x.a.kind=1∧x.b.kind=1 by simpa using C3.o.symm);clear C3;obtain ⟨c4,Lq⟩:∃c,c=(decide (x.a=x.b) ||(!decide (x.rel=2) && (!decide (x.rel=7) ||(sa && sb)))):=⟨_,rfl⟩;have C4:=hU Lq;clear Lq;have Fo:=Z5y x.a x.b;go_upto_region 6 with fail
     go_cut [81] from 55 to 110 (fun v W=>v = .bool c4∧Below W1.heap.size W1 W)
     case first=>
      obtain ⟨d,hd⟩:∃d,d=decide (x.a=x.b):=⟨_,rfl⟩;rw [←hd] at Fo;have Ws:=hU (show c4=(d ||(!decide (x.rel=2) && (!decide (x.rel=7) ||(sa && sb)))) by rw [hd];exact C4.o);clear hd C4;cases d
      case true=>
       go_wp2_with fail;go_meet
       case rel=>exact ⟨by rw [Ws.o];rfl,HB.o⟩
      by_cases h2:x.rel=2
      case pos=>
       (have t2:(x.rel == 2)=true:=by simp [h2]);go_wp2_with fail;go_meet
       case rel=>exact ⟨by rw [Ws.o,Zt9 h2];rfl,HB.o⟩
      have t2:(x.rel == 2)=false:=YT7;have Vr:(x.rel != 2)=true:=YT7;by_cases h7:x.rel=7
      case neg=>
       (have t7:(x.rel == 7)=false:=by simpa using h7);(have t7n:(x.rel != 7)=true:=by simpa using h7);go_wp2_with fail;go_meet
       case rel=>exact ⟨by rw [Ws.o,Zsx h2,Zsx h7];rfl,HB.o⟩
      (have t7:(x.rel == 7)=true:=by simp [h7]);cases sa<;>cases sb
      all_goals
       (go_wp2_with (first|((with_reducible refine (fg.o _ HB.o).mono ?_);rintro e V ⟨rfl,hb⟩;clear x0 x1 x2 x3 x4 x5 x6 xz HB;have HB:=hU hb;clear hb;obtain ⟨x0,x1,x2,x3,x4,x5,x6⟩:=(K3.o.new_ HB.o).c7;have xz:=(K3.o.new_ HB.o).lt)|((with_reducible refine (HSB.o _ HB.o).mono ?_);rintro e V ⟨rfl,hb⟩;clear x0 x1 x2 x3 x4 x5 x6 xz HB;have HB:=hU hb;clear hb;obtain ⟨x0,x1,x2,x3,x4,x5,x6⟩:=(K3.o.new_ HB.o).c7;have xz:=(K3.o.new_ HB.o).lt)));go_meet
       case rel=>exact ⟨by rw [Ws.o,Zsx h2,Zt9 h7];rfl,HB.o⟩
     case rest=>
      obtain ⟨rfl,wi⟩:=hcut;clear x0 x1 x2 x3 x4 x5 x6 xz HB;have HB:=hU wi;obtain ⟨V,hV⟩:∃V,V=wc:=⟨_,rfl⟩;rw [←hV] at HB ⊢;clear hV wi wc;refine Y7w ?_;intro x0 x1 x2 x3 x4 x5 x6 xz;clear Fo;have h4:=C4.o;rw [Esa.o,Esb.o] at h4;cases c4
      case true=>
       have HQ:=hU (show x.a=x.b∨x.rel≠2∧(x.rel≠7∨Z5t es x.a=true∧Z5t es x.b=true) by simpa using h4.symm);clear h4;have HE:=hU (show Z3t ns es x (vcs.map VCo.vs)=some (vcs.map VCo.vs) by rw [Z3t,if_neg N1.o,if_neg N2.o,if_pos Q3.o,if_pos HQ.o]);exact Ylt
      have HQ:=hU (show ¬(x.a=x.b∨x.rel≠2∧(x.rel≠7∨Z5t es x.a=true∧Z5t es x.b=true)) by
       intro hc;have h2:(decide (x.a=x.b) ||(!decide (x.rel=2) && (!decide (x.rel=7) ||(Z5t es x.a && Z5t es x.b))))=true:=YRq;rw [h2] at h4
       cases h4)
      clear h4;have HTW:=Zsg x V (HP.o _ HB.o) xo.o ei.o nc.o HEL.o;obtain ⟨r,hr⟩:∃r,r=twoV ns es x (vcs.map VCo.vs):=⟨_,rfl⟩;rw [←hr] at HTW;have HE:=hU (show Z3t ns es x (vcs.map VCo.vs)=r by rw [Z3t,if_neg N1.o,if_neg N2.o,if_pos Q3.o,if_neg HQ.o,hr]);have HTW:=hU HTW;clear hr;go_wp2_with fail;refine HTW.o.mono ?_;intro e w2 hh
      cases r with
      | none=>
        obtain ⟨rfl,hp⟩:=(show e = .returned (.bool false)∧P3 X bx nb mb ns es AO cO vcs AC cC tags At ct D w2 from hh);exact Ye5
      | some vss=>
        obtain ⟨rfl,hp⟩:=(show e = .returned (.bool true)∧Zf4 X bx nb mb ns es AO cO vcs AC cC tags At ct D vss w2 from hh);exact Ye5
    have N3:=hU (show ¬(x.a.kind=1∧x.b.kind=1) by
     intro hc;have h1:=C3.o;rw [Zt9 hc.1,Zt9 hc.2] at h1
     cases h1)
    clear C3;by_cases h2:x.rel=2
    case neg=>
     have t2:(x.rel == 2)=false:=YT7;have Vr:(x.rel != 2)=true:=YT7;have HE:=hU (show Z3t ns es x (vcs.map VCo.vs)=some (vcs.map VCo.vs) by rw [Z3t,if_neg N1.o,if_neg N2.o,if_neg N3.o,if_pos h2]);exact Ylt
    have Dj:=hU (show Z3t ns es x (vcs.map VCo.vs)=if la=true then some (oneV es x.a x.b (vcs.map VCo.vs)) else if lb=true then some (oneV es x.b x.a (vcs.map VCo.vs)) else some (vcs.map VCo.vs) by rw [Z3t,if_neg N1.o,if_neg N2.o,if_neg N3.o,if_neg (fun hc=>hc h2),Wu.o,Xo.o]);have El:=hU (show ∀W,Below W1.heap.size W1 W→_ from fun W hW=>Zq2 x.a x.b W (HP.o W hW) xo.o ei.o);have j6:=hU (show ∀W,Below W1.heap.size W1 W→_ from fun W hW=>Zq2 x.b x.a W (HP.o W hW) xo.o ei.o);(have t2:(x.rel == 2)=true:=by simp [h2]);cases la
    case true=>
     (go_wp2_with (first|((with_reducible refine (Cx.o _ HB.o).mono ?_);rintro e V ⟨rfl,hb⟩;clear x0 x1 x2 x3 x4 x5 x6 xz HB;have HB:=hU hb;clear hb;obtain ⟨x0,x1,x2,x3,x4,x5,x6⟩:=(K3.o.new_ HB.o).c7;have xz:=(K3.o.new_ HB.o).lt)));refine (El.o _ HB.o).mono ?_;exact Y5o
    cases lb
    case true=>
     (go_wp2_with (first|((with_reducible refine (Cx.o _ HB.o).mono ?_);rintro e V ⟨rfl,hb⟩;clear x0 x1 x2 x3 x4 x5 x6 xz HB;have HB:=hU hb;clear hb;obtain ⟨x0,x1,x2,x3,x4,x5,x6⟩:=(K3.o.new_ HB.o).c7;have xz:=(K3.o.new_ HB.o).lt)|((with_reducible refine (HLB.o _ HB.o).mono ?_);rintro e V ⟨rfl,hb⟩;clear x0 x1 x2 x3 x4 x5 x6 xz HB;have HB:=hU hb;clear hb;obtain ⟨x0,x1,x2,x3,x4,x5,x6⟩:=(K3.o.new_ HB.o).c7;have xz:=(K3.o.new_ HB.o).lt)));refine (j6.o _ HB.o).mono ?_;exact Y5o
    (go_wp2_with (first|((with_reducible refine (Cx.o _ HB.o).mono ?_);rintro e V ⟨rfl,hb⟩;clear x0 x1 x2 x3 x4 x5 x6 xz HB;have HB:=hU hb;clear hb;obtain ⟨x0,x1,x2,x3,x4,x5,x6⟩:=(K3.o.new_ HB.o).c7;have xz:=(K3.o.new_ HB.o).lt)|((with_reducible refine (HLB.o _ HB.o).mono ?_);rintro e V ⟨rfl,hb⟩;clear x0 x1 x2 x3 x4 x5 x6 xz HB;have HB:=hU hb;clear hb;obtain ⟨x0,x1,x2,x3,x4,x5,x6⟩:=(K3.o.new_ HB.o).c7;have xz:=(K3.o.new_ HB.o).lt)));go_ret;rw [Dj.o];exact And.intro rfl ⟨vcs,HP.o _ HB.o,rfl,rfl⟩
end
end
end Go.Proofs.YtcnnofgaifcgaaaGreat
