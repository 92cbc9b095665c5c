/-
  Texts put together: PutPgR, MiscPgR, NewPgR, BkMapPgR, BkAllPgR, FindPgT, IterPgT, OpsPgT, ListPgT, PutPgT, MiscPgT.
-/
import Derived.Test.YtcnnofgaifcgaaaGreatPTl
namespace Go.Proofs.YtcnnofgaifcgaaaGreat
set_option maxRecDepth 100000
set_option maxHeartbeats 32000000
set_option linter.unusedSimpArgs false
section
open Go.RowKit
def Z8j (w:World) (b:Nat) (sn:Bool) (A:Option Addr) (l:List PgR) (x:PgR) (e:Ending) (w':World):Prop:=
 e = .returned (.bool (!has Z1k l x))∧∃sn' A' c',Z34 w' b sn' A' c' (put Z1k l x)∧Fr (Z0w b sn A) w w'∧Z1w w sn A sn' A'
theorem Zci (b c:Nat) (sn:Bool) (A:Option Addr) (l:List PgR) (x:PgR) (w:World) (hS:Z34 w b sn A c l) (hs:Srt Z1k l) (hl:(l.length:Int)≤100000000) (hh:has Z1k l x=true) :
 Calls Tryz.prog 63 #[.pointer (some ⟨b,0,none⟩),.agg (Q0d x)] w (Z8j w b sn A l x):=by
 have HS:=hU hS;have HO:=hU hs;clear hS hs;go_enter Tryz.func63,Tryz.ntmps63;go_wp2_with fail;refine (Zbv b c sn A l x _ (HS.o.new_ ((Zst _ _).alloc (Zsu _) _)) HO.o Ya).mono ?_;exact Yhn
theorem Zgd (b c:Nat) (sn:Bool) (A:Option Addr) (l:List PgR) (x:PgR) (w:World) (hS:Z34 w b sn A c l) (hs:Srt Z1k l) (hl:(l.length:Int)≤100000000) (hh:has Z1k l x=false) :
 Calls Tryz.prog 63 #[.pointer (some ⟨b,0,none⟩),.agg (Q0d x)] w (Z8j w b sn A l x):=by
 obtain ⟨i0,hi,Nc,rm,Aj⟩:=info_parts Zhf;refine Yc5 ?_;intro HS HO hb;clear hS hs;have iu:=Z62 (cmp:=Z1k) l x;go_enter Tryz.func63,Tryz.ntmps63;go_wp2_with fail;have Gd:=HS.o.new_ ((Zst w.heap.size w).alloc (Zsu _) (.cells (Q0d x) 136));have fm:=hU Gd;clear Gd;refine (Zbv b c sn A l x _ fm.o HO.o Ya).mono ?_;refine Ytf ?_;intro w1 Pk M2 hsz1;have y0:=(Pk.cell (p:=⟨w.heap.size,0,none⟩) Ye).trans ((Blk.new w 136 (Q0d x)).cell 0);have y1:=(Pk.cell (p:=⟨w.heap.size,1,none⟩) Ye).trans ((Blk.new w 136 (Q0d x)).cell 1);have y2:=(Pk.cell (p:=⟨w.heap.size,2,none⟩) Ye).trans ((Blk.new w 136 (Q0d x)).cell 2);have y3:=(Pk.cell (p:=⟨w.heap.size,3,none⟩) Ye).trans ((Blk.new w 136 (Q0d x)).cell 3);have y4:=(Pk.cell (p:=⟨w.heap.size,4,none⟩) Ye).trans ((Blk.new w 136 (Q0d x)).cell 4);have y5:=(Pk.cell (p:=⟨w.heap.size,5,none⟩) Ye).trans ((Blk.new w 136 (Q0d x)).cell 5);have y6:=(Pk.cell (p:=⟨w.heap.size,6,none⟩) Ye).trans ((Blk.new w 136 (Q0d x)).cell 6);have Nk:=hU Pk;clear Pk;go_wp2_with fail;refine (Zrc b c sn A l _ M2.o Ya).mono ?_;refine Yet ?_;intro w2 A1 c1 F7 Td Uz hsz2;refine Yp2 ?_;intro x0;have x1:w2.cell? ⟨w.heap.size,1,none⟩=some (.int .i64 x.num):=(Td.cell (p:=⟨w.heap.size,1,none⟩) Yg Yg).trans y1;have x2:w2.cell? ⟨w.heap.size,2,none⟩=some (.int .i64 x.level):=(Td.cell (p:=⟨w.heap.size,2,none⟩) Yg Yg).trans y2;have x3:w2.cell? ⟨w.heap.size,3,none⟩=some (.slice x.elems.A x.elems.n x.elems.c):=(Td.cell (p:=⟨w.heap.size,3,none⟩) Yg Yg).trans y3;have x4:w2.cell? ⟨w.heap.size,4,none⟩=some (.slice x.holes.A x.holes.n x.holes.c):=(Td.cell (p:=⟨w.heap.size,4,none⟩) Yg Yg).trans y4;have x5:w2.cell? ⟨w.heap.size,5,none⟩=some (.slice x.aparts.A x.aparts.n x.aparts.c):=(Td.cell (p:=⟨w.heap.size,5,none⟩) Yg Yg).trans y5;have x6:w2.cell? ⟨w.heap.size,6,none⟩=some (.slice x.news.A x.news.n x.news.c):=(Td.cell (p:=⟨w.heap.size,6,none⟩) Yg Yg).trans y6;refine Y11 ?_;intro s0 f0 hb2 L5 fk qq Vy;clear F7 Td Uz y0 y1 y2 y3 y4 y5 y6;go_wp2_with fail;refine Z03 (fun w9=>Below w2.heap.size w2 w9) [(0,0),(1,0),(2,0),(3,0),(4,1),(5,1),(6,2),(7,2),(8,0),(9,0),(10,2)] Yb Yb (fun KK hKK=>?_);refine Yg8 ?_;intro K9 hK9
 refine Z0l _ Yd _ _ _ Yd 136 i0 _ 7 120 Tryz.underlying198 hi Nc rm Aj rfl Ya _ l.length (l.flatMap PgR.cells) Yd (Z02 fk.o.row (((Zst _ _).drew).alloc (Zsu _) _)) (some ⟨w2.heap.size,0,none⟩) 1 1 (PgR.cells x) Yd Yd
  (fun _=>⟨_,rfl,Zte (heap_alloc_new _ _)⟩) (PgR.one x) Yj Ya ?_
 intro v2 w3 Od Cf Si Xd;refine Y8n ?_;clear hK9 K9
 obtain ⟨g,c2,rfl⟩:∃g c2,v2 = .slice (some ⟨g,0,none⟩) (l.length+1) c2:=by
  exact Yrs
 have uw:(Value.slice A1 l.length c1).ownBlock≠some w.heap.size:=by
  exact Y9b
 have pm:=(fk.o.blk.drew.alloc (.cells (Q0d x) 136)).grown Cf (Z01 fk.o.row fk.o.blk Yc);refine Yq7 ?_;intro c0 z0 Ue ss yr;clear pm Od Cf;refine Ybt ?_;refine Y1l ?_;clear hKK KK;refine Y4c ?_;intro hlg
 have hG:(Z0w b sn A g∨w.heap.size≤g)∧Z1w w sn A false (some ⟨g,0,none⟩)∧g≠w.heap.size∧g≠b:=by
  exact Y1k
 obtain ⟨Cr,C5,Lu,Dg⟩:=hG;refine Yp0 ?_;intro w4 N8;have Ll:Blk w4 b 200 #[.slice (some ⟨g,0,none⟩) (l.length+1) c2,.bool false]:=YDu
 have jy:w4.ownsRow 0 136 7 (.slice (some ⟨g,0,none⟩) (l.length+1) c2) (l.length+1) ((Z0k l x l.length).flatMap PgR.cells):=by
  exact Yei
 have uc:Fr (Z0w b sn A) w w4:=by
  exact Yh8
 have z0:w4.cell? ⟨w.heap.size,0,none⟩=some (.int .i64 x.kk):=by
  exact Y07
 have z1:w4.cell? ⟨w.heap.size,1,none⟩=some (.int .i64 x.num):=by
  exact Ysn
 have z2:w4.cell? ⟨w.heap.size,2,none⟩=some (.int .i64 x.level):=by
  exact Yoh
 have z3:w4.cell? ⟨w.heap.size,3,none⟩=some (.slice x.elems.A x.elems.n x.elems.c):=by
  exact Yx0
 have z4:w4.cell? ⟨w.heap.size,4,none⟩=some (.slice x.holes.A x.holes.n x.holes.c):=by
  exact Y48
 have z5:w4.cell? ⟨w.heap.size,5,none⟩=some (.slice x.aparts.A x.aparts.n x.aparts.c):=by
  exact Yhz
 have z6:w4.cell? ⟨w.heap.size,6,none⟩=some (.slice x.news.A x.news.n x.news.c):=by
  exact Y2d
 refine Yn7 ?_;intro Ku;intro sk Kw Ni pq ae s4 E7;clear s4 N8 Ll jy uc Xd Cr C5 Si x0 x1 x2 x3 x4 x5 x6 s0 f0;go_wp2_with fail
 go_loopw [7] (fun s wr=>∃i:Nat,s = .int .i64 i∧rank Z1k l x≤i∧i≤l.length∧wr.ownsRow 0 136 7 (.slice (some ⟨g,0,none⟩) (l.length+1) c2) (l.length+1) ((Z0k l x i).flatMap PgR.cells)∧Fr (· = g) w4 wr) (fun s wr=>(intOf s).toNat)
 case atStart=>exact ⟨l.length,Yn,iu,Zsu _,pq.o,Fr.refl _ _⟩
 case round=>
  obtain ⟨i,rfl,hi1,ul,Od,zp⟩:=hrel;refine Yul ?_;intro hgw r0 fz Cj Is;clear Od zp;by_cases hlt:rank Z1k l x<i
  · obtain ⟨j,rfl⟩:∃j,i=j+1:=⟨i - 1,Ya⟩
    have hj:j<l.length:=Ya;have Xm:=Z0e (A:=some ⟨g,0,none⟩) (c:=c2) (l:=Z0k l x (j+1)) PgR.cells_length YCh;obtain ⟨g',o',Pm,_,R9⟩:=Xm.at_ (k:=j) Yu;injection Pm with Pm;injection Pm with hg1 hg2;subst hg1;subst hg2;rw [Z2n l x hj] at R9;have q0:wr.cell? ⟨g,j*7,none⟩=some (.int .i64 l[j].kk):=Yq;have q1:wr.cell? ⟨g,j*7+1,none⟩=some (.int .i64 l[j].num):=YO5;have q2:wr.cell? ⟨g,j*7+2,none⟩=some (.int .i64 l[j].level):=YFu;have q3:wr.cell? ⟨g,j*7+3,none⟩=some (.slice l[j].elems.A l[j].elems.n l[j].elems.c):=YKg;have q4:wr.cell? ⟨g,j*7+4,none⟩=some (.slice l[j].holes.A l[j].holes.n l[j].holes.c):=YI7;have q5:wr.cell? ⟨g,j*7+5,none⟩=some (.slice l[j].aparts.A l[j].aparts.n l[j].aparts.c):=YU1;have q6:wr.cell? ⟨g,j*7+6,none⟩=some (.slice l[j].news.A l[j].news.n l[j].news.c):=YTq
    have rmj:Room wr g 136 (c2*7)∧l.length+1≤c2:=by
     exact Yty
    obtain ⟨zm,re⟩:=rmj;refine Yqp ?_;intro b0 b1 b4 b2 b3 w1 w2;have u9:=hU zm;clear R9 Xm zm;refine Yay ?_;intro y hy;rw [←hy] at q0 q1 q2 q3 q4 q5 q6;refine Ybq ?_;intro HY U9;clear hy;go_wp2_with fail;refine Z03 (fun w9=>Below wr.heap.size wr w9) [(0,0),(1,0),(2,0),(3,1),(4,0),(5,0),(6,0),(7,0),(8,1),(9,0),(10,0),(11,0),(12,1),(13,0),(14,2)] Yb Yb (fun KK hKK=>?_);refine Ybp ?_;refine Z1m Yb (fun K9 hK9=>?_);refine Z0h rfl 136 (.tmp 53) (.tmp 52) rfl g ((j+1)*7) (Q0d y) Yd Yd (Room.there (w:=wr.drew) u9.o.drew Yk) Yb (all_oneCell_toArray (cs:=PgR.cells y) (PgR.one y)) ?_;refine Y8n ?_;clear hK9 K9;refine Yf0 ?_;clear hKK KK;go_wp2_with fail;go_roundw
    case rel=>
     refine ⟨j,Yn,Ya,Ya,?_,Fr.setCells _ _ (Fr.drew Is.o) (.inl rfl)⟩;have Ss:=Z37 PgR.cells_length Ya (show wr.drew.ownsRow 0 136 7 (.slice (some ⟨g,0,none⟩) (l.length+1) c2) (l.length+1) ((Z0k l x (j+1)).flatMap PgR.cells) from Cj.o) (j+1) Yu y;exact Ykc
    case measure=>simp [intOf]<;>omega
  · obtain rfl:i=rank Z1k l x:=by omega
    have rmj:Room wr g 136 (c2*7)∧l.length+1≤c2:=by
     exact Yty
    obtain ⟨zm,re⟩:=rmj;obtain ⟨k,hk⟩:∃k,k=rank Z1k l x:=⟨_,rfl⟩;rw [←hk] at ul hlt ⊢;refine Yr2 ?_;intro x0 x1 x2;refine Ymn ?_;intro x3 x4 x5 x6;refine Ya8 ?_;intro b1 b2 HK hkw U9;have u9:=hU zm;clear zm hk z0 z1 z2 z3 z4 z5 z6;go_wp2_with fail;refine Z03 (fun w9=>Below wr.heap.size wr w9) [(0,0),(1,0),(2,0),(3,1),(4,0),(5,1),(6,0),(7,2)] Yb Yb (fun KK hKK=>?_);refine Ybp ?_;refine Z1m Yb (fun K9 hK9=>?_);refine Z0h rfl 136 (.tmp 60) (.tmp 59) rfl g (k*7) (Q0d x) Yd Yd (Room.there (w:=wr.drew) u9.o.drew Yk) Yb (all_oneCell_toArray (cs:=PgR.cells x) (PgR.one x)) ?_;refine Y8n ?_;clear hK9 K9;refine Yf0 ?_;clear hKK KK;go_wp2_with fail;go_ret;have uy:=Cj.o;rw [←HK.o] at uy;have Ss:=Z37 PgR.cells_length Ya (show wr.drew.ownsRow 0 136 7 (.slice (some ⟨g,0,none⟩) (l.length+1) c2) (l.length+1) ((Z0k l x k).flatMap PgR.cells) from uy) k Yu x;(have e9:(Z0k l x k).set k x=put Z1k l x:=by rw [Z3b l x ul,Z6b Z6w HO.o hh,HK.o]);rw [e9] at Ss;have ju:=Z2y Z6w HO.o hh;exact Yrf
theorem Zmj (b c:Nat) (sn:Bool) (A:Option Addr) (l:List PgR) (x:PgR) (w:World) (hS:Z34 w b sn A c l) (hs:Srt Z1k l) (hl:(l.length:Int)≤100000000) :
 Calls Tryz.prog 63 #[.pointer (some ⟨b,0,none⟩),.agg (Q0d x)] w (Z8j w b sn A l x):=by
 cases hh:has Z1k l x
 · exact Zgd b c sn A l x w hS hs hl hh
 · exact Zci b c sn A l x w hS hs hl hh
theorem Zr2 (b c:Nat) (sn:Bool) (A:Option Addr) (l:List PgR) (w:World) (hS:Z34 w b sn A c l) :
 Calls Tryz.prog 65 #[.pointer (some ⟨b,0,none⟩)] w fun e w'=>e = .returned (.int .i64 l.length)∧w=w':=by
 have s0:=hS.cell0;clear hS;go_enter Tryz.func65,Tryz.ntmps65;go_wp2;go_ret;exact ⟨rfl,rfl⟩
theorem Zio (b c:Nat) (sn:Bool) (A:Option Addr) (l:List PgR) (x:PgR) (w:World) (hS:Z34 w b sn A c l) (hs:Srt Z1k l) (hl:(l.length:Int)≤1000000000) (hh:has Z1k l x=false) :
 Calls Tryz.prog 61 #[.pointer (some ⟨b,0,none⟩),.agg (Q0d x)] w fun e w'=>e = .returned (.tuple #[.agg Q2r,.bool false])∧Below w.heap.size w w':=by
 have HS:=hU hS;have HO:=hU hs;clear hS hs;go_enter Tryz.func61,Tryz.ntmps61;go_wp2_with fail;obtain ⟨W,hW⟩:∃W,W=((w.alloc (.cells (Q0d x) 136)).alloc (.cells Q2r 136)).alloc (.cells Q2r 136):=⟨_,rfl⟩
 have hR:Blk W (w.heap.size+1) 136 Q2r:=by
  rw [hW];have:=(Blk.new (w.alloc (.cells (Q0d x) 136)) 136 Q2r).alloc (.cells Q2r 136);exact Yuu
 have hZ:Blk W (w.heap.size+1+1) 136 Q2r:=by
  rw [hW];have:=Blk.new ((w.alloc (.cells (Q0d x) 136)).alloc (.cells Q2r 136)) 136 Q2r;exact Yuu
 have Lg:Below w.heap.size w W:=YPh;rw [←hW];clear hW;refine (Zbv b c sn A l x _ (HS.o.new_ Lg) HO.o Ya).mono ?_;rintro e w1 ⟨rfl,Pk⟩;have HR:=hU (hR.new_ Pk);have HZ:=hU (hZ.new_ Pk);have HB:=hU (Lg.trans (Pk.mono Lg.size));have hrl:=(hR.new_ Pk).lt;clear Pk Lg hR hZ;(go_wp2_with (first|(with_reducible refine wpList_load_mid rfl 136 _ rfl (w.heap.size+1+1) 0 rfl Q2s _ HZ.o.range Tryz.underlying136 rfl Yb ?_)|(with_reducible refine wpList_store_mid rfl 136 _ _ rfl (w.heap.size+1) 0 Q2r rfl rfl HR.o.there Yb Yb ?_)));refine Ykv ?_;refine bodyPost_ret (v:=.tuple #[.agg Q2r,.bool false]) ?_ rfl ⟨rfl,Below.setCells' _ _ HB.o Ya⟩;exact Z0n (t:=4) (s:=5) (T:=136) rfl _ _ (w.heap.size+1) Q2s _ rfl (Zsy w1 (w.heap.size+1) 0 Q2s HR.o.there) Tryz.underlying136 rfl Yb
def Zi1 (w:World) (xs:List PgR) (e:Ending) (w':World):Prop:=
 ∃k,e = .returned (.pointer (some ⟨k,0,none⟩))∧w.heap.size≤k∧∃sn A c,Z34 w' k sn A c (puts Z1k [] xs)∧AIn A (w.heap.size≤·)∧Below w.heap.size w w'
theorem Zr6 (A:Option Addr) (c:Nat) (xs:List PgR) (w:World) (hrd:Z0y w 7 PgR.cells A c xs) (hl:(xs.length:Int)≤10000000) :
 Calls Tryz.prog 58 #[.slice A xs.length c] w (Zi1 w xs):=by
 have Ww:=hU hrd;clear hrd;go_enter Tryz.func58,Tryz.ntmps58;go_wp2_with fail;obtain ⟨W0,rp⟩:∃W0,W0=w.alloc (.cells #[.slice none 0 0,.bool false] 200):=⟨_,rfl⟩;have yj:Below w.heap.size w W0:=Yp;have Ud:Z34 W0 w.heap.size false none 0 []:=⟨Yw,⟨Ye,.inl ⟨rfl,rfl⟩⟩⟩;rw [←rp];clear rp;have jv:=hU yj;have Vf:=hU Ud;clear yj Ud
 go_loopw [10] (fun s wr=>∃i:Nat,s = .int .i64 i∧i≤xs.length∧∃sn A' c',Z34 wr w.heap.size sn A' c' (puts Z1k [] (xs.take i))∧AIn A' (w.heap.size≤·)∧Below w.heap.size w wr) (fun s wr=>xs.length - (intOf s).toNat)
 case atStart=>exact ⟨0,rfl,Nat.zero_le _,false,none,0,Vf.o,AIn.none_ _,jv.o⟩
 case round=>
  obtain ⟨i,rfl,hi,sn,A',c',hS,Ml,hB⟩:=hrel;have HS:=hU hS;have HA:=hU Ml;have HB:=hU hB;clear hS Ml hB;by_cases hlt:i<xs.length
  · refine Ycc ?_;intro x hx
    obtain ⟨g,off,rfl,hgs,R9⟩:=(Ww.o.fr (Fr.of_new (M:=fun _=>False) HB.o) (fun _ _ h=>h)).at_ hlt;rw [←hx] at R9;have q0:wr.cell? ⟨g,off+i*7,none⟩=some (.int .i64 x.kk):=Yq;have q1:wr.cell? ⟨g,off+i*7+1,none⟩=some (.int .i64 x.num):=YO5;have q2:wr.cell? ⟨g,off+i*7+2,none⟩=some (.int .i64 x.level):=YFu;have q3:wr.cell? ⟨g,off+i*7+3,none⟩=some (.slice x.elems.A x.elems.n x.elems.c):=YKg;have q4:wr.cell? ⟨g,off+i*7+4,none⟩=some (.slice x.holes.A x.holes.n x.holes.c):=YI7;have q5:wr.cell? ⟨g,off+i*7+5,none⟩=some (.slice x.aparts.A x.aparts.n x.aparts.c):=YU1;have q6:wr.cell? ⟨g,off+i*7+6,none⟩=some (.slice x.news.A x.news.n x.news.c):=YTq;refine Yhh ?_;intro b1 b2 HX;clear R9 hx;go_wp2_with fail;have Nl:=Srt.puts Z6w (xs.take i) (Srt.nil (cmp:=Z1k))
    have Vx:(((puts Z1k [] (xs.take i)).length:Nat):Int)≤100000000:=by
     have:=Z1e Z6w (xs.take i) (Srt.nil (cmp:=Z1k));exact Yt5
    refine (Zmj w.heap.size c' sn A' _ x _ (HS.o.new_ ((Zst _ _).alloc (Zsu _) _)) Nl Vx).mono ?_;rintro e w1 ⟨rfl,Nf,A2,c2,F7,Td,Uz⟩
    have Ky:Below w.heap.size w w1:=(HB.o.alloc HB.o.size _).trans (Td.below YI3 (fun k hk hm=>by
     rcases hm with hm|⟨_,a,ha,hm⟩
     · omega
     · have:=HA.o a ha;omega))
    have jw:AIn A2 (w.heap.size≤·):=by
     exact Yxb
    have fk:=hU F7;have Nk:=hU Ky;have Ns:=hU jw;clear F7 Ky jw Td Uz Nl Vx q0 q1 q2 q3 q4 q5 q6;exact Yqt
  · exact Yro
def zPgR (k:Int):PgR:=⟨k,0,0,⟨none,0,0⟩,⟨none,0,0⟩,⟨none,0,0⟩,⟨none,0,0⟩⟩
theorem Z1w.of_PgR {a b:World}(h:Below a.heap.size a b){sn sn':Bool}{A A':Option Addr}(hm:Z1w b sn A sn' A'):Z1w a sn A sn' A':=
 hm.imp id (fun ⟨h1,g,h2,h3⟩=>⟨h1,g,by have:=h.size;omega,h3⟩)
theorem Znx (k:Int) (w:World):Calls Tryz.prog 62 #[.int .i64 k] w fun e w'=>e = .returned (.agg #[.int .i64 k,.int .i64 0,.int .i64 0,.slice none 0 0,.slice none 0 0,.slice none 0 0,.slice none 0 0])∧Below w.heap.size w w':=by
 obtain ⟨W,hW⟩:∃W,W=w.alloc (.cells Q2r 136):=⟨_,rfl⟩;(have hR:Blk W w.heap.size 136 Q2r:=by rw [hW];exact Blk.new _ _ _);have hB:Below w.heap.size w W:=YZ3;have ht:W.there w.heap.size 0 (#[.int .i64 k,.int .i64 0,.int .i64 0,.slice none 0 0,.slice none 0 0,.slice none 0 0,.slice none 0 0]:Array Value).size:=hR.there;have HT:=hU ht;have HB:=hU hB;clear ht hR hB;go_enter Tryz.func62,Tryz.ntmps62;go_upto_region 1 with (fail);rw [←hW];clear hW;(go_wp2_with (with_reducible refine wpList_store_mid rfl 136 _ _ rfl w.heap.size 0 #[.int .i64 k,.int .i64 0,.int .i64 0,.slice none 0 0,.slice none 0 0,.slice none 0 0,.slice none 0 0] rfl rfl HT.o Yb Yb ?_));refine Ykv ?_;refine bodyPost_ret (v:=.agg #[.int .i64 k,.int .i64 0,.int .i64 0,.slice none 0 0,.slice none 0 0,.slice none 0 0,.slice none 0 0]) ?_ rfl ⟨rfl,Below.setCells' _ _ HB.o Ya⟩;exact Z1j (t:=2) (T:=136) rfl _ _ w.heap.size [.int .i64 k,.int .i64 0,.int .i64 0,.slice none 0 0,.slice none 0 0,.slice none 0 0,.slice none 0 0] _ rfl (Zsy W w.heap.size 0 [.int .i64 k,.int .i64 0,.int .i64 0,.slice none 0 0,.slice none 0 0,.slice none 0 0,.slice none 0 0] HT.o) Tryz.underlying136 rfl Yb
theorem Zkj (w:World):Calls Tryz.prog 33 #[] w fun e w'=>∃bm bp sn A c,e = .returned (.pointer (some ⟨bm,0,none⟩))∧w.heap.size≤bm∧w.heap.size≤bp∧AIn A (w.heap.size≤·)∧Blk w' bm 138 #[.pointer (some ⟨bp,0,none⟩)]∧Z34 w' bp sn A c []∧Below w.heap.size w w':=by
 go_enter Tryz.func33,Tryz.ntmps33;go_wp2_with fail;refine (Zr6 none 0 [] _ (Z0y.nil _ _ _) Ye).mono ?_;rintro e w1 ⟨bp,rfl,iv,sn,A,c,hS,hA,hB⟩;have HS:=hU hS;have HB:=hU hB;clear hS hB;go_wp2_with fail;go_ret;have Ct:Below w1.heap.size w1 (w1.alloc (.cells #[.pointer (some ⟨bp,0,none⟩)] 138)):=(Zst _ _).alloc (Zsu _) _;exact Ylk
theorem Zkf (b:Nat) (w:World) :
 Calls Tryz.prog 40 #[.pointer (some ⟨b,0,none⟩)] w fun e w'=>e = .returned (.func (.func 67) #[] #[.pointer (some ⟨w.heap.size,0,none⟩)])∧Below w.heap.size w w'∧Blk w' w.heap.size 93 #[.pointer (some ⟨b,0,none⟩)]:=by
 go_enter Tryz.func40,Tryz.ntmps40;exact Yyg
theorem Zkh (bm bp c:Nat) (sn:Bool) (A:Option Addr) (m:List PgR) (w:World) (hM:Blk w bm 138 #[.pointer (some ⟨bp,0,none⟩)]) (hS:Z34 w bp sn A c m) :
 Calls Tryz.prog 37 #[.pointer (some ⟨bm,0,none⟩)] w fun e w'=>e = .returned (.int .i64 m.length)∧w=w':=by
 have s0:=hM.c1;have hbl:=hM.lt;have HS:=hU hS;clear hM hS;go_enter Tryz.func37,Tryz.ntmps37;go_wp2_with fail;refine (Zr2 bp c sn A m w HS.o).mono ?_;rintro e w' ⟨rfl,rfl⟩;go_wp2_with fail;go_ret;exact ⟨rfl,rfl⟩
theorem Zkn (bm bp cc:Nat) (sn:Bool) (A:Option Addr) (m:List PgR) (x:PgR) (w:World) (hM:Blk w bm 138 #[.pointer (some ⟨bp,0,none⟩)]) (hS:Z34 w bp sn A cc m) (hs:Srt Z1k m) (hl:(m.length:Int)≤1000000) (hh:has Z1k m x=false) :
 Calls Tryz.prog 36 #[.pointer (some ⟨bm,0,none⟩),.int .i64 x.kk,.agg #[.int .i64 x.num,.int .i64 x.level,.slice x.elems.A x.elems.n x.elems.c,.slice x.holes.A x.holes.n x.holes.c,.slice x.aparts.A x.aparts.n x.aparts.c,.slice x.news.A x.news.n x.news.c]] w fun e w'=>e = .returned (.bool true)∧∃sn' A' c',Z34 w' bp sn' A' c' (put Z1k m x)∧Fr (Z0w bp sn A) w w'∧Z1w w sn A sn' A':=by
 have of:has Z1k m (zPgR x.kk)=false:=hh;refine Ysw ?_;intro s0 Le HS HO HM HH;have Wv:=hU of;clear hS hs hM hh of;go_enter Tryz.func36,Tryz.ntmps36;go_upto_region 3 with (fail);obtain ⟨W0,rp⟩:∃W0,W0=w.alloc (.cells #[.int .i64 x.num,.int .i64 x.level,.slice x.elems.A x.elems.n x.elems.c,.slice x.holes.A x.holes.n x.holes.c,.slice x.aparts.A x.aparts.n x.aparts.c,.slice x.news.A x.news.n x.news.c] 61):=⟨_,rfl⟩;have Lg:Below w.heap.size w W0:=Yp;have im:Blk W0 w.heap.size 61 #[.int .i64 x.num,.int .i64 x.level,.slice x.elems.A x.elems.n x.elems.c,.slice x.holes.A x.holes.n x.holes.c,.slice x.aparts.A x.aparts.n x.aparts.c,.slice x.news.A x.news.n x.news.c]:=Yw;have hz0:w.heap.size<W0.heap.size:=im.lt;rw [←rp];clear rp;have s1:=(Lg.cell (p:=⟨bm,0,none⟩) Le).trans s0;clear s0;refine Yn6 ?_;intro Vf Rq jt jv hml0;clear Lg im HS HM
 go_cut [8] from 11 (fun b wc=>b = .bool false∧Below W0.heap.size W0 wc)
 case first=>
  refine Z1g (fun w9=>Below W0.heap.size W0 w9) [0,1,2,3,4,7,8,9,12] [3] (.fork [(0,0),(1,0),(2,0),(3,1),(4,0)] 5 (.fork [] 6 (.fin [(7,0),(8,0),(9,0),(10,2),(11,2),(12,0)]) 10 (.fin [(6,2),(7,0),(8,0),(9,0),(11,2),(12,0)])) 10 (.fin [(5,2),(6,2),(7,0),(8,0),(9,0),(11,2),(12,0)])) Yb Yb Yb (fun KK hKK=>?_);refine Y8a ?_;intro HB V hV;rw [←hV] at HB ⊢;clear hV
  repeat' (first
   | ((first|(refine Z1r ?_ (Or.inl ⟨Yd,fun w9=>?_⟩) ?_;rotate_left 1;go_simp;with_reducible rfl)|(refine Z1y ?_ (HB.o) (Or.inl ⟨Yd,fun w9 hw9=>?_⟩) ?_;rotate_left 1;obtain ⟨Do,rr⟩:=Z0i hw9;go_simp;with_reducible rfl)|refine Z1r undef (Or.inr ⟨Yd,rfl⟩) ?_|refine Z1y undef (HB.o) (Or.inr ⟨Yd,rfl⟩) ?_);go_frame)
   | ((first|refine Z1n (fun K9 hK9=>?_)|refine Z1c rfl (fun K9 hK9=>?_));refine Z0h rfl 136 _ _ rfl g 0 Q2r rfl rfl (show _ from HK.o.there) Yb Yb ?_;show K9 _ (V.setCells g 0 Q2s);have HR:=hU (Zsy V g 0 Q2s (show _ from HK.o.there));have HB:=hU (Below.setCells' Q2s 0 HB.o HG.o);obtain ⟨V,hV⟩:∃V9,V9=V.setCells g 0 Q2s:=⟨_,rfl⟩;rw [←hV] at HR HB;rw [←hV];have HL:=hU (show g<V.heap.size from Zt5 _ _ (HR.o 0 _ rfl));clear hV;(first|refine hK9 _ _ (HB.o) ?_|refine hK9 _ _ (fun _=>HB.o) ?_);clear hK9 K9;(try go_frame);try simp only [Z08,Zsv])
   | ((first|refine Z1n (fun K9 hK9=>?_)|refine Z1c rfl (fun K9 hK9=>?_));go_simp;(first
     | (refine (Znx x.kk _).mono ?_;rintro e V ⟨rfl,hb⟩;have HB:=hU (HB.o.trans (hb.mono HB.o.size));(try have HK:=hU (HK.o.new_ hb));clear hb)
     | (refine (Zio bp cc sn A m (zPgR x.kk) _ (Vf.o.new_ (HB.o)) HO.o Ya Wv.o).mono ?_;rintro e V ⟨rfl,hb⟩;have HB:=hU (HB.o.trans (hb.mono HB.o.size));(try have HK:=hU (HK.o.new_ hb));clear hb)
     | (obtain ⟨g,hg⟩:∃g,g=V.heap.size:=⟨_,rfl⟩;have hk:=Blk.new V 136 Q2r;have HG:=hU (show W0.heap.size≤g from YWc);have HB:=hU (HB.o.alloc HB.o.size (.cells Q2r 136));obtain ⟨V,hV⟩:∃V9,V9=V.alloc (.cells Q2r 136):=⟨_,rfl⟩;rw [←hV,←hg] at hk;rw [←hV] at HB;have HK:=hU hk;rw [←hV,←hg];clear hV hk hg)|fail);(first|refine hK9 _ _ (HB.o) ?_|refine hK9 _ _ (fun _=>HB.o) ?_);clear hK9 K9;(try go_frame);try simp only [Z08,Zsv])
   | (refine Z0p ⟨?_,?_⟩)|fail)
  all_goals
   refine Y1g ?_;exact Yfh
 case rest=>
  obtain ⟨rfl,hB⟩:=hcut;have r0:=(Rq.o.new_ hB).c1;have hX:=jt.o.new_ hB;have HX:=hU hX;have hml2:=(Rq.o.new_ hB).lt;have hxl2:=hX.lt;have HB:=hU hB;have fk:=hU (Vf.o.new_ hB);obtain ⟨x0,x1,x2,x3,x4,x5⟩:=hX.c6;clear hB hX s1;go_wp2_with fail;refine Z03 (fun w9=>Below wc.heap.size wc w9) [(0,0),(1,0),(2,0),(3,1),(4,0),(5,1),(6,0),(7,2),(8,0)] Yb Yb (fun KK hKK=>?_);refine Ygs ?_;intro K9 hK9;refine (Zmj bp cc sn A m x _ (fk.o.new_ ((Zst _ _).drew)) HO.o Ya).mono ?_;rintro e w5 ⟨rfl,Vh⟩;have HP:=hU Vh;clear Vh;refine Y8n ?_;clear hK9 K9;refine Yyj ?_;refine Yf0 ?_;clear hKK KK;go_wp2_with fail;go_ret;have Ua:Below w.heap.size w wc:=jv.o.trans (HB.o.mono Ya);obtain ⟨sn',A',c',g1,g2,g3⟩:=HP.o;refine ⟨by rw [HH.o]<;>rfl,sn',A',c',g1,(Fr.of_new Ua).trans ((Fr.refl _ wc).drew.trans g2),Z1w.of_PgR Ua g3⟩
end
section
open Go.RowKit Go.Shelf
attribute [local go_sem] Oper.semAt_some
def Zbt (x:PgR):Array Value:=#[.int .i64 x.kk,.agg #[.int .i64 x.num,.int .i64 x.level,.slice x.elems.A x.elems.n x.elems.c,.slice x.holes.A x.holes.n x.holes.c,.slice x.aparts.A x.aparts.n x.aparts.c,.slice x.news.A x.news.n x.news.c]]
theorem Zic (kb c:Nat) (sn:Bool) (A:Option Addr) (bm bp:Nat) (l:List PgR) (W:World) (hbox:W.cell? ⟨kb,0,none⟩=some (.pointer (some ⟨bm,0,none⟩))) (hB:Blk W bm 138 #[.pointer (some ⟨bp,0,none⟩)]) (hS:Z34 W bp sn A c l) :
 Zk1 Tryz.prog 67 #[.pointer (some ⟨kb,0,none⟩)] Zbt l W (Z1s bp) (Z10 A):=by
 intro lo J Jx hJ Gr h0 hY;have hbsl:=hS.lt;have hkb:=Zt5 W _ hbox;have i8:=hS.row_lt;have s1:=(hB.cell 0).trans rfl;have hbl:=hB.lt;have HJ:=hU hJ;have Gv:=hU Gr;have H0:=hU h0;have HY:=hU hY;have HS:=hU hS;have HA:=hU i8;clear hJ Gr h0 hY hS hB i8;refine callsIn_of_wp_marks Tryz.func67 rfl trivial ?_;simp only [Tryz.ntmps67,Zu5,Ztg,Zu1,Nat.reduceAdd,Nat.reduceSub,Ztw,Ztx,Zu4,Zu0,Ztk,Ztv];gi_wp2_with fail;refine Yi8 ?_;obtain ⟨W0,rp⟩:∃W0,W0=W.alloc (.cells #[.func (.yield lo) #[] #[]] 100):=⟨_,rfl⟩;have yj:Below W.heap.size W W0:=Yp;have B6:Blk W0 W.heap.size 100 #[.func (.yield lo) #[] #[]]:=Yw;rw [←rp];clear rp;refine (callsIn_wide.2 (Zlw bp W0)).mono ?_;rintro e w3 ⟨rfl,Ri,lw⟩;have hz0:=B6.lt;have hz3:=Ri.size;have ep:=(B6.new_ Ri);have Kh:Below W.heap.size W w3:=yj.trans (Ri.mono yj.size);have Xa:=Zgl W0.heap.size bp _ _ _ l w3 lw (HS.o.new_ Kh);have Vo:=hU Xa;have n7:=hU ep;have Ue:=hU Kh;clear yj B6 Ri lw Xa ep Kh s1;gi_wp2_with fail;obtain ⟨I,hI⟩:∃I:World→List PgR→World→Prop,I=fun F p X=>(Z1s bp W F∧F.heap.size≤X.heap.size∧W.heap.size<F.heap.size)∧J F p X∧X.cell? ⟨W.heap.size,0,none⟩=some (.func (.yield lo) #[] #[]):=⟨_,rfl⟩;obtain ⟨Ix,Mf⟩:∃Ix:World→Code→List PgR→World→Prop,Ix=fun F c p X=>c = .ret∧Z1s bp W F∧Jx F p X:=⟨_,rfl⟩;refine Z66 (w:=w3) Yd Vo.o.enter Vo.o.p.iter (fun x=>Yd) Vo.o.trans Vo.o.keep (fun W W1 h=>Z36 (Vo.o.mods W W1 h)) I Ix ?_ ?_ ?_ ?_ ?_ ?_
 · exact Yh1
 · exact Ynf
 · exact Yi2
 · intro F lo2 pre x post X hx hlo j9
   have HX:=hU hx;clear hx;rw [hI] at j9;obtain ⟨⟨Ss,hfx,qi⟩,oy,nj⟩:=j9;have HI:=hU hI;have HIx:=hU Mf;have Ac:=hU Ss;have Gq:=hU oy;have D5:=Zt5 X _ nj;clear hI Mf Ss oy;simp only [Zdb,Array.zip];gi_wp2_with fail;have Xz:=HJ.o F pre X _ Gq.o ((Priv.refl W.heap.size X).alloc (.cells (Q0d x) 136));have Ct:Below X.heap.size X (X.alloc (.cells (Q0d x) 136)):=(Zst _ _).alloc (Zsu _) _;have Ep:=(Ct.cell (p:=⟨W.heap.size,0,none⟩) D5).trans nj;have uo:Blk (X.alloc (.cells (Q0d x) 136)) X.heap.size 136 (Q0d x):=Blk.new _ _ _;have Iv:w3.heap.size≤X.heap.size∨X.heap.size<w3.heap.size:=Ya;have Vs:Z10 A X (X.alloc (.cells (Q0d x) 136)):=Z10.of_priv HA.o (((Priv.refl W.heap.size X).alloc _));refine ⟨Kept.new_ Ct hfx,fun X2 hp2 hz2 _ _=>?_⟩;refine Y3t ?_;intro qp Ie pi x0;have x1:X2.cell? ⟨X.heap.size,1,none⟩=some (.int .i64 x.num):=(pi.cell 1).trans rfl;have x2:X2.cell? ⟨X.heap.size,2,none⟩=some (.int .i64 x.level):=(pi.cell 2).trans rfl;have x3:X2.cell? ⟨X.heap.size,3,none⟩=some (.slice x.elems.A x.elems.n x.elems.c):=(pi.cell 3).trans rfl;have x4:X2.cell? ⟨X.heap.size,4,none⟩=some (.slice x.holes.A x.holes.n x.holes.c):=(pi.cell 4).trans rfl;have x5:X2.cell? ⟨X.heap.size,5,none⟩=some (.slice x.aparts.A x.aparts.n x.aparts.c):=(pi.cell 5).trans rfl;have x6:X2.cell? ⟨X.heap.size,6,none⟩=some (.slice x.news.A x.news.n x.news.c):=(pi.cell 6).trans rfl;have tj:Z10 A X X2:=Vs.trans (Z10.of_priv HA.o (hp2.mono (B:=W.heap.size) Ya));have Kd:=hU tj;have s7:F.heap.size≤X2.heap.size:=Ya;have hxl2:=pi.lt;obtain ⟨fn,tmps,assign,body,hy,hR⟩:=HY.o F pre x post X2 Ac.o HX.o qp;dsimp only [Zbt] at hy;have Sn:=hU hR;have hyl2:=Zt5 X2 _ Ie;have tq:=hU Ie;clear hR Xz Ct Ep uo Iv Vs hp2 qp pi tj nj;gi_wp2_with fail;refine ⟨rfl,Sn.o.mono ?_⟩
   rintro e W3 (⟨rfl,qp,um,X9⟩|⟨rfl,xt,X9⟩)
   · have M9:=hU qp
     have kl:=hU um;have jk:=hU X9;clear qp um X9 hy x0 x1 x2 x3 x4 x5 x6 Ie;exact Yn1
   · have M9:=hU xt
     have jk:=hU X9;clear xt X9 hy x0 x1 x2 x3 x4 x5 x6 Ie;gi_wp2;have Mf:=HIx.o;subst Mf;exact ⟨jk.o.up Ya,rfl,Ac.o,M9.o⟩
 · exact Y52
 · exact Yr1
theorem Zmz (kb c:Nat) (sn:Bool) (A:Option Addr) (bm bp:Nat) (l:List PgR) (w:World) (hbox:w.cell? ⟨kb,0,none⟩=some (.pointer (some ⟨bm,0,none⟩))) (hB:Blk w bm 138 #[.pointer (some ⟨bp,0,none⟩)]) (hS:Z34 w bp sn A c l) :
 SeqP 67 #[.pointer (some ⟨kb,0,none⟩)] Zbt l w (Z1s bp) (Z10 A):=
 ⟨YX8,fun W hW=>Zic kb c sn A bm bp l W ((hW.cell (Zt5 _ _ hbox)).trans hbox) (hB.new_ hW) (hS.new_ hW),fun _ _ _=>Z10.trans,fun _ _=>Z10.of_priv hS.row_lt,fun _ _=>Z10.of_below hS.row_lt,fun _ _ h=>h.fr.mono (fun k _ hk=>YLd)⟩
end
section
open Go.RowKit
abbrev Z30:=Z29 (α:=PgT) 205 150 15 PgT.cells
theorem Ze5 (k0 : Int) (k1 : Int) (k2 : ByteArray) (k3 : Int) (k4 : Int) (k5 : ByteArray) (k6 : Int) (k7 : Int) (k8 : ByteArray) (k9 : Int) (k10 : Bool) (k11 : Bool) (k12 : Int) (k13 : Int) (k14 : Int) (w : World) : (nilAhead 504 150 (.agg #[.int .i64 k0, .int .i64 k1, .string k2, .int .i64 k3, .int .i64 k4, .string k5, .int .i64 k6, .int .i64 k7, .string k8, .int .i64 k9, .bool k10, .bool k11, .int .i64 k12, .int .i64 k13, .int .i64 k14]) "Compare").run Tryz.prog w = .ok (some false) w := Yb
theorem Zj8 (k0 : Int) (k1 : Int) (k2 : ByteArray) (k3 : Int) (k4 : Int) (k5 : ByteArray) (k6 : Int) (k7 : Int) (k8 : ByteArray) (k9 : Int) (k10 : Bool) (k11 : Bool) (k12 : Int) (k13 : Int) (k14 : Int) (w : World) : (method 504 150 (.agg #[.int .i64 k0, .int .i64 k1, .string k2, .int .i64 k3, .int .i64 k4, .string k5, .int .i64 k6, .int .i64 k7, .string k8, .int .i64 k9, .bool k10, .bool k11, .int .i64 k12, .int .i64 k13, .int .i64 k14]) "Compare").run Tryz.prog w = .ok (267, .agg #[.int .i64 k0, .int .i64 k1, .string k2, .int .i64 k3, .int .i64 k4, .string k5, .int .i64 k6, .int .i64 k7, .string k8, .int .i64 k9, .bool k10, .bool k11, .int .i64 k12, .int .i64 k13, .int .i64 k14]) w := Yb
def Znk (l:List PgT) (x:PgT) (w:World) (e:Ending) (w':World):Prop:=
 e = .returned (.tuple #[.int .i64 (rank Z0x l x),.bool (has Z0x l x)])∧Below w.heap.size w w'
theorem Z9e (b c:Nat) (sn:Bool) (A:Option Addr) (l:List PgT) (x:PgT) (w:World) (hS:Z30 w b sn A c l) (hs:Srt Z0x l) (hl:(l.length:Int)≤4611686018427387904) :
 Calls Tryz.prog 96 #[.pointer (some ⟨b,0,none⟩),.agg (Q0b x)] w (Znk l x w):=by
 have Xm:=hS.rd PgT.cells_length;have h0:=hS.cell0;have hb:=hS.lt;clear hS;have HS:=hU hs;have Ww:=hU Xm;clear hs Xm;go_enter Tryz.func96,Tryz.ntmps96;go_wp2_with fail;go_quiet (fail);go_wp2_with fail;obtain ⟨W0,rp⟩:∃W0,W0=((w.alloc (Obj.cells (Q0b x) 150)).drewN nq):=⟨_,rfl⟩;refine Yoq ?_;intro Lg mj;have Sg:W0.cell? ⟨w.heap.size,1,none⟩=some (.int .i64 x.tr.elem.id.kind):=Yv;have pi:W0.cell? ⟨w.heap.size,2,none⟩=some (.string x.tr.elem.id.text):=Yv;have Iv:W0.cell? ⟨w.heap.size,3,none⟩=some (.int .i64 x.tr.elem.id.n):=Yv;have Jd:W0.cell? ⟨w.heap.size,4,none⟩=some (.int .i64 x.tr.elem.attr.kind):=Yv;have Jj:W0.cell? ⟨w.heap.size,5,none⟩=some (.string x.tr.elem.attr.text):=Yv;have Lj:W0.cell? ⟨w.heap.size,6,none⟩=some (.int .i64 x.tr.elem.attr.n):=Yv;have Jv:W0.cell? ⟨w.heap.size,7,none⟩=some (.int .i64 x.tr.elem.value.kind):=Yv;have fw:W0.cell? ⟨w.heap.size,8,none⟩=some (.string x.tr.elem.value.text):=Yv;have uo:W0.cell? ⟨w.heap.size,9,none⟩=some (.int .i64 x.tr.elem.value.n):=Yv;have Ny:W0.cell? ⟨w.heap.size,10,none⟩=some (.bool x.tr.elem.acc):=Yv;have et:W0.cell? ⟨w.heap.size,11,none⟩=some (.bool x.tr.elem.goal):=Yv;have Et:W0.cell? ⟨w.heap.size,12,none⟩=some (.int .i64 x.tr.elem.tag):=Yv;have Wy:W0.cell? ⟨w.heap.size,13,none⟩=some (.int .i64 x.tr.level):=Yv;have Ur:W0.cell? ⟨w.heap.size,14,none⟩=some (.int .i64 x.tr.cause):=Yv;rw [←rp];clear rp;have jv:=hU Lg;clear Lg
 go_loopw [6,7] (fun lo hi wr=>∃i j:Nat,lo = .int .i64 i∧hi = .int .i64 j∧i≤j∧j≤l.length∧(∀k,(h:k<l.length)→k<i→Z0x l[k] x<0)∧(∀k,(h:k<l.length)→j≤k→0<Z0x l[k] x)∧Below W0.heap.size W0 wr) (fun lo hi wr=>(intOf hi).toNat - (intOf lo).toNat)
 case atStart=>exact ⟨0,l.length,rfl,rfl,Nat.zero_le _,Zsu _,fun k _ h=>absurd h Ya,fun k h h'=>absurd h Ya,Zst _ _⟩
 case round=>
  obtain ⟨i,j,rfl,rfl,hij,hj,qv,qm,hB⟩:=hrel;have sy:=hU qv;have xq:=hU qm;clear qv qm;have Sd:w.heap.size<W0.heap.size:=Zt5 W0 _ mj;by_cases hlt:i<j
  · refine Ygb ?_;intro m Le hmj hmi E1;obtain ⟨g,off,rfl,Fu,R9⟩:=Ww.o.at_ Le;refine Yu7 ?_;intro low r0;have q0:=(low ⟨g,off+m*15,none⟩ Fu).trans (R9 0 _ rfl);have q1:=(low ⟨g,off+m*15+1,none⟩ Fu).trans (R9 1 _ rfl);have q2:=(low ⟨g,off+m*15+2,none⟩ Fu).trans (R9 2 _ rfl);have q3:=(low ⟨g,off+m*15+3,none⟩ Fu).trans (R9 3 _ rfl);have q4:=(low ⟨g,off+m*15+4,none⟩ Fu).trans (R9 4 _ rfl);have q5:=(low ⟨g,off+m*15+5,none⟩ Fu).trans (R9 5 _ rfl);have q6:=(low ⟨g,off+m*15+6,none⟩ Fu).trans (R9 6 _ rfl);have q7:=(low ⟨g,off+m*15+7,none⟩ Fu).trans (R9 7 _ rfl);have q8:=(low ⟨g,off+m*15+8,none⟩ Fu).trans (R9 8 _ rfl);have q9:=(low ⟨g,off+m*15+9,none⟩ Fu).trans (R9 9 _ rfl);have Jw:=(low ⟨g,off+m*15+10,none⟩ Fu).trans (R9 10 _ rfl);have P8:=(low ⟨g,off+m*15+11,none⟩ Fu).trans (R9 11 _ rfl);have i5:=(low ⟨g,off+m*15+12,none⟩ Fu).trans (R9 12 _ rfl);have Nb:=(low ⟨g,off+m*15+13,none⟩ Fu).trans (R9 13 _ rfl);have j3:=(low ⟨g,off+m*15+14,none⟩ Fu).trans (R9 14 _ rfl);refine Yia ?_;intro y0 y1 y2;refine Yj5 ?_;intro y3 y4 y5 y6;have y7:=(hB.cell (p:=⟨w.heap.size,7,none⟩) Sd).trans Jv;have y8:=(hB.cell (p:=⟨w.heap.size,8,none⟩) Sd).trans fw;have y9:=(hB.cell (p:=⟨w.heap.size,9,none⟩) Sd).trans uo;have y10:=(hB.cell (p:=⟨w.heap.size,10,none⟩) Sd).trans Ny;have y11:=(hB.cell (p:=⟨w.heap.size,11,none⟩) Sd).trans et;have y12:=(hB.cell (p:=⟨w.heap.size,12,none⟩) Sd).trans Et;have y13:=(hB.cell (p:=⟨w.heap.size,13,none⟩) Sd).trans Wy;have y14:=(hB.cell (p:=⟨w.heap.size,14,none⟩) Sd).trans Ur;refine Yy3 ?_;intro b1 b2 Sq;have N:=Ze5;have M:=Zj8;clear low R9 mj Sg pi Iv Jd Jj Lj Jv fw uo Ny et Et Wy Ur h0;have HB:=hU hB;clear hB;refine Y9x ?_;intro y hy;rw [←hy] at q0 q1 q2 q3 q4 q5 q6 q7 q8 q9 Jw P8 i5 Nb j3;have HY:=hU hy;clear hy;refine Y5p ?_;intro hbw hgw hww;go_wp2_with fail;rw [E1.o]
    go_region_held3 (fun w'=>w'.cell? ⟨b,0,none⟩=some (.slice (some ⟨g,off,none⟩) l.length c)∧w'.cell? ⟨g,off+m*15,none⟩=some (.int .i64 y.kk)∧w'.cell? ⟨g,off+m*15+1,none⟩=some (.int .i64 y.tr.elem.id.kind)∧w'.cell? ⟨g,off+m*15+2,none⟩=some (.string y.tr.elem.id.text)∧w'.cell? ⟨g,off+m*15+3,none⟩=some (.int .i64 y.tr.elem.id.n)∧w'.cell? ⟨g,off+m*15+4,none⟩=some (.int .i64 y.tr.elem.attr.kind)∧w'.cell? ⟨g,off+m*15+5,none⟩=some (.string y.tr.elem.attr.text)∧w'.cell? ⟨g,off+m*15+6,none⟩=some (.int .i64 y.tr.elem.attr.n)∧w'.cell? ⟨g,off+m*15+7,none⟩=some (.int .i64 y.tr.elem.value.kind)∧w'.cell? ⟨g,off+m*15+8,none⟩=some (.string y.tr.elem.value.text)∧w'.cell? ⟨g,off+m*15+9,none⟩=some (.int .i64 y.tr.elem.value.n)∧w'.cell? ⟨g,off+m*15+10,none⟩=some (.bool y.tr.elem.acc)∧w'.cell? ⟨g,off+m*15+11,none⟩=some (.bool y.tr.elem.goal)∧w'.cell? ⟨g,off+m*15+12,none⟩=some (.int .i64 y.tr.elem.tag)∧w'.cell? ⟨g,off+m*15+13,none⟩=some (.int .i64 y.tr.level)∧w'.cell? ⟨g,off+m*15+14,none⟩=some (.int .i64 y.tr.cause)∧w'.cell? ⟨w.heap.size,0,none⟩=some (.int .i64 x.kk)∧w'.cell? ⟨w.heap.size,1,none⟩=some (.int .i64 x.tr.elem.id.kind)∧w'.cell? ⟨w.heap.size,2,none⟩=some (.string x.tr.elem.id.text)∧w'.cell? ⟨w.heap.size,3,none⟩=some (.int .i64 x.tr.elem.id.n)∧w'.cell? ⟨w.heap.size,4,none⟩=some (.int .i64 x.tr.elem.attr.kind)∧w'.cell? ⟨w.heap.size,5,none⟩=some (.string x.tr.elem.attr.text)∧w'.cell? ⟨w.heap.size,6,none⟩=some (.int .i64 x.tr.elem.attr.n)∧w'.cell? ⟨w.heap.size,7,none⟩=some (.int .i64 x.tr.elem.value.kind)∧w'.cell? ⟨w.heap.size,8,none⟩=some (.string x.tr.elem.value.text)∧w'.cell? ⟨w.heap.size,9,none⟩=some (.int .i64 x.tr.elem.value.n)∧w'.cell? ⟨w.heap.size,10,none⟩=some (.bool x.tr.elem.acc)∧w'.cell? ⟨w.heap.size,11,none⟩=some (.bool x.tr.elem.goal)∧w'.cell? ⟨w.heap.size,12,none⟩=some (.int .i64 x.tr.elem.tag)∧w'.cell? ⟨w.heap.size,13,none⟩=some (.int .i64 x.tr.level)∧w'.cell? ⟨w.heap.size,14,none⟩=some (.int .i64 x.tr.cause))
     (first|go_keep|(refine ⟨?_,?_,?_,?_,?_,?_,?_,?_,?_,?_,?_,?_,?_,?_,?_,?_,?_,?_,?_,?_,?_,?_,?_,?_,?_,?_,?_,?_,?_,?_,?_⟩<;>exact (Pk.cell YCg).trans Yl))
     ((go_at_call 267;refine (Zqs y x _).mono ?_;rintro e w1 ⟨rfl,Pk⟩))
    refine Ym2 ?_;intro Nk;clear r0 q0 q1 q2 q3 q4 q5 q6 q7 q8 q9 Jw P8 i5 Nb j3 y0 y1 y2 y3 y4 y5 y6 y7 y8 y9 y10 y11 y12 y13 y14 N M;by_cases hc:Z0x y x=0
    · have HC:=hU hc
      have t1:(Z0x y x == 0)=true:=YMk;clear hc;go_wp2_with fail;go_ret2;have e:=HC.o;rw [HY.o] at e;refine Y45 ?_;rw [Z4i Z56 HS.o Le e,(Z5j Z56 HS.o Le e).2.2.1];rfl
    · have t1:(Z0x y x == 0)=false:=by simp [hc]
      by_cases hc2:Z0x y x<0
      · have HC:=hU hc2
        have t2:decide (Z0x y x<0)=true:=YQw;clear hc hc2;go_wp2_with fail;go_roundw
        case rel=>
         refine Yzl ?_;intro k h1 h2 e;rw [HY.o] at e;rcases Nat.lt_or_ge k m with h3|h3
         · exact Z56.lt_of_lt_of_le (HS.o.lt h3 Le) Ya
         · exact Yzs
        case measure=>simp [intOf];omega
      · have t2:decide (Z0x y x<0)=false:=by simpa using hc2
        have Nn:0<Z0x y x:=Ya;have HC:=hU Nn;clear hc hc2 Nn;go_wp2_with fail;go_roundw
        case rel=>
         refine Yl0 ?_;intro k h1 h2 e;rw [HY.o] at e;rcases Nat.lt_or_ge m k with h3|h3
         · exact (Z56.symm _ _).1 (Z56.lt_trans ((Z56.symm _ _).2 e) (HS.o.lt h3 h1))
         · exact Yzs
        case measure=>simp [intOf];omega
  · exact Y53
end
section
open Go.RowKit Go.Shelf
attribute [local go_sem] Oper.semAt_some
def Zdc (x:PgT):Array Value:=#[.agg (Q0b x)]
theorem Zoi (lo b c k:Nat) (sn:Bool) (A:Option Addr) (l:List PgT) (W:World) (hS:Z30 W b sn A c l) (hk:k≤l.length) (J Jx:List PgT→World→Prop)
 (h0:J [] (W.setCell ⟨b,1,none⟩ (.bool true))) (hY:Zpv lo Zdc (l.drop k) (Z10 A) J Jx) :
 CallsIn Fence.wide 0 Tryz.prog 99 #[.pointer (some ⟨b,0,none⟩),.int .i64 k,.func (.yield lo) #[] #[]] W (Told (l.drop k) J Jx):=by
 have s0:=hS.cell0;have s1:=hS.cell1;have f1:=hS.blk.frozen 1;have Xf:=Z01 hS.row hS.blk Yc;have Xm:Z0y (W.setCell ⟨b,1,none⟩ (.bool true)) 15 PgT.cells A c l:=Z0e PgT.cells_length (ownsRow_setCell_other hS.row Xf _);(have hlm:(l.length:Int)≤9223372036854775807:=by have:=Xm.cap;omega);have Ww:=hU Xm;have H0:=hU h0;have HY:=hU hY;clear hS Xm h0 hY Xf;refine callsIn_of_wp Tryz.func99 rfl trivial ?_;simp only [Tryz.ntmps99,Zu5,Ztg,Zu1,Nat.reduceAdd,Nat.reduceSub,Ztw,Ztx,Zu4,Zu0,Ztk,Ztv];gi_wp2
 gi_loopw [7] (fun s wr=>∃pre post,s = .int .i64 ((k+pre.length:Nat):Int)∧l.drop k=pre++post∧J pre wr∧Z0y wr 15 PgT.cells A c l) (fun s wr=>l.length - (intOf s).toNat)
 case atStart=>exact ⟨[],l.drop k,Ye,Ye,H0.o,Ww.o⟩
 case round=>
  obtain ⟨pre,post,rfl,hx,hJ,Xm⟩:=hrel;have Vx:k+pre.length+post.length=l.length:=YOy;have HX:=hU hx;have HJ:=hU hJ;have HR:=hU Xm;clear hx hJ Xm
  cases post with
  | nil=>
    have e1:((k+pre.length:Nat):Int)=(l.length:Int):=YHt;exact Ye1
  | cons x post=>
    obtain ⟨m,hm⟩:∃m,m=k+pre.length:=⟨_,rfl⟩;have Le:m<l.length:=YHt
    have Ox:l[m]=x:=by
     apply Zud;rw [←Zt3,hm,←List.getElem?_drop,HX.o];simp
    obtain ⟨g,off,rfl,hgs,R9⟩:=HR.o.at_ Le;rw [Ox] at R9;have q0:wr.cell? ⟨g,off+m*15,none⟩=some (.int .i64 x.kk):=Yq;have q1:wr.cell? ⟨g,off+m*15+1,none⟩=some (.int .i64 x.tr.elem.id.kind):=YO5;have q2:wr.cell? ⟨g,off+m*15+2,none⟩=some (.string x.tr.elem.id.text):=YFu;have q3:wr.cell? ⟨g,off+m*15+3,none⟩=some (.int .i64 x.tr.elem.id.n):=YKg;have q4:wr.cell? ⟨g,off+m*15+4,none⟩=some (.int .i64 x.tr.elem.attr.kind):=YI7;have q5:wr.cell? ⟨g,off+m*15+5,none⟩=some (.string x.tr.elem.attr.text):=YU1;have q6:wr.cell? ⟨g,off+m*15+6,none⟩=some (.int .i64 x.tr.elem.attr.n):=YTq;have q7:wr.cell? ⟨g,off+m*15+7,none⟩=some (.int .i64 x.tr.elem.value.kind):=YN7;have q8:wr.cell? ⟨g,off+m*15+8,none⟩=some (.string x.tr.elem.value.text):=YQ3;(have q9:wr.cell? ⟨g,off+m*15+9,none⟩=some (.int .i64 x.tr.elem.value.n):=by simpa using R9 9 _ rfl);(have Jw:wr.cell? ⟨g,off+m*15+10,none⟩=some (.bool x.tr.elem.acc):=by simpa using R9 10 _ rfl);(have P8:wr.cell? ⟨g,off+m*15+11,none⟩=some (.bool x.tr.elem.goal):=by simpa using R9 11 _ rfl);(have i5:wr.cell? ⟨g,off+m*15+12,none⟩=some (.int .i64 x.tr.elem.tag):=by simpa using R9 12 _ rfl);(have Nb:wr.cell? ⟨g,off+m*15+13,none⟩=some (.int .i64 x.tr.level):=by simpa using R9 13 _ rfl);(have j3:wr.cell? ⟨g,off+m*15+14,none⟩=some (.int .i64 x.tr.cause):=by simpa using R9 14 _ rfl);refine Y6d ?_;intro b1 b2;rw [←hm];have HM:=hU hm;clear R9 Ox Vx hm;obtain ⟨fn,tmps,assign,body,hy,hR⟩:=HY.o pre x post wr HX.o HJ.o;dsimp only [Zdc] at hy;have Sn:=hU hR;clear hR;gi_wp2_with fail;refine ⟨rfl,Sn.o.mono ?_⟩;rintro e W3 (⟨rfl,qp,um⟩|⟨rfl,xt⟩)
    · have M9:=hU qp
      have kl:=hU um;clear qp um hy q0 q1 q2 q3 q4 q5 q6 q7 q8 q9 Jw P8 i5 Nb j3;exact Yij
    · have M9:=hU xt
      clear xt hy q0 q1 q2 q3 q4 q5 q6 q7 q8 q9 Jw P8 i5 Nb j3;exact Y92
theorem Zql (kb b c:Nat) (sn:Bool) (A:Option Addr) (l:List PgT) (W:World) (hbox:W.cell? ⟨kb,0,none⟩=some (.pointer (some ⟨b,0,none⟩))) (hS:Z30 W b sn A c l) :
 Iter Tryz.prog 98 #[.pointer (some ⟨kb,0,none⟩)] Zdc l W (Z1s b) (Z10 A):=by
 intro lo J Jx _ _ h0 hY;have H0:=hU (h0 (W.setCell ⟨b,1,none⟩ (.bool true)) ⟨W,Zst _ _,rfl⟩);have HY:=hU hY;have HS:=hU hS;clear h0 hY hS;refine callsIn_of_wp Tryz.func98 rfl trivial ?_;simp only [Tryz.ntmps98,Zu5,Ztg,Zu1,Nat.reduceAdd,Nat.reduceSub,Ztw,Ztx,Zu4,Zu0,Ztk,Ztv];gi_wp2_with fail;have hz:((0:Nat):Int)=0:=rfl;refine Yi8 ?_;refine (Zoi lo b c 0 sn A l W HS.o (Nat.zero_le _) J Jx H0.o (by rw [List.drop_zero];exact HY.o)).mono ?_;exact Yud
end
section
open Go.RowKit
theorem Zhh:(Tryz.prog.info? 150).map (fun i=>(i.zero,i.size,i.bytes))=some (some (.agg Q2t),15,136):=Yb
theorem PgT.one (x:PgT):∀u∈PgT.cells x,u.oneCell'=true:=by intro u hu;simp [PgT.cells] at hu;rcases hu with rfl|rfl|rfl|rfl|rfl|rfl|rfl|rfl|rfl|rfl|rfl|rfl|rfl|rfl|rfl<;>rfl
theorem PgT.oneAll (l:List PgT):∀u∈l.flatMap PgT.cells,u.oneCell'=true:=by intro u hu;obtain ⟨x,_,hx⟩:=List.mem_flatMap.1 hu;exact PgT.one x u hx
def Z8g (w:World) (b:Nat) (sn:Bool) (A:Option Addr) (l:List PgT) (e:Ending) (w':World):Prop:=
 e = .returned (.tuple #[])∧∃A' c',Z30 w' b false A' c' l∧Fr (· = b) w w'∧Z1w w sn A false A'
theorem Zjf (b c:Nat) (A:Option Addr) (l:List PgT) (w:World) (hS:Z30 w b false A c l) :
 Calls Tryz.prog 97 #[.pointer (some ⟨b,0,none⟩)] w (Z8g w b false A l):=by
 have h1:=hS.cell1;have HS:=hU hS;clear hS;go_enter Tryz.func97,Tryz.ntmps97;exact Y3p
theorem Zg7 (b c:Nat) (A:Option Addr) (l:List PgT) (w:World) (hS:Z30 w b true A c l) (hl:(l.length:Int)≤1000000000) :
 Calls Tryz.prog 97 #[.pointer (some ⟨b,0,none⟩)] w (Z8g w b true A l):=by
 obtain ⟨i0,hi,Nc,rm,Aj⟩:=info_parts Zhh;refine Y8h ?_;intro h0 h1 hb f0 f1;have Xm:=hS.rd PgT.cells_length;have HB:=hU hS.blk;have Ww:=hU Xm;clear hS Xm;refine Yn9 ?_;intro e1
 have hmk :∀W:World,(Instr.makeSlice 203 (.int .i64 0) (.int .i64 ((l.length:Int)+1))).run Tryz.prog W = .ok (.slice (some ⟨W.heap.size,0,none⟩) 0 (l.length+1)) (W.alloc (.cells (madeCells (Value.cells (.agg Q2t)) ((l.length+1)*15)) 150)):=fun W=>by
  have h:=run_make (P:=Tryz.prog) W 203 150 i0 _ Tryz.underlying203 hi Nc .i64 .i64 0 ((l.length:Int)+1) Ya Ya YV8 Ya;exact Y2k
 go_enter Tryz.func97,Tryz.ntmps97;go_wp2_with fail;refine Z03 (fun w9=>Below w.heap.size w w9) [(0,0),(1,0),(2,0),(3,0),(4,1),(5,0),(6,0),(8,0),(9,0),(10,0),(11,1),(7,2),(12,2),(13,0),(14,0),(15,2)] Yb Yb (fun KK hKK=>?_);refine Yg8 ?_;intro K9 hK9
 refine Z0l _ Yd _ _ _ Yd 150 i0 _ 15 136 Tryz.underlying203 hi Nc rm Aj rfl Ya _ 0 [] Yd (World.ownsRow_made _ _ _ (Nat.zero_le _) Yj YFi) A l.length c (l.flatMap PgT.cells) Yd (Z0u PgT.cells_length l)
  ((Ww.o.drew.alloc _).news PgT.cells_length Ya) (PgT.oneAll l) Yj Ya ?_
 intro v2 w2 Od Cf hnil Xd;refine Y8n ?_;clear hK9 K9;rw [Zts,Ztk] at Od;obtain ⟨A',c',rfl,_,_,hz⟩:=Z14 Od;have Nk:=(HB.o.drew.alloc (.cells (madeCells (Value.cells (.agg Q2t)) ((l.length+1)*15)) 150)).grown Cf Yy;exact Yzw
theorem Zre (b c:Nat) (sn:Bool) (A:Option Addr) (l:List PgT) (w:World) (hS:Z30 w b sn A c l) (hl:(l.length:Int)≤1000000000) :
 Calls Tryz.prog 97 #[.pointer (some ⟨b,0,none⟩)] w (Z8g w b sn A l):=by
 cases sn
 · exact Zjf b c A l w hS
 · exact Zg7 b c A l w hS hl
end
section
open Go.RowKit Go.Shelf
attribute [local go_sem] Oper.semAt_some
theorem Zlx (b:Nat) (w:World) :
 Calls Tryz.prog 77 #[.pointer (some ⟨b,0,none⟩)] w fun e w'=>e = .returned (.func (.func 98) #[] #[.pointer (some ⟨w.heap.size,0,none⟩)])∧Below w.heap.size w w'∧w'.cell? ⟨w.heap.size,0,none⟩=some (.pointer (some ⟨b,0,none⟩)):=by
 go_enter Tryz.func77,Tryz.ntmps77;go_wp2;go_ret;exact ⟨rfl,(Zst _ _).alloc (Zsu _) _,by go_simp⟩
theorem Zgm (kb b c:Nat) (sn:Bool) (A:Option Addr) (l:List PgT) (w:World) (hbox:w.cell? ⟨kb,0,none⟩=some (.pointer (some ⟨b,0,none⟩))) (hS:Z30 w b sn A c l) :
 Seq 98 #[.pointer (some ⟨kb,0,none⟩)] Zdc l w (Z1s b) (Z10 A):=
 ⟨YX8,fun W hW=>(Zql kb b c sn A l W ((hW.cell (Zt5 _ _ hbox)).trans hbox) (hS.new_ hW)).weak (fun _ _ h=>h.1),fun _ _ _=>Z10.trans,fun _ _=>Z10.of_priv hS.row_lt,fun _ _=>Z10.of_below hS.row_lt,fun _ _ h=>h.fr.mono (fun k _ hk=>YLd)⟩
end
section
open Go.RowKit
def Z8l (w:World) (b:Nat) (sn:Bool) (A:Option Addr) (l:List PgT) (x:PgT) (e:Ending) (w':World):Prop:=
 e = .returned (.bool (!has Z0x l x))∧∃sn' A' c',Z30 w' b sn' A' c' (put Z0x l x)∧Fr (Z0w b sn A) w w'∧Z1w w sn A sn' A'
theorem Zck (b c:Nat) (sn:Bool) (A:Option Addr) (l:List PgT) (x:PgT) (w:World) (hS:Z30 w b sn A c l) (hs:Srt Z0x l) (hl:(l.length:Int)≤100000000) (hh:has Z0x l x=true) :
 Calls Tryz.prog 71 #[.pointer (some ⟨b,0,none⟩),.agg (Q0b x)] w (Z8l w b sn A l x):=by
 have HS:=hU hS;have HO:=hU hs;clear hS hs;go_enter Tryz.func71,Tryz.ntmps71;go_wp2_with fail;refine (Z9e b c sn A l x _ (HS.o.new_ ((Zst _ _).alloc (Zsu _) _)) HO.o Ya).mono ?_;exact Yhn
theorem Zgf (b c:Nat) (sn:Bool) (A:Option Addr) (l:List PgT) (x:PgT) (w:World) (hS:Z30 w b sn A c l) (hs:Srt Z0x l) (hl:(l.length:Int)≤100000000) (hh:has Z0x l x=false) :
 Calls Tryz.prog 71 #[.pointer (some ⟨b,0,none⟩),.agg (Q0b x)] w (Z8l w b sn A l x):=by
 obtain ⟨i0,hi,Nc,rm,Aj⟩:=info_parts Zhh;refine Yc5 ?_;intro HS HO hb;clear hS hs;have iu:=Z62 (cmp:=Z0x) l x;go_enter Tryz.func71,Tryz.ntmps71;go_wp2_with fail;have Gd:=HS.o.new_ ((Zst w.heap.size w).alloc (Zsu _) (.cells (Q0b x) 150));have fm:=hU Gd;clear Gd;refine (Z9e b c sn A l x _ fm.o HO.o Ya).mono ?_;refine Ytf ?_;intro w1 Pk M2 hsz1;have y0:=(Pk.cell (p:=⟨w.heap.size,0,none⟩) Ye).trans ((Blk.new w 150 (Q0b x)).cell 0);have y1:=(Pk.cell (p:=⟨w.heap.size,1,none⟩) Ye).trans ((Blk.new w 150 (Q0b x)).cell 1);have y2:=(Pk.cell (p:=⟨w.heap.size,2,none⟩) Ye).trans ((Blk.new w 150 (Q0b x)).cell 2);have y3:=(Pk.cell (p:=⟨w.heap.size,3,none⟩) Ye).trans ((Blk.new w 150 (Q0b x)).cell 3);have y4:=(Pk.cell (p:=⟨w.heap.size,4,none⟩) Ye).trans ((Blk.new w 150 (Q0b x)).cell 4);have y5:=(Pk.cell (p:=⟨w.heap.size,5,none⟩) Ye).trans ((Blk.new w 150 (Q0b x)).cell 5);have y6:=(Pk.cell (p:=⟨w.heap.size,6,none⟩) Ye).trans ((Blk.new w 150 (Q0b x)).cell 6);have y7:=(Pk.cell (p:=⟨w.heap.size,7,none⟩) Ye).trans ((Blk.new w 150 (Q0b x)).cell 7);have y8:=(Pk.cell (p:=⟨w.heap.size,8,none⟩) Ye).trans ((Blk.new w 150 (Q0b x)).cell 8);have y9:=(Pk.cell (p:=⟨w.heap.size,9,none⟩) Ye).trans ((Blk.new w 150 (Q0b x)).cell 9);have y10:=(Pk.cell (p:=⟨w.heap.size,10,none⟩) Ye).trans ((Blk.new w 150 (Q0b x)).cell 10);have y11:=(Pk.cell (p:=⟨w.heap.size,11,none⟩) Ye).trans ((Blk.new w 150 (Q0b x)).cell 11);have y12:=(Pk.cell (p:=⟨w.heap.size,12,none⟩) Ye).trans ((Blk.new w 150 (Q0b x)).cell 12);have y13:=(Pk.cell (p:=⟨w.heap.size,13,none⟩) Ye).trans ((Blk.new w 150 (Q0b x)).cell 13);have y14:=(Pk.cell (p:=⟨w.heap.size,14,none⟩) Ye).trans ((Blk.new w 150 (Q0b x)).cell 14);have Nk:=hU Pk;clear Pk;go_wp2_with fail;refine (Zre b c sn A l _ M2.o Ya).mono ?_;refine Yet ?_;intro w2 A1 c1 F7 Td Uz hsz2;refine Yp2 ?_;intro x0;have x1:w2.cell? ⟨w.heap.size,1,none⟩=some (.int .i64 x.tr.elem.id.kind):=(Td.cell (p:=⟨w.heap.size,1,none⟩) Yg Yg).trans y1;have x2:w2.cell? ⟨w.heap.size,2,none⟩=some (.string x.tr.elem.id.text):=(Td.cell (p:=⟨w.heap.size,2,none⟩) Yg Yg).trans y2;have x3:w2.cell? ⟨w.heap.size,3,none⟩=some (.int .i64 x.tr.elem.id.n):=(Td.cell (p:=⟨w.heap.size,3,none⟩) Yg Yg).trans y3;have x4:w2.cell? ⟨w.heap.size,4,none⟩=some (.int .i64 x.tr.elem.attr.kind):=(Td.cell (p:=⟨w.heap.size,4,none⟩) Yg Yg).trans y4
 have x5:w2.cell? ⟨w.heap.size,5,none⟩=some (.string x.tr.elem.attr.text):=(Td.cell (p:=⟨w.heap.size,5,none⟩) Yg Yg).trans y5;have x6:w2.cell? ⟨w.heap.size,6,none⟩=some (.int .i64 x.tr.elem.attr.n):=(Td.cell (p:=⟨w.heap.size,6,none⟩) Yg Yg).trans y6;have x7:w2.cell? ⟨w.heap.size,7,none⟩=some (.int .i64 x.tr.elem.value.kind):=(Td.cell (p:=⟨w.heap.size,7,none⟩) Yg Yg).trans y7;have x8:w2.cell? ⟨w.heap.size,8,none⟩=some (.string x.tr.elem.value.text):=(Td.cell (p:=⟨w.heap.size,8,none⟩) Yg Yg).trans y8;have x9:w2.cell? ⟨w.heap.size,9,none⟩=some (.int .i64 x.tr.elem.value.n):=(Td.cell (p:=⟨w.heap.size,9,none⟩) Yg Yg).trans y9;have R6:w2.cell? ⟨w.heap.size,10,none⟩=some (.bool x.tr.elem.acc):=(Td.cell (p:=⟨w.heap.size,10,none⟩) Yg Yg).trans y10;have sh:w2.cell? ⟨w.heap.size,11,none⟩=some (.bool x.tr.elem.goal):=(Td.cell (p:=⟨w.heap.size,11,none⟩) Yg Yg).trans y11;have R7:w2.cell? ⟨w.heap.size,12,none⟩=some (.int .i64 x.tr.elem.tag):=(Td.cell (p:=⟨w.heap.size,12,none⟩) Yg Yg).trans y12;have te:w2.cell? ⟨w.heap.size,13,none⟩=some (.int .i64 x.tr.level):=(Td.cell (p:=⟨w.heap.size,13,none⟩) Yg Yg).trans y13;have tf:w2.cell? ⟨w.heap.size,14,none⟩=some (.int .i64 x.tr.cause):=(Td.cell (p:=⟨w.heap.size,14,none⟩) Yg Yg).trans y14;refine Y11 ?_;intro s0 f0 hb2 L5 fk qq Vy;clear F7 Td Uz y0 y1 y2 y3 y4 y5 y6 y7 y8 y9 y10 y11 y12 y13 y14;go_wp2_with fail;refine Z03 (fun w9=>Below w2.heap.size w2 w9) [(0,0),(1,0),(2,0),(3,0),(4,1),(5,1),(6,2),(7,2),(8,0),(9,0),(10,2)] Yb Yb (fun KK hKK=>?_);refine Yg8 ?_;intro K9 hK9
 refine Z0l _ Yd _ _ _ Yd 150 i0 _ 15 136 Tryz.underlying203 hi Nc rm Aj rfl Ya _ l.length (l.flatMap PgT.cells) Yd (Z02 fk.o.row (((Zst _ _).drew).alloc (Zsu _) _)) (some ⟨w2.heap.size,0,none⟩) 1 1 (PgT.cells x) Yd Yd
  (fun _=>⟨_,rfl,Zte (heap_alloc_new _ _)⟩) (PgT.one x) Yj Ya ?_
 intro v2 w3 Od Cf Si Xd;refine Y8n ?_;clear hK9 K9
 obtain ⟨g,c2,rfl⟩:∃g c2,v2 = .slice (some ⟨g,0,none⟩) (l.length+1) c2:=by
  exact Yrs
 have uw:(Value.slice A1 l.length c1).ownBlock≠some w.heap.size:=by
  exact Y9b
 have pm:=(fk.o.blk.drew.alloc (.cells (Q0b x) 150)).grown Cf (Z01 fk.o.row fk.o.blk Yc);refine Yq7 ?_;intro c0 z0 Ue ss yr;clear pm Od Cf;refine Ybt ?_;refine Y1l ?_;clear hKK KK;refine Y4c ?_;intro hlg
 have hG:(Z0w b sn A g∨w.heap.size≤g)∧Z1w w sn A false (some ⟨g,0,none⟩)∧g≠w.heap.size∧g≠b:=by
  exact Y1k
 obtain ⟨Cr,C5,Lu,Dg⟩:=hG;refine Yp0 ?_;intro w4 N8;have Ll:Blk w4 b 205 #[.slice (some ⟨g,0,none⟩) (l.length+1) c2,.bool false]:=YDu
 have jy:w4.ownsRow 0 150 15 (.slice (some ⟨g,0,none⟩) (l.length+1) c2) (l.length+1) ((Z0k l x l.length).flatMap PgT.cells):=by
  exact Yei
 have uc:Fr (Z0w b sn A) w w4:=by
  exact Yh8
 have z0:w4.cell? ⟨w.heap.size,0,none⟩=some (.int .i64 x.kk):=by
  exact Y07
 have z1:w4.cell? ⟨w.heap.size,1,none⟩=some (.int .i64 x.tr.elem.id.kind):=by
  exact Ysn
 have z2:w4.cell? ⟨w.heap.size,2,none⟩=some (.string x.tr.elem.id.text):=by
  exact Yoh
 have z3:w4.cell? ⟨w.heap.size,3,none⟩=some (.int .i64 x.tr.elem.id.n):=by
  exact Yx0
 have z4:w4.cell? ⟨w.heap.size,4,none⟩=some (.int .i64 x.tr.elem.attr.kind):=by
  exact Y48
 have z5:w4.cell? ⟨w.heap.size,5,none⟩=some (.string x.tr.elem.attr.text):=by
  exact Yhz
 have z6:w4.cell? ⟨w.heap.size,6,none⟩=some (.int .i64 x.tr.elem.attr.n):=by
  exact Y2d
 have z7:w4.cell? ⟨w.heap.size,7,none⟩=some (.int .i64 x.tr.elem.value.kind):=by
  rw [N8,World.cell?_setCell_other _ _ _ _ Ym];refine yr.o.cell ((World.cell?_alloc_lt w2.drew _ ⟨w.heap.size,7,none⟩ L5).trans x7) ?_;exact Ytz
 have z8:w4.cell? ⟨w.heap.size,8,none⟩=some (.string x.tr.elem.value.text):=by
  rw [N8,World.cell?_setCell_other _ _ _ _ Ym];refine yr.o.cell ((World.cell?_alloc_lt w2.drew _ ⟨w.heap.size,8,none⟩ L5).trans x8) ?_;exact Ytz
 have z9:w4.cell? ⟨w.heap.size,9,none⟩=some (.int .i64 x.tr.elem.value.n):=by
  rw [N8,World.cell?_setCell_other _ _ _ _ Ym];refine yr.o.cell ((World.cell?_alloc_lt w2.drew _ ⟨w.heap.size,9,none⟩ L5).trans x9) ?_;exact Ytz
 have z10:w4.cell? ⟨w.heap.size,10,none⟩=some (.bool x.tr.elem.acc):=by
  rw [N8,World.cell?_setCell_other _ _ _ _ Ym];refine yr.o.cell ((World.cell?_alloc_lt w2.drew _ ⟨w.heap.size,10,none⟩ L5).trans R6) ?_;exact Ytz
 have z11:w4.cell? ⟨w.heap.size,11,none⟩=some (.bool x.tr.elem.goal):=by
  rw [N8,World.cell?_setCell_other _ _ _ _ Ym];refine yr.o.cell ((World.cell?_alloc_lt w2.drew _ ⟨w.heap.size,11,none⟩ L5).trans sh) ?_;exact Ytz
 have z12:w4.cell? ⟨w.heap.size,12,none⟩=some (.int .i64 x.tr.elem.tag):=by
  rw [N8,World.cell?_setCell_other _ _ _ _ Ym];refine yr.o.cell ((World.cell?_alloc_lt w2.drew _ ⟨w.heap.size,12,none⟩ L5).trans R7) ?_;exact Ytz
 have z13:w4.cell? ⟨w.heap.size,13,none⟩=some (.int .i64 x.tr.level):=by
  rw [N8,World.cell?_setCell_other _ _ _ _ Ym];refine yr.o.cell ((World.cell?_alloc_lt w2.drew _ ⟨w.heap.size,13,none⟩ L5).trans te) ?_;exact Ytz
 have z14:w4.cell? ⟨w.heap.size,14,none⟩=some (.int .i64 x.tr.cause):=by
  rw [N8,World.cell?_setCell_other _ _ _ _ Ym];refine yr.o.cell ((World.cell?_alloc_lt w2.drew _ ⟨w.heap.size,14,none⟩ L5).trans tf) ?_;exact Ytz
 refine Yn7 ?_;intro Ku;intro sk Kw Ni pq ae s4 E7;clear s4 N8 Ll jy uc Xd Cr C5 Si x0 x1 x2 x3 x4 x5 x6 x7 x8 x9 R6 sh R7 te tf s0 f0;go_wp2_with fail
 go_loopw [7] (fun s wr=>∃i:Nat,s = .int .i64 i∧rank Z0x l x≤i∧i≤l.length∧wr.ownsRow 0 150 15 (.slice (some ⟨g,0,none⟩) (l.length+1) c2) (l.length+1) ((Z0k l x i).flatMap PgT.cells)∧Fr (· = g) w4 wr) (fun s wr=>(intOf s).toNat)
 case atStart=>exact ⟨l.length,Yn,iu,Zsu _,pq.o,Fr.refl _ _⟩
 case round=>
  obtain ⟨i,rfl,hi1,ul,Od,zp⟩:=hrel;refine Yul ?_;intro hgw r0 fz Cj Is;clear Od zp;by_cases hlt:rank Z0x l x<i
  · obtain ⟨j,rfl⟩:∃j,i=j+1:=⟨i - 1,Ya⟩
    have hj:j<l.length:=Ya;have Xm:=Z0e (A:=some ⟨g,0,none⟩) (c:=c2) (l:=Z0k l x (j+1)) PgT.cells_length YCh;obtain ⟨g',o',Pm,_,R9⟩:=Xm.at_ (k:=j) Yu;injection Pm with Pm;injection Pm with hg1 hg2;subst hg1;subst hg2;rw [Z2n l x hj] at R9;have q0:wr.cell? ⟨g,j*15,none⟩=some (.int .i64 l[j].kk):=Yq;have q1:wr.cell? ⟨g,j*15+1,none⟩=some (.int .i64 l[j].tr.elem.id.kind):=YO5;have q2:wr.cell? ⟨g,j*15+2,none⟩=some (.string l[j].tr.elem.id.text):=YFu;have q3:wr.cell? ⟨g,j*15+3,none⟩=some (.int .i64 l[j].tr.elem.id.n):=YKg;have q4:wr.cell? ⟨g,j*15+4,none⟩=some (.int .i64 l[j].tr.elem.attr.kind):=YI7;have q5:wr.cell? ⟨g,j*15+5,none⟩=some (.string l[j].tr.elem.attr.text):=YU1;have q6:wr.cell? ⟨g,j*15+6,none⟩=some (.int .i64 l[j].tr.elem.attr.n):=YTq;have q7:wr.cell? ⟨g,j*15+7,none⟩=some (.int .i64 l[j].tr.elem.value.kind):=YN7;have q8:wr.cell? ⟨g,j*15+8,none⟩=some (.string l[j].tr.elem.value.text):=YQ3;(have q9:wr.cell? ⟨g,j*15+9,none⟩=some (.int .i64 l[j].tr.elem.value.n):=by simpa using R9 9 _ rfl);(have Jw:wr.cell? ⟨g,j*15+10,none⟩=some (.bool l[j].tr.elem.acc):=by simpa using R9 10 _ rfl);(have P8:wr.cell? ⟨g,j*15+11,none⟩=some (.bool l[j].tr.elem.goal):=by simpa using R9 11 _ rfl);(have i5:wr.cell? ⟨g,j*15+12,none⟩=some (.int .i64 l[j].tr.elem.tag):=by simpa using R9 12 _ rfl);(have Nb:wr.cell? ⟨g,j*15+13,none⟩=some (.int .i64 l[j].tr.level):=by simpa using R9 13 _ rfl);have j3:wr.cell? ⟨g,j*15+14,none⟩=some (.int .i64 l[j].tr.cause):=by simpa using R9 14 _ rfl
    have rmj:Room wr g 150 (c2*15)∧l.length+1≤c2:=by
     exact Yty
    obtain ⟨zm,re⟩:=rmj;refine Yqp ?_;intro b0 b1 b4 b2 b3 w1 w2;have u9:=hU zm;clear R9 Xm zm;refine Yay ?_;intro y hy;rw [←hy] at q0 q1 q2 q3 q4 q5 q6 q7 q8 q9 Jw P8 i5 Nb j3;refine Ybq ?_;intro HY U9;clear hy;go_wp2_with fail;refine Z03 (fun w9=>Below wr.heap.size wr w9) [(0,0),(1,0),(2,0),(3,1),(4,0),(5,0),(6,0),(7,0),(8,1),(9,0),(10,0),(11,0),(12,1),(13,0),(14,2)] Yb Yb (fun KK hKK=>?_);refine Ybp ?_;refine Z1m Yb (fun K9 hK9=>?_);refine Z0h rfl 150 (.tmp 53) (.tmp 52) rfl g ((j+1)*15) (Q0b y) Yd Yd (Room.there (w:=wr.drew) u9.o.drew Yk) Yb (all_oneCell_toArray (cs:=PgT.cells y) (PgT.one y)) ?_;refine Y8n ?_;clear hK9 K9;refine Yf0 ?_;clear hKK KK;go_wp2_with fail;go_roundw
    case rel=>
     refine ⟨j,Yn,Ya,Ya,?_,Fr.setCells _ _ (Fr.drew Is.o) (.inl rfl)⟩;have Ss:=Z37 PgT.cells_length Ya (show wr.drew.ownsRow 0 150 15 (.slice (some ⟨g,0,none⟩) (l.length+1) c2) (l.length+1) ((Z0k l x (j+1)).flatMap PgT.cells) from Cj.o) (j+1) Yu y;exact Ykc
    case measure=>simp [intOf]<;>omega
  · obtain rfl:i=rank Z0x l x:=by omega
    have rmj:Room wr g 150 (c2*15)∧l.length+1≤c2:=by
     exact Yty
    obtain ⟨zm,re⟩:=rmj;obtain ⟨k,hk⟩:∃k,k=rank Z0x l x:=⟨_,rfl⟩;rw [←hk] at ul hlt ⊢;refine Yr2 ?_;intro x0 x1 x2;refine Ymn ?_;intro x3 x4 x5 x6;have x7:=(Is.o.cell (p:=⟨w.heap.size,7,none⟩) Ku (fun h=>Lu h.symm)).trans z7;have x8:=(Is.o.cell (p:=⟨w.heap.size,8,none⟩) Ku (fun h=>Lu h.symm)).trans z8;have x9:=(Is.o.cell (p:=⟨w.heap.size,9,none⟩) Ku (fun h=>Lu h.symm)).trans z9;have R6:=(Is.o.cell (p:=⟨w.heap.size,10,none⟩) Ku (fun h=>Lu h.symm)).trans z10;have sh:=(Is.o.cell (p:=⟨w.heap.size,11,none⟩) Ku (fun h=>Lu h.symm)).trans z11;have R7:=(Is.o.cell (p:=⟨w.heap.size,12,none⟩) Ku (fun h=>Lu h.symm)).trans z12;have te:=(Is.o.cell (p:=⟨w.heap.size,13,none⟩) Ku (fun h=>Lu h.symm)).trans z13;have tf:=(Is.o.cell (p:=⟨w.heap.size,14,none⟩) Ku (fun h=>Lu h.symm)).trans z14;refine Ya8 ?_;intro b1 b2 HK hkw U9;have u9:=hU zm;clear zm hk z0 z1 z2 z3 z4 z5 z6 z7 z8 z9 z10 z11 z12 z13 z14;go_wp2_with fail;refine Z03 (fun w9=>Below wr.heap.size wr w9) [(0,0),(1,0),(2,0),(3,1),(4,0),(5,1),(6,0),(7,2)] Yb Yb (fun KK hKK=>?_);refine Ybp ?_;refine Z1m Yb (fun K9 hK9=>?_);refine Z0h rfl 150 (.tmp 60) (.tmp 59) rfl g (k*15) (Q0b x) Yd Yd (Room.there (w:=wr.drew) u9.o.drew Yk) Yb (all_oneCell_toArray (cs:=PgT.cells x) (PgT.one x)) ?_;refine Y8n ?_;clear hK9 K9;refine Yf0 ?_;clear hKK KK;go_wp2_with fail;go_ret;have uy:=Cj.o;rw [←HK.o] at uy
    have Ss:=Z37 PgT.cells_length Ya (show wr.drew.ownsRow 0 150 15 (.slice (some ⟨g,0,none⟩) (l.length+1) c2) (l.length+1) ((Z0k l x k).flatMap PgT.cells) from uy) k Yu x;(have e9:(Z0k l x k).set k x=put Z0x l x:=by rw [Z3b l x ul,Z6b Z56 HO.o hh,HK.o]);rw [e9] at Ss;have ju:=Z2y Z56 HO.o hh;exact Yrf
theorem Zml (b c:Nat) (sn:Bool) (A:Option Addr) (l:List PgT) (x:PgT) (w:World) (hS:Z30 w b sn A c l) (hs:Srt Z0x l) (hl:(l.length:Int)≤100000000) :
 Calls Tryz.prog 71 #[.pointer (some ⟨b,0,none⟩),.agg (Q0b x)] w (Z8l w b sn A l x):=by
 cases hh:has Z0x l x
 · exact Zgf b c sn A l x w hS hs hl hh
 · exact Zck b c sn A l x w hS hs hl hh
theorem Zb2 (b c:Nat) (sn:Bool) (A:Option Addr) (l:List PgT) (x:PgT) (w:World) (hS:Z30 w b sn A c l) (hs:Srt Z0x l) (hl:(l.length:Int)≤1000000000) (hh:has Z0x l x=false) :
 Calls Tryz.prog 69 #[.pointer (some ⟨b,0,none⟩),.agg (Q0b x)] w fun e w'=>e = .returned (.tuple #[.agg Q2t,.bool false])∧Below w.heap.size w w':=by
 have HS:=hU hS;have HO:=hU hs;clear hS hs;go_enter Tryz.func69,Tryz.ntmps69;go_wp2_with fail;refine Yfr ?_;intro W hW hR
 have hZ:Blk W (w.heap.size+1+1) 150 Q2t:=by
  rw [hW];have:=Blk.new ((w.alloc (.cells (Q0b x) 150)).alloc (.cells Q2t 150)) 150 Q2t;exact Yuu
 have Lg:Below w.heap.size w W:=YPh;rw [←hW];clear hW;refine (Z9e b c sn A l x _ (HS.o.new_ Lg) HO.o Ya).mono ?_;rintro e w1 ⟨rfl,Pk⟩;have HR:=hU (hR.new_ Pk);have HZ:=hU (hZ.new_ Pk);have HB:=hU (Lg.trans (Pk.mono Lg.size));have hrl:=(hR.new_ Pk).lt;clear Pk Lg hR hZ;(go_wp2_with (first|(with_reducible refine wpList_load_mid rfl 150 _ rfl (w.heap.size+1+1) 0 rfl Q2u _ HZ.o.range Tryz.underlying150 rfl Yb ?_)|(with_reducible refine wpList_store_mid rfl 150 _ _ rfl (w.heap.size+1) 0 Q2t rfl rfl HR.o.there Yb Yb ?_)));refine Ykv ?_;refine bodyPost_ret (v:=.tuple #[.agg Q2t,.bool false]) ?_ rfl ⟨rfl,Below.setCells' _ _ HB.o Ya⟩;exact Z0n (t:=4) (s:=5) (T:=150) rfl _ _ (w.heap.size+1) Q2u _ rfl (Zsy w1 (w.heap.size+1) 0 Q2u HR.o.there) Tryz.underlying150 rfl Yb
theorem Zim (b c:Nat) (sn:Bool) (A:Option Addr) (l:List PgT) (x y:PgT) (w:World) (hS:Z30 w b sn A c l) (hs:Srt Z0x l) (hl:(l.length:Int)≤1000000000) (hh:has Z0x l x=true) (hy:l[rank Z0x l x]? = some y) :
 Calls Tryz.prog 69 #[.pointer (some ⟨b,0,none⟩),.agg (Q0b x)] w fun e w'=>e = .returned (.tuple #[.agg (Q0b y),.bool true])∧Below w.heap.size w w':=by
 have HS:=hU hS;have HO:=hU hs;obtain ⟨iu,xf⟩:=Ztp.1 hy;have Xm:=hS.rd PgT.cells_length;have s0:=hS.cell0;have hb:=hS.lt;clear hS hs hy;obtain ⟨g,off,rfl,Fu,Gk⟩:=Xm.range iu;rw [xf] at Gk;obtain ⟨k,hk⟩:∃k,k=rank Z0x l x:=⟨_,rfl⟩;rw [←hk] at Gk iu;refine Ysh ?_;intro b1 b2;have HK:=hU hk;have ly:=hU Gk;clear Gk Xm xf hk;go_enter Tryz.func69,Tryz.ntmps69;go_wp2_with fail;refine Yfr ?_;intro W hW hR
 have Lg:Below w.heap.size w W:=YPh;rw [←hW];clear hW;refine (Z9e b c sn _ l x _ (HS.o.new_ Lg) HO.o Ya).mono ?_;rintro e w1 ⟨rfl,Pk⟩;rw [←HK.o];have HR:=hU (hR.new_ Pk);have HB:=hU (Lg.trans (Pk.mono Lg.size));have hrl:=(hR.new_ Pk).lt;have r0:w1.cell? ⟨b,0,none⟩=some (.slice (some ⟨g,off,none⟩) l.length c):=(HB.o.cell (p:=⟨b,0,none⟩) hb).trans s0;have Nw:=hU (show w1.there (w.heap.size+1) 0 ((Q0b y):Array Value).size from HR.o.there);have HRG1:=hU (show w1.rangeAt g (off+k*15) (Q0a y) from Z22 ly.o HB.o Fu);clear Pk Lg hR s0;(go_wp2_with (first|(with_reducible refine wpList_load_mid rfl 150 _ rfl g (off+k*15) rfl (Q0a y) _ HRG1.o Tryz.underlying150 rfl Yb ?_)|(with_reducible refine wpList_store_mid rfl 150 _ _ rfl (w.heap.size+1) 0 (Q0b y) rfl rfl Nw.o Yb Yb ?_)));refine Ykv ?_;refine bodyPost_ret (v:=.tuple #[.agg (Q0b y),.bool true]) ?_ rfl ⟨rfl,Below.setCells' _ _ HB.o Ya⟩;exact Z0n (t:=4) (s:=5) (T:=150) rfl _ _ (w.heap.size+1) (Q0a y) _ rfl (Zsy w1 (w.heap.size+1) 0 (Q0a y) Nw.o) Tryz.underlying150 rfl Yb
end
end Go.Proofs.YtcnnofgaifcgaaaGreat
