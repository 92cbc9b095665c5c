/-
  Texts put together: PutSym, NewSym, KitSyms, Shape1, Shape3, Shape4, ShapeWalk, KeepHeavy, BkTests2.
-/
import Derived.Test.YtcnnofgaifcgaaaGreatPTd
namespace Go.Proofs.YtcnnofgaifcgaaaGreat
set_option maxRecDepth 100000
set_option maxHeartbeats 32000000
set_option linter.unusedSimpArgs false
section
open Go.RowKit
def Z8m (w:World) (b:Nat) (sn:Bool) (A:Option Addr) (l:List Sym) (x:Sym) (e:Ending) (w':World):Prop:=
 e = .returned (.bool (!has Z0o l x))∧∃sn' A' c',Z67 w' b sn' A' c' (put Z0o l x)∧Fr (Z0w b sn A) w w'∧Z1w w sn A sn' A'
theorem Zcl (b c:Nat) (sn:Bool) (A:Option Addr) (l:List Sym) (x:Sym) (w:World) (hS:Z67 w b sn A c l) (hs:Srt Z0o l) (hl:(l.length:Int)≤100000000) (hh:has Z0o l x=true) :
 Calls Tryz.prog 44 #[.pointer (some ⟨b,0,none⟩),.agg (Q1d x)] w (Z8m w b sn A l x):=by
 have HS:=hU hS;have HO:=hU hs;clear hS hs;go_enter Tryz.func44,Tryz.ntmps44;go_wp2_with fail;refine (Zh5 b c sn A l x _ (HS.o.new_ ((Zst _ _).alloc (Zsu _) _)) HO.o Ya).mono ?_;exact Yhn
theorem Zgg (b c:Nat) (sn:Bool) (A:Option Addr) (l:List Sym) (x:Sym) (w:World) (hS:Z67 w b sn A c l) (hs:Srt Z0o l) (hl:(l.length:Int)≤100000000) (hh:has Z0o l x=false) :
 Calls Tryz.prog 44 #[.pointer (some ⟨b,0,none⟩),.agg (Q1d x)] w (Z8m w b sn A l x):=by
 obtain ⟨i0,hi,Nc,rm,Aj⟩:=info_parts Zhi;refine Yc5 ?_;intro HS HO hb;clear hS hs;have iu:=Z62 (cmp:=Z0o) l x;go_enter Tryz.func44,Tryz.ntmps44;go_wp2_with fail;have Gd:=HS.o.new_ ((Zst w.heap.size w).alloc (Zsu _) (.cells (Q1d x) 41));have fm:=hU Gd;clear Gd;refine (Zh5 b c sn A l x _ fm.o HO.o Ya).mono ?_;refine Ytf ?_;intro w1 Pk M2 hsz1;have y0:=(Pk.cell (p:=⟨w.heap.size,0,none⟩) Ye).trans ((Blk.new w 41 (Q1d x)).cell 0);have y1:=(Pk.cell (p:=⟨w.heap.size,1,none⟩) Ye).trans ((Blk.new w 41 (Q1d x)).cell 1);have y2:=(Pk.cell (p:=⟨w.heap.size,2,none⟩) Ye).trans ((Blk.new w 41 (Q1d x)).cell 2);have Nk:=hU Pk;clear Pk;go_wp2_with fail;refine (Zrf b c sn A l _ M2.o Ya).mono ?_;refine Yet ?_;intro w2 A1 c1 F7 Td Uz hsz2;have x0:w2.cell? ⟨w.heap.size,0,none⟩=some (.int .i64 x.kind):=(Td.cell (p:=⟨w.heap.size,0,none⟩) Yg Yg).trans y0;have x1:w2.cell? ⟨w.heap.size,1,none⟩=some (.string x.text):=(Td.cell (p:=⟨w.heap.size,1,none⟩) Yg Yg).trans y1;have x2:w2.cell? ⟨w.heap.size,2,none⟩=some (.int .i64 x.n):=(Td.cell (p:=⟨w.heap.size,2,none⟩) Yg Yg).trans y2;refine Y11 ?_;intro s0 f0 hb2 L5 fk qq Vy;clear F7 Td Uz y0 y1 y2;go_wp2_with fail;refine Z03 (fun w9=>Below w2.heap.size w2 w9) [(0,0),(1,0),(2,0),(3,0),(4,1),(5,1),(6,2),(7,2),(8,0),(9,0),(10,2)] Yb Yb (fun KK hKK=>?_);refine Yg8 ?_;intro K9 hK9
 refine Z0l _ Yd _ _ _ Yd 41 i0 _ 3 32 Tryz.underlying34 hi Nc rm Aj rfl Ya _ l.length (l.flatMap Sym.cells) Yd (Z02 fk.o.row (((Zst _ _).drew).alloc (Zsu _) _)) (some ⟨w2.heap.size,0,none⟩) 1 1 (Sym.cells x) Yd Yd
  (fun _=>⟨_,rfl,Zte (heap_alloc_new _ _)⟩) (Sym.one x) Yj Ya ?_
 intro v2 w3 Od Cf Si Xd;refine Y8n ?_;clear hK9 K9
 obtain ⟨g,c2,rfl⟩:∃g c2,v2 = .slice (some ⟨g,0,none⟩) (l.length+1) c2:=by
  exact Yrs
 have uw:(Value.slice A1 l.length c1).ownBlock≠some w.heap.size:=by
  exact Y9b
 have pm:=(fk.o.blk.drew.alloc (.cells (Q1d x) 41)).grown Cf (Z01 fk.o.row fk.o.blk Yc);refine Yq7 ?_;intro c0 z0 Ue ss yr;clear pm Od Cf;refine Ybt ?_;refine Y1l ?_;clear hKK KK;refine Y4c ?_;intro hlg
 have hG:(Z0w b sn A g∨w.heap.size≤g)∧Z1w w sn A false (some ⟨g,0,none⟩)∧g≠w.heap.size∧g≠b:=by
  exact Y1k
 obtain ⟨Cr,C5,Lu,Dg⟩:=hG;refine Yp0 ?_;intro w4 N8;have Ll:Blk w4 b 154 #[.slice (some ⟨g,0,none⟩) (l.length+1) c2,.bool false]:=YDu
 have jy:w4.ownsRow 0 41 3 (.slice (some ⟨g,0,none⟩) (l.length+1) c2) (l.length+1) ((Z0k l x l.length).flatMap Sym.cells):=by
  exact Yei
 have uc:Fr (Z0w b sn A) w w4:=by
  exact Yh8
 have z0:w4.cell? ⟨w.heap.size,0,none⟩=some (.int .i64 x.kind):=by
  exact Y07
 have z1:w4.cell? ⟨w.heap.size,1,none⟩=some (.string x.text):=by
  exact Ysn
 have z2:w4.cell? ⟨w.heap.size,2,none⟩=some (.int .i64 x.n):=by
  exact Yoh
 refine Yn7 ?_;intro Ku;intro sk Kw Ni pq ae s4 E7;clear s4 N8 Ll jy uc Xd Cr C5 Si x0 x1 x2 s0 f0;go_wp2_with fail
 go_loopw [7] (fun s wr=>∃i:Nat,s = .int .i64 i∧rank Z0o l x≤i∧i≤l.length∧wr.ownsRow 0 41 3 (.slice (some ⟨g,0,none⟩) (l.length+1) c2) (l.length+1) ((Z0k l x i).flatMap Sym.cells)∧Fr (· = g) w4 wr) (fun s wr=>(intOf s).toNat)
 case atStart=>exact ⟨l.length,Yn,iu,Zsu _,pq.o,Fr.refl _ _⟩
 case round=>
  obtain ⟨i,rfl,hi1,ul,Od,zp⟩:=hrel;refine Yul ?_;intro hgw r0 fz Cj Is;clear Od zp;by_cases hlt:rank Z0o l x<i
  · obtain ⟨j,rfl⟩:∃j,i=j+1:=⟨i - 1,Ya⟩
    have hj:j<l.length:=Ya;have Xm:=Z0e (A:=some ⟨g,0,none⟩) (c:=c2) (l:=Z0k l x (j+1)) Sym.cells_length YCh;obtain ⟨g',o',Pm,_,R9⟩:=Xm.at_ (k:=j) Yu;injection Pm with Pm;injection Pm with hg1 hg2;subst hg1;subst hg2;rw [Z2n l x hj] at R9;have q0:wr.cell? ⟨g,j*3,none⟩=some (.int .i64 l[j].kind):=Yq;have q1:wr.cell? ⟨g,j*3+1,none⟩=some (.string l[j].text):=YO5;have q2:wr.cell? ⟨g,j*3+2,none⟩=some (.int .i64 l[j].n):=YFu
    have rmj:Room wr g 41 (c2*3)∧l.length+1≤c2:=by
     exact Yty
    obtain ⟨zm,re⟩:=rmj;obtain ⟨u0,t0⟩:=zm.cell (i:=(j+1)*3) Ya;obtain ⟨u1,t1⟩:=zm.cell (i:=(j+1)*3+1) Ya;obtain ⟨u2,t2⟩:=zm.cell (i:=(j+1)*3+2) Ya;refine Yqp ?_;intro b0 b1 b4 b2 b3 w1 w2;clear R9 Xm zm;refine Yay ?_;intro y hy;rw [←hy] at q0 q1 q2;refine Ybq ?_;intro HY U9;clear hy;go_wp2_with fail;refine Z03 (fun w9=>Below wr.heap.size wr w9) [(0,0),(1,0),(2,0),(3,1),(4,0),(5,0),(6,0),(7,0),(8,1),(9,0),(10,0),(11,0),(12,1),(13,0),(14,2)] Yb Yb (fun KK hKK=>?_);refine Yzy ?_;clear hKK KK;go_wp2_with fail;go_roundw
    case rel=>
     refine ⟨j,Yn,Ya,Ya,?_,Fr.drew ((((Is.o).setCell (p:=⟨g,(j+1)*3,none⟩) (.inl rfl) (_)).setCell (p:=⟨g,(j+1)*3+1,none⟩) (.inl rfl) (_)).setCell (p:=⟨g,(j+1)*3+2,none⟩) (.inl rfl) (_))⟩;have Ss:=((((((Cj.o).stored ((j+1)*3) (.int .i64 y.kind)).1).stored ((j+1)*3+1) (.string y.text)).1).stored ((j+1)*3+2) (.int .i64 y.n)).1
     have he:setAll ((Z0k l x (j+1)).flatMap Sym.cells) ((j+1)*3) (Sym.cells y)=(Z0k l x j).flatMap Sym.cells:=by
      rw [Z4r Sym.cells_length Ya _ (j+1) Yu,HY.o,Z2o l x hj]
     rw [←he];exact Ss
    case measure=>simp [intOf]<;>omega
  · obtain rfl:i=rank Z0o l x:=by omega
    have rmj:Room wr g 41 (c2*3)∧l.length+1≤c2:=by
     exact Yty
    obtain ⟨zm,re⟩:=rmj;obtain ⟨k,hk⟩:∃k,k=rank Z0o l x:=⟨_,rfl⟩;rw [←hk] at ul hlt ⊢;obtain ⟨u0,t0⟩:=zm.cell (i:=k*3) Ya;obtain ⟨u1,t1⟩:=zm.cell (i:=k*3+1) Ya;obtain ⟨u2,t2⟩:=zm.cell (i:=k*3+2) Ya;refine Yr2 ?_;intro x0 x1 x2;refine Ya8 ?_;intro b1 b2 HK hkw U9;clear zm hk z0 z1 z2;go_wp2_with fail;refine Z03 (fun w9=>Below wr.heap.size wr w9) [(0,0),(1,0),(2,0),(3,1),(4,0),(5,1),(6,0),(7,2)] Yb Yb (fun KK hKK=>?_);refine Yzy ?_;clear hKK KK;go_wp2_with fail;go_ret;have uy:=Cj.o;rw [←HK.o] at uy;have Ss:=((((((uy).stored (k*3) (.int .i64 x.kind)).1).stored (k*3+1) (.string x.text)).1).stored (k*3+2) (.int .i64 x.n)).1
    have he:setAll ((Z0k l x k).flatMap Sym.cells) (k*3) (Sym.cells x)=(put Z0o l x).flatMap Sym.cells:=by
     rw [Z4r Sym.cells_length Ya _ k Yu,Z3b l x ul,Z6b Z40 HO.o hh,HK.o]
    have ju:=Z2y Z40 HO.o hh;refine ⟨YUb,false,some ⟨g,0,none⟩,c2,⟨?_,?_⟩,?_,?_⟩
    · rw [ju]
      exact (((Ni.o.fr Is.o (fun h=>Dg h.symm)).far (p:=⟨g,k*3,none⟩) (fun h=>Dg h.symm) _).far (p:=⟨g,k*3+1,none⟩) (fun h=>Dg h.symm) _).far (p:=⟨g,k*3+2,none⟩) (fun h=>Dg h.symm) _
    · rw [ju,←he]
      exact Ss
    · exact ae.o.into (Fr.drew ((((Is.o).setCell (p:=⟨g,k*3,none⟩) (.inl rfl) (_)).setCell (p:=⟨g,k*3+1,none⟩) (.inl rfl) (_)).setCell (p:=⟨g,k*3+2,none⟩) (.inl rfl) (_))) (fun k hk=>YWh)
    · exact Kw.o
theorem Zmm (b c:Nat) (sn:Bool) (A:Option Addr) (l:List Sym) (x:Sym) (w:World) (hS:Z67 w b sn A c l) (hs:Srt Z0o l) (hl:(l.length:Int)≤100000000) :
 Calls Tryz.prog 44 #[.pointer (some ⟨b,0,none⟩),.agg (Q1d x)] w (Z8m w b sn A l x):=by
 cases hh:has Z0o l x
 · exact Zgg b c sn A l x w hS hs hl hh
 · exact Zcl b c sn A l x w hS hs hl hh
def Zi4 (w:World) (xs:List Sym) (e:Ending) (w':World):Prop:=
 ∃k,e = .returned (.pointer (some ⟨k,0,none⟩))∧w.heap.size≤k∧∃sn A c,Z67 w' k sn A c (puts Z0o [] xs)∧AIn A (w.heap.size≤·)∧Below w.heap.size w w'
theorem Zr9 (A:Option Addr) (c:Nat) (xs:List Sym) (w:World) (hrd:Z0y w 3 Sym.cells A c xs) (hl:(xs.length:Int)≤10000000) :
 Calls Tryz.prog 39 #[.slice A xs.length c] w (Zi4 w xs):=by
 have Ww:=hU hrd;clear hrd;go_enter Tryz.func39,Tryz.ntmps39;go_wp2_with fail;obtain ⟨W0,rp⟩:∃W0,W0=w.alloc (.cells #[.slice none 0 0,.bool false] 154):=⟨_,rfl⟩;have yj:Below w.heap.size w W0:=Yp;have Ud:Z67 W0 w.heap.size false none 0 []:=⟨Yw,⟨Ye,.inl ⟨rfl,rfl⟩⟩⟩;rw [←rp];clear rp;have jv:=hU yj;have Vf:=hU Ud;clear yj Ud
 go_loopw [10] (fun s wr=>∃i:Nat,s = .int .i64 i∧i≤xs.length∧∃sn A' c',Z67 wr w.heap.size sn A' c' (puts Z0o [] (xs.take i))∧AIn A' (w.heap.size≤·)∧Below w.heap.size w wr) (fun s wr=>xs.length - (intOf s).toNat)
 case atStart=>exact ⟨0,rfl,Nat.zero_le _,false,none,0,Vf.o,AIn.none_ _,jv.o⟩
 case round=>
  obtain ⟨i,rfl,hi,sn,A',c',hS,Ml,hB⟩:=hrel;have HS:=hU hS;have HA:=hU Ml;have HB:=hU hB;clear hS Ml hB;by_cases hlt:i<xs.length
  · refine Ycc ?_;intro x hx
    obtain ⟨g,off,rfl,hgs,R9⟩:=(Ww.o.fr (Fr.of_new (M:=fun _=>False) HB.o) (fun _ _ h=>h)).at_ hlt;rw [←hx] at R9;have q0:wr.cell? ⟨g,off+i*3,none⟩=some (.int .i64 x.kind):=Yq;have q1:wr.cell? ⟨g,off+i*3+1,none⟩=some (.string x.text):=YO5;have q2:wr.cell? ⟨g,off+i*3+2,none⟩=some (.int .i64 x.n):=YFu;refine Yhh ?_;intro b1 b2 HX;clear R9 hx;go_wp2_with fail;have Nl:=Srt.puts Z40 (xs.take i) (Srt.nil (cmp:=Z0o))
    have Vx:(((puts Z0o [] (xs.take i)).length:Nat):Int)≤100000000:=by
     have:=Z1e Z40 (xs.take i) (Srt.nil (cmp:=Z0o));exact Yt5
    refine (Zmm w.heap.size c' sn A' _ x _ (HS.o.new_ ((Zst _ _).alloc (Zsu _) _)) Nl Vx).mono ?_;rintro e w1 ⟨rfl,Nf,A2,c2,F7,Td,Uz⟩
    have Ky:Below w.heap.size w w1:=(HB.o.alloc HB.o.size _).trans (Td.below YI3 (fun k hk hm=>by
     rcases hm with hm|⟨_,a,ha,hm⟩
     · omega
     · have:=HA.o a ha;omega))
    have jw:AIn A2 (w.heap.size≤·):=by
     exact Yxb
    have fk:=hU F7;have Nk:=hU Ky;have Ns:=hU jw;clear F7 Ky jw Td Uz Nl Vx q0 q1 q2;exact Yqt
  · exact Yro
theorem Z5y (x y:Sym) (W:World):(binOp .eql 41 (.agg (Q1d x)) (.agg (Q1d y))).run Tryz.prog W = .ok (.bool (decide (x=y))) W:=by
 rw [run_eql_struct];exact Y42
theorem Zc3 (x y:Sym) (W:World):(binOp .neq 41 (.agg (Q1d x)) (.agg (Q1d y))).run Tryz.prog W = .ok (.bool (!decide (x=y))) W:=by
 rw [run_neq_struct];exact Y42
attribute [local go_sem] Z5y Zc3
theorem Zq5 {w:World}{A:Option Addr}{c k:Nat}{l:List Sym}(h:Z0y w 3 Sym.cells A c l) (hk:k<l.length):∃g off,A=some ⟨g,off,none⟩∧g<w.heap.size∧
 w.cell? ⟨g,off+k*3,none⟩=some (.int .i64 l[k].kind)∧w.cell? ⟨g,off+k*3+1,none⟩=some (.string l[k].text)∧w.cell? ⟨g,off+k*3+2,none⟩=some (.int .i64 l[k].n):=by
 obtain ⟨g,off,hA,hg,hc⟩:=h.at_ hk;exact ⟨g,off,hA,hg,by simpa using hc 0 _ rfl,by simpa using hc 1 _ rfl,by simpa using hc 2 _ rfl⟩
end
section
open Go.RowKit Go.Shelf
theorem Z8u (s:Sym) (w:World):Calls Tryz.prog 209 #[.agg (Q1d s)] w fun e w'=>e = .returned (.bool (Za4 s))∧Below w.heap.size w w':=by
 have hq :∀W:World,(binOp .eql 41 (.agg (Q1d s)) (.agg Q2a)).run Tryz.prog W = .ok (.bool (Za4 s)) W:=fun W=>Z5y s zS W;go_enter Tryz.func209,Tryz.ntmps209;exact Ycn
theorem Zpc (k:Int) (w:World):Calls Tryz.prog 194 #[.int .i64 k] w fun e w'=>e = .returned (.bool (Zeb k))∧w=w':=by
 have HV:=hU (show Zeb k=(k == 8 ||k == 9 ||k == 10) from rfl);go_enter Tryz.func194,Tryz.ntmps194;go_wp2_with fail
 all_goals
  go_ret;refine ⟨?_,rfl⟩;rw [HV.o];refine Z2d ?_;simp_all
theorem Z44 (s:Sym) (w:World):Calls Tryz.prog 210 #[.agg (Q1d s)] w fun e w'=>e = .returned (.bool (Z5o s))∧Below w.heap.size w w':=by
 obtain ⟨r,hr⟩:∃r,r=Z5o s:=⟨_,rfl⟩;rw [←hr];have HR:=hU hr;clear hr;have HB:=hU ((Zst w.heap.size w).alloc (Zsu _) (.cells (Q1d s) 41));go_enter Tryz.func210,Tryz.ntmps210;obtain ⟨W1,hW1⟩:∃W1,W1=w.alloc (.cells (Q1d s) 41):=⟨_,rfl⟩
 go_wp2_with (first
  | (go_at_call 213;refine (Zpr s _).mono ?_;rintro e w9 ⟨rfl,Ct⟩;have HB:=hU (HB.o.trans (Ct.mono HB.o.size));clear Ct))
 all_goals
  go_ret;refine ⟨?_,Yz⟩;rw [HR.o];refine Z2d ?_
  first|(simp_all [Z5o];done)|(simp_all [Z5o];rfl)
theorem Zh4 (a:Z5l) (w:World):Calls Tryz.prog 195 #[.agg #[.string a.var,.int .i64 a.sym.kind,.string a.sym.text,.int .i64 a.sym.n]] w fun e w'=>e = .returned (.bool (Z91 a))∧Below w.heap.size w w':=by
 obtain ⟨r,hr⟩:∃r,r=Z91 a:=⟨_,rfl⟩;rw [←hr];have HR:=hU hr;clear hr;refine Ync ?_;intro HB;go_enter Tryz.func195,Tryz.ntmps195;refine Yw8 ?_;intro W1 hW1
 go_wp2_with (first
  | (go_at_call 209;refine (Z8u a.sym _).mono ?_;rintro e w9 ⟨rfl,Ct⟩;have HB:=hU (HB.o.trans (Ct.mono HB.o.size));clear Ct))
 all_goals
  go_ret;refine ⟨?_,Yz⟩;rw [HR.o];refine Z2d ?_
  first|(simp_all [Z91];done)|(simp_all [Z91];rfl)
theorem Zhx (a:Z5l) (w:World):Calls Tryz.prog 211 #[.agg #[.string a.var,.int .i64 a.sym.kind,.string a.sym.text,.int .i64 a.sym.n]] w fun e w'=>e = .returned (.bool (Z89 a))∧Below w.heap.size w w':=by
 obtain ⟨r,hr⟩:∃r,r=Z89 a:=⟨_,rfl⟩;rw [←hr];have HR:=hU hr;clear hr;refine Ync ?_;intro HB;go_enter Tryz.func211,Tryz.ntmps211;refine Yw8 ?_;intro W1 hW1
 go_wp2_with (first
  | fail)
 all_goals
  go_ret;refine ⟨?_,Yz⟩;rw [HR.o];refine Z2d ?_
  first|(simp_all [Z89];done)|(simp_all [Z89];rfl)
theorem Z9b (a:Z5l) (w:World):Calls Tryz.prog 192 #[.agg #[.string a.var,.int .i64 a.sym.kind,.string a.sym.text,.int .i64 a.sym.n]] w fun e w'=>e = .returned (.bool (Z4z a))∧Below w.heap.size w w':=by
 obtain ⟨r,hr⟩:∃r,r=Z4z a:=⟨_,rfl⟩;rw [←hr];have HR:=hU hr;clear hr;refine Ync ?_;intro HB;go_enter Tryz.func192,Tryz.ntmps192;refine Yw8 ?_;intro W1 hW1
 go_wp2_with (first
  | (go_at_call 209;refine (Z8u a.sym _).mono ?_;rintro e w9 ⟨rfl,Ct⟩;have HB:=hU (HB.o.trans (Ct.mono HB.o.size));clear Ct)
  | (go_at_call 210;refine (Z44 a.sym _).mono ?_;rintro e w9 ⟨rfl,Ct⟩;have HB:=hU (HB.o.trans (Ct.mono HB.o.size));clear Ct)
  | (go_at_call 158;refine (Z49 a.var _).mono ?_;rintro e w9 ⟨rfl,rfl⟩))
 all_goals
  go_ret;refine ⟨?_,Yz⟩;rw [HR.o];refine Z2d ?_
  first|(simp_all [Z4z];done)|(simp_all [Z4z];rfl)
theorem Zrm (t:Zi6) (w:World):Calls Tryz.prog 193 #[.agg (Q0l t)] w fun e w'=>e = .returned (.bool (Z5k t))∧Below w.heap.size w w':=by
 by_cases c0:t.op<0;have t0:decide (t.op<0)=true:=Yl;have HR:=hU (show Z5k t=false from YI8);clear c0;rotate_left 1;by_cases c1:3<t.op;have t0:decide (t.op<0)=false:=Yk;have t1:decide (3<t.op)=true:=Yl;have HR:=hU (show Z5k t=false from YI8);clear c0 c1;rotate_left 1;by_cases c2:Z4z t.a=false;have t0:decide (t.op<0)=false:=Yk;have t1:decide (3<t.op)=false:=Yk;have t2:=c2;have HR:=hU (show Z5k t=false from YI8);clear c0 c1 c2;rotate_left 1;by_cases c3:t.op=0;have t0:decide (t.op<0)=false:=Yk;have t1:decide (3<t.op)=false:=Yk;have t2:Z4z t.a=true:=YVa;have t3:decide (t.op=0)=true:=Yl;have t3b:(t.op == 0)=true:=Yl;have HR:=hU (show Z5k t=Z91 t.b from YI8);clear c0 c1 c2 c3;rotate_left 1;by_cases c4:Z4z t.b=false;refine Y1x ?_;intro t0 t1 t2 t3 t3b;have t4:=c4;have HR:=hU (show Z5k t=false from YI8);clear c0 c1 c2 c3 c4;rotate_left 1;by_cases c5:Z89 t.a=true;refine Y1x ?_;intro t0 t1 t2 t3 t3b;(have t4:Z4z t.b=true:=by simpa using c4);have t5:=c5;have HR:=hU (show Z5k t=false from YI8);clear c0 c1 c2 c3 c4 c5;rotate_left 1;refine Y1x ?_;intro t0 t1 t2 t3 t3b;(have t4:Z4z t.b=true:=by simpa using c4);(have t5:Z89 t.a=false:=by simpa using c5);have HR:=hU (show Z5k t=(!Z89 t.b) from YI8);clear c0 c1 c2 c3 c4 c5
 all_goals
  go_enter Tryz.func193,Tryz.ntmps193;go_upto_region 1 with fail;obtain ⟨W1,Wo⟩:∃W1,W1=w.alloc (.cells (Q0l t) 179):=⟨_,rfl⟩;rw [←Wo];have D8:Blk W1 w.heap.size 179 (Q0l t):=YBf;refine Ywp ?_;intro HB;have e0:W1.cell? ⟨w.heap.size,0,none⟩=some (.int .i64 t.op):=(D8.cell 0).trans rfl;have e1:W1.cell? ⟨w.heap.size,1,none⟩=some (.string t.a.var):=(D8.cell 1).trans rfl;have e2:W1.cell? ⟨w.heap.size,2,none⟩=some (.int .i64 t.a.sym.kind):=(D8.cell 2).trans rfl;have e3:W1.cell? ⟨w.heap.size,3,none⟩=some (.string t.a.sym.text):=(D8.cell 3).trans rfl;have e4:W1.cell? ⟨w.heap.size,4,none⟩=some (.int .i64 t.a.sym.n):=(D8.cell 4).trans rfl;have e5:W1.cell? ⟨w.heap.size,5,none⟩=some (.string t.b.var):=(D8.cell 5).trans rfl;have e6:W1.cell? ⟨w.heap.size,6,none⟩=some (.int .i64 t.b.sym.kind):=(D8.cell 6).trans rfl;have e7:W1.cell? ⟨w.heap.size,7,none⟩=some (.string t.b.sym.text):=(D8.cell 7).trans rfl;have e8:W1.cell? ⟨w.heap.size,8,none⟩=some (.int .i64 t.b.sym.n):=(D8.cell 8).trans rfl;have P2:=D8.lt;clear Wo D8
  go_wp2_with (first
   | (go_at_call 195;refine (Zh4 t.b _).mono ?_;rintro e w9 ⟨rfl,Ct⟩;have HB:=hU (HB.o.trans (Ct.mono HB.o.size));replace e0:=(Ct.cell (p:=⟨w.heap.size,0,none⟩) P2).trans e0;replace e1:=(Ct.cell (p:=⟨w.heap.size,1,none⟩) P2).trans e1;replace e2:=(Ct.cell (p:=⟨w.heap.size,2,none⟩) P2).trans e2;replace e3:=(Ct.cell (p:=⟨w.heap.size,3,none⟩) P2).trans e3;replace e4:=(Ct.cell (p:=⟨w.heap.size,4,none⟩) P2).trans e4;replace e5:=(Ct.cell (p:=⟨w.heap.size,5,none⟩) P2).trans e5;replace e6:=(Ct.cell (p:=⟨w.heap.size,6,none⟩) P2).trans e6;replace e7:=(Ct.cell (p:=⟨w.heap.size,7,none⟩) P2).trans e7;replace e8:=(Ct.cell (p:=⟨w.heap.size,8,none⟩) P2).trans e8;replace P2:=Zsw P2 Ct.size;clear Ct)
   | (go_at_call 192;(first|(with_reducible refine (Z9b t.a _).mono ?_)|(with_reducible refine (Z9b t.b _).mono ?_));rintro e w9 ⟨rfl,Ct⟩;have HB:=hU (HB.o.trans (Ct.mono HB.o.size));replace e0:=(Ct.cell (p:=⟨w.heap.size,0,none⟩) P2).trans e0;replace e1:=(Ct.cell (p:=⟨w.heap.size,1,none⟩) P2).trans e1;replace e2:=(Ct.cell (p:=⟨w.heap.size,2,none⟩) P2).trans e2;replace e3:=(Ct.cell (p:=⟨w.heap.size,3,none⟩) P2).trans e3;replace e4:=(Ct.cell (p:=⟨w.heap.size,4,none⟩) P2).trans e4;replace e5:=(Ct.cell (p:=⟨w.heap.size,5,none⟩) P2).trans e5;replace e6:=(Ct.cell (p:=⟨w.heap.size,6,none⟩) P2).trans e6;replace e7:=(Ct.cell (p:=⟨w.heap.size,7,none⟩) P2).trans e7;replace e8:=(Ct.cell (p:=⟨w.heap.size,8,none⟩) P2).trans e8;replace P2:=Zsw P2 Ct.size;clear Ct)
   | (go_at_call 211;(first|(with_reducible refine (Zhx t.a _).mono ?_)|(with_reducible refine (Zhx t.b _).mono ?_));rintro e w9 ⟨rfl,Ct⟩;have HB:=hU (HB.o.trans (Ct.mono HB.o.size));replace e0:=(Ct.cell (p:=⟨w.heap.size,0,none⟩) P2).trans e0;replace e1:=(Ct.cell (p:=⟨w.heap.size,1,none⟩) P2).trans e1;replace e2:=(Ct.cell (p:=⟨w.heap.size,2,none⟩) P2).trans e2;replace e3:=(Ct.cell (p:=⟨w.heap.size,3,none⟩) P2).trans e3;replace e4:=(Ct.cell (p:=⟨w.heap.size,4,none⟩) P2).trans e4;replace e5:=(Ct.cell (p:=⟨w.heap.size,5,none⟩) P2).trans e5;replace e6:=(Ct.cell (p:=⟨w.heap.size,6,none⟩) P2).trans e6;replace e7:=(Ct.cell (p:=⟨w.heap.size,7,none⟩) P2).trans e7;replace e8:=(Ct.cell (p:=⟨w.heap.size,8,none⟩) P2).trans e8;replace P2:=Zsw P2 Ct.size;clear Ct))
  go_ret;exact ⟨YE7,Yz⟩
theorem Zrn (t:Z0z) (A:Option Addr) (c:Nat) (w:World) (hrd:Z0y w 3 Sym.cells A c t.list):Calls Tryz.prog 208 #[.agg (Q0n t A c)] w fun e w'=>e = .returned (.bool (Z2j t))∧Below w.heap.size w w':=by
 have Ww:=hU hrd;have hlc:=hrd.cap;clear hrd;by_cases h8:t.rel=8
 · by_cases hv:t.var.toList = []
   · by_cases hn:Za4 t.sym=false
     have r1:(t.rel == 8)=true:=YNm;have r2:decide (t.rel=8)=true:=YNm;refine Ybj ?_;intro v1 v2 v3;have n1:=hn;refine Yf1 ?_;intro HR;clear h8 hv hn;rotate_left 1;by_cases h1:t.list.length<1;have r1:(t.rel == 8)=true:=YNm;have r2:decide (t.rel=8)=true:=YNm;refine Ybj ?_;intro v1 v2 v3;(have n1:Za4 t.sym=true:=by simpa using hn);have l1:decide ((t.list.length:Int)<1)=true:=Zt9 Ya;have l2:decide (t.list.length<1)=true:=Zt9 Ya;have l3:t.list.length=0:=Ya;have l4:=l3;refine Yf1 ?_;intro HR;clear h8 hv hn h1 l3 l4;rotate_left 1;by_cases h9:8<t.list.length;have r1:(t.rel == 8)=true:=YNm;refine Y6a ?_;intro r2 v1 v2 v3 n1 l1 l2;have l3:decide ((8:Int)<(t.list.length:Int))=true:=Zt9 Ya;have l4:decide (8<t.list.length)=true:=Zt9 Ya;have l5 :¬t.list.length≤8:=Ya;refine Yf1 ?_;intro HR;clear h8 hv hn h1 h9 l5;rotate_left 1
     · have r1:(t.rel == 8)=true:=by simp [h8]
       refine Y6a ?_;intro r2 v1 v2 v3 n1 l1 l2;have l3:decide ((8:Int)<(t.list.length:Int))=false:=Zsx Ya;have l4:decide (8<t.list.length)=false:=Zsx Ya;have l5:t.list.length≤8:=Ya;have l6:1≤t.list.length:=Ya;have HR:=hU (show Z2j t=t.list.all Z5o from YK7);clear h8 hv hn h1 h9 l5 l6;go_enter Tryz.func208,Tryz.ntmps208;go_upto_region 1 with fail;refine Yba ?_;intro W1 HB e0 e1 e2 e3 e4 e5 P2;(go_wp2_with (first|(go_at_call 209;refine (Z8u t.sym _).mono ?_;rintro e w9 ⟨rfl,Ct⟩;have HB:=hU (HB.o.trans (Ct.mono HB.o.size));replace e0:=(Ct.cell (p:=⟨w.heap.size,0,none⟩) P2).trans e0;replace e1:=(Ct.cell (p:=⟨w.heap.size,1,none⟩) P2).trans e1;replace e2:=(Ct.cell (p:=⟨w.heap.size,2,none⟩) P2).trans e2;replace e3:=(Ct.cell (p:=⟨w.heap.size,3,none⟩) P2).trans e3;replace e4:=(Ct.cell (p:=⟨w.heap.size,4,none⟩) P2).trans e4;replace e5:=(Ct.cell (p:=⟨w.heap.size,5,none⟩) P2).trans e5;replace P2:=Zsw P2 Ct.size;clear Ct)|(go_at_call 210;refine (Z44 t.sym _).mono ?_;rintro e w9 ⟨rfl,Ct⟩;have HB:=hU (HB.o.trans (Ct.mono HB.o.size));replace e0:=(Ct.cell (p:=⟨w.heap.size,0,none⟩) P2).trans e0;replace e1:=(Ct.cell (p:=⟨w.heap.size,1,none⟩) P2).trans e1;replace e2:=(Ct.cell (p:=⟨w.heap.size,2,none⟩) P2).trans e2;replace e3:=(Ct.cell (p:=⟨w.heap.size,3,none⟩) P2).trans e3;replace e4:=(Ct.cell (p:=⟨w.heap.size,4,none⟩) P2).trans e4;replace e5:=(Ct.cell (p:=⟨w.heap.size,5,none⟩) P2).trans e5;replace P2:=Zsw P2 Ct.size;clear Ct)|(go_at_call 158;refine (Z49 t.var _).mono ?_;rintro e w9 ⟨rfl,rfl⟩)));clear e0 e1 e2 e3 e4 e5;have Uf:=hU HB.o
       go_loopw [32] (fun s wr=>∃i:Nat,s = .int .i64 i∧i≤t.list.length∧(∀k,(h:k<t.list.length)→k<i→Z5o t.list[k]=true)∧Below w.heap.size w wr) (fun s wr=>t.list.length - (intOf s).toNat)
       case atStart=>exact ⟨0,rfl,Nat.zero_le _,fun k _ h=>absurd h Ya,Uf.o⟩
       case round=>
        obtain ⟨i,rfl,hi,Lt,hB⟩:=hrel;have Ci:=hU Lt;have Vt:=hU hB;clear Lt hB;by_cases hlt:i<t.list.length
        · obtain ⟨y,hy⟩:∃y,y=t.list[i]:=⟨_,rfl⟩
          obtain ⟨g,off,rfl,hg,q0,q1,q2⟩:=Zq5 (Ww.o.new_ Vt.o) hlt;rw [←hy] at q0 q1 q2;have HY:=hU hy;have b1:(0:Int)≤(i:Int):=Ya;have b2:(i:Int)<(t.list.length:Int):=Ya;have Dy:=Vt.o.size;clear hy;go_wp2_with fail;refine (Z44 y _).mono ?_;rintro e w9 ⟨rfl,Ct⟩;have yq:=hU (Vt.o.trans ((Below.trans (show Below wr.heap.size wr _ from Yf) (Ct.mono Ye):Below wr.heap.size wr w9).mono Dy));clear Ct q0 q1 q2;cases hcb:Z5o y
          · have HRf:=hU (show t.list.all Z5o=false from List.all_eq_false.2 ⟨y,by rw [HY.o];exact Ztf hlt,by rw [hcb];simp⟩)
            clear hcb;go_wp2_with fail;go_ret;exact ⟨by rw [HR.o,HRf.o]<;>rfl,yq.o⟩
          · exact Ygq
        · have Np:i=t.list.length:=by omega
          subst Np
          have HRt:=hU (show t.list.all Z5o=true from Zu2.2 (fun x hx=>by
           obtain ⟨k,hk,rfl⟩:=List.getElem_of_mem hx
           exact Ci.o k hk hk))
          go_wp2_with fail;go_ret;exact ⟨by rw [HR.o,HRt.o]<;>rfl,Vt.o⟩
     all_goals
      exact Yjn
   · have r1:(t.rel == 8)=true:=by simp [h8]
     have r2:decide (t.rel=8)=true:=YNm;refine Yc3 ?_;intro v1 v2 v3;refine Yf1 ?_;intro HR;clear h8 hv;exact Yjn
 by_cases h1:t.rel<1;have r1:(t.rel == 8)=false:=YNm;have r2:decide (t.rel=8)=false:=YNm;have r3:decide (t.rel<1)=true:=Zt9 Ya;refine Yf1 ?_;intro HR;clear h8 h1;rotate_left 1;by_cases h7:7<t.rel;refine Y22 ?_;intro r1 r2 r3;have r4:decide (7<t.rel)=true:=Zt9 Ya;refine Yf1 ?_;intro HR;clear h8 h1 h7;rotate_left 1;by_cases hl:0<t.list.length;refine Y22 ?_;intro r1 r2 r3;have r4:decide (7<t.rel)=false:=Zsx Ya;have l1:decide ((0:Int)<(t.list.length:Int))=true:=Zt9 Ya;have l2:decide (0<t.list.length)=true:=Zt9 Ya;refine Yf1 ?_;intro HR;clear h8 h1 h7 hl;rotate_left 1;by_cases hv:t.var.toList = [];refine Ydc ?_;intro r1 r2 r3 r4 l1 l2 l3 l9;refine Ybj ?_;intro v1 v2 v3;have HR:=hU (show Z2j t=Z5o t.sym from YK7);clear h8 h1 h7 hl hv l3 l9;rotate_left 1;by_cases hw:Z1t t.var=false
 refine Ydc ?_;intro r1 r2 r3 r4 l1 l2 l3 l9;refine Yc3 ?_;intro v1 v2 v3;have x1:=hw;refine Yf1 ?_;intro HR;clear h8 h1 h7 hl hv hw l3 l9;rotate_left 1;refine Ydc ?_;intro r1 r2 r3 r4 l1 l2 l3 l9;refine Yc3 ?_;intro v1 v2 v3;(have x1:Z1t t.var=true:=by simpa using hw);have HR:=hU (show Z2j t=Za4 t.sym from YK7);clear h8 h1 h7 hl hv hw l3 l9
 all_goals
  exact Yjn
theorem Z5f {D:Nat→Prop}(A:Option Addr) (c:Nat) (l:List Z0z) (w:World) (h:RowR Z07 D w A c l):Calls Tryz.prog 191 #[.slice A l.length c] w fun e w'=>e = .returned (.bool (l.all Z2j))∧Below w.heap.size w w':=by
 have HR:=hU h;have hlc:=h.cap;clear h;go_enter Tryz.func191,Tryz.ntmps191;go_wp2_with fail
 go_loopw [7] (fun s wr=>∃i:Nat,s = .int .i64 i∧i≤l.length∧(∀k,(h:k<l.length)→k<i→Z2j l[k]=true)∧Below w.heap.size w wr) (fun s wr=>l.length - (intOf s).toNat)
 case atStart=>exact ⟨0,rfl,Nat.zero_le _,fun k _ h=>absurd h Ya,Zst _ _⟩
 case round=>
  obtain ⟨i,rfl,hi,Lt,hB⟩:=hrel;have Ci:=hU Lt;have HB:=hU hB;clear Lt hB;by_cases hlt:i<l.length
  · obtain ⟨y,hy⟩:∃y,y=l[i]:=⟨_,rfl⟩
    obtain ⟨g,off,A1,c1,rfl,_,hg,q0,q1,q2,q3,q4,q5,Xq⟩:=Z5a (HR.o.new_ HB.o) hlt;rw [←hy] at q0 q1 q2 q3 q4 q5 Xq;have Kc:=hU (show Z0y wr 3 Sym.cells A1 c1 y.list from RowR.rd (hs:=Sym.cells_length) Xq);have HY:=hU hy;refine Yyx ?_;intro b1 b2;have Dy:=HB.o.size;clear hy Xq;go_wp2_with fail;refine (Zrn y A1 c1 _ (Kc.o.new_ Yf)).mono ?_;rintro e w9 ⟨rfl,Ct⟩;have yq:=hU (HB.o.trans ((Below.trans (show Below wr.heap.size wr _ from Yf) (Ct.mono Ye):Below wr.heap.size wr w9).mono Dy));clear Ct q0 q1 q2 q3 q4 q5;cases hcb:Z2j y
    · have HRf:=hU (show l.all Z2j=false from List.all_eq_false.2 ⟨y,by rw [HY.o];exact Ztf hlt,by rw [hcb];simp⟩)
      clear hcb;go_wp2_with fail;go_ret;exact ⟨by rw [HRf.o]<;>rfl,yq.o⟩
    · exact Ygq
  · have Np:i=l.length:=by omega
    subst Np
    have HRt:=hU (show l.all Z2j=true from Zu2.2 (fun x hx=>by
     obtain ⟨k,hk,rfl⟩:=List.getElem_of_mem hx
     exact Ci.o k hk hk))
    go_wp2_with fail;go_ret;exact ⟨by rw [HRt.o]<;>rfl,HB.o⟩
theorem Zqt {D:Nat→Prop}(x:Z0a) (deep:Nat) (A1 A2 A3:Option Addr) (c1 c2 c3:Nat) (w:World) (h1:RowR Z07 D w A1 c1 x.attr) (h2:RowR Z07 D w A2 c2 x.value) (hn3:(x.conds.length:Int)≤9223372036854775807) :
 Calls Tryz.prog 162 #[.agg (Q0r x A1 c1 A2 c2 A3 c3),.int .i64 deep] w fun e w'=>e = .returned (.int .i64 (Z1l x deep))∧Below w.heap.size w w':=by
 have H1:=hU h1;have H2:=hU h2;have hl1:=h1.cap;have hl2:=h2.cap;clear h1 h2;go_enter Tryz.func162,Tryz.ntmps162;go_upto_region 1 with fail;obtain ⟨W1,Wo⟩:∃W1,W1=w.alloc (.cells (Q0r x A1 c1 A2 c2 A3 c3) 77):=⟨_,rfl⟩;rw [←Wo];have D8:Blk W1 w.heap.size 77 (Q0r x A1 c1 A2 c2 A3 c3):=YBf;refine Ywp ?_;intro HB;obtain ⟨e0,e1,e2,e3,e4,e5,e6⟩:=D8.c7;have P2:=D8.lt;have HK:=hU D8;clear Wo D8;by_cases hk3:x.kind=3
 · have sx:=hk3
   by_cases hg:x.goal=true;have k3:(x.kind == 3)=true:=Yl;have wh:decide (x.kind=3)=true:=Yl;have g1:=hg;refine Yqg ?_;intro HR;clear hk3 sx hg;rotate_left 1;by_cases hv :¬x.id.toList = [];have k3:(x.kind == 3)=true:=Yl;have wh:decide (x.kind=3)=true:=Yl;have g1:x.goal=false:=YBy;have v1:(x.id.toList == [])=false:=YZb;have v2:x.id.toList.isEmpty=false:=YZb;have v3:decide (x.id.toList = [])=false:=YZb;refine Yqg ?_;intro HR;clear hk3 sx hg hv;rotate_left 1;by_cases ha:0<x.attr.length;refine Yey ?_;intro k3 wh g1 j4 v1 v2 v3;have aa:decide ((0:Int)<(x.attr.length:Int))=true:=Zt9 Ya;have ab:decide (0<x.attr.length)=true:=Zt9 Ya;refine Yqg ?_;intro HR;clear hk3 sx hg hv ha;rotate_left 1;by_cases hb:0<x.value.length;refine Yua ?_;intro k3 wh g1 j4 v1 v2 v3 aa ab;have ba:decide ((0:Int)<(x.value.length:Int))=true:=Zt9 Ya
   have bb:decide (0<x.value.length)=true:=Zt9 Ya;refine Yqg ?_;intro HR;clear hk3 sx hg hv ha hb;rotate_left 1;by_cases hc:x.acc=true;refine Yua ?_;intro k3 wh g1 j4 v1 v2 v3 aa ab;refine Y2f ?_;intro ba bb;have g2:=hc;refine Yqg ?_;intro HR;clear hk3 sx hg hv ha hb hc;rotate_left 1;by_cases hd:x.conds.length=0;refine Yua ?_;intro k3 wh g1 j4 v1 v2 v3 aa ab;refine Y2f ?_;intro ba bb;have g2:x.acc=false:=YRq;(have dz:((x.conds.length:Int) == 0)=true:=by rw [beq_iff_eq];omega);have dy:decide ((x.conds.length:Int)=0)=true:=Zt9 Ya;refine Yqg ?_;intro HR;clear hk3 sx hg hv ha hb hc hd;rotate_left 1;by_cases he:3≤deep;refine Yua ?_;intro k3 wh g1 j4 v1 v2 v3 aa ab;refine Y2f ?_;intro ba bb;have g2:x.acc=false:=YRq;have dz:((x.conds.length:Int) == 0)=false:=Y4;have dy:decide ((x.conds.length:Int)=0)=false:=Zsx Ya;have p1:decide ((3:Int)≤(deep:Int))=true:=Zt9 Ya;have p2:decide (3≤deep)=true:=Zt9 Ya;have HR:=hU (show Z1l x deep=8 from YL6);clear hk3 sx hg hv ha hb hc hd he;rotate_left 1;refine Yua ?_;intro k3 wh g1 j4 v1 v2 v3 aa ab;refine Y2f ?_;intro ba bb;have g2:x.acc=false:=YRq;have dz:((x.conds.length:Int) == 0)=false:=Y4;have dy:decide ((x.conds.length:Int)=0)=false:=Zsx Ya;have p1:decide ((3:Int)≤(deep:Int))=false:=Zsx Ya;have p2:decide (3≤deep)=false:=Zsx Ya;have HR:=hU (show Z1l x deep=0 from YL6);clear hk3 sx hg hv ha hb hc hd he
   all_goals
    exact Y09
 by_cases hk1:x.kind=1
 · have Vp:=hk1
   by_cases ha:0<x.conds.length;refine Ykm ?_;intro k3 wh k1 T8;have aa:decide ((0:Int)<(x.conds.length:Int))=true:=Zt9 Ya;have ab:decide (0<x.conds.length)=true:=Zt9 Ya;refine Yqg ?_;intro HR;clear hk3 hk1 Vp ha;rotate_left 1;by_cases hb:Z1t x.id=false;refine Ykm ?_;intro k3 wh k1 T8;refine Ywn ?_;intro aa ab;have w1:=hb;refine Yqg ?_;intro HR;clear hk3 hk1 Vp ha hb;rotate_left 1;by_cases hc:x.attr.length=0;refine Ykm ?_;intro k3 wh k1 T8;refine Ywn ?_;intro aa ab;have w1:Z1t x.id=true:=YB3;(have dz:((x.attr.length:Int) == 0)=true:=by rw [beq_iff_eq];omega);have dy:decide ((x.attr.length:Int)=0)=true:=Zt9 Ya;have l1:x.attr = []:=Zty.1 hc;refine Yqg ?_;intro HR;clear hk3 hk1 Vp ha hb hc;rotate_left 1;by_cases hd:4<x.attr.length;refine Ykm ?_;intro k3 wh k1 T8;refine Ysj ?_;intro aa ab w1 dz dy fa fb HR;clear hk3 hk1 Vp ha hb hc hd;rotate_left 1;by_cases he:4<x.value.length;refine Ykm ?_;intro k3 wh k1 T8;refine Y8p ?_;intro aa ab w1 dz dy fa fb;have ga:decide ((4:Int)<(x.value.length:Int))=true:=Zt9 Ya;have gb:decide (4<x.value.length)=true:=Zt9 Ya;have HR:=hU (show Z1l x deep=7 from YL6);clear hk3 hk1 Vp ha hb hc hd he;rotate_left 1;by_cases hf:x.attr.all Z2j=false;refine Ykm ?_;intro k3 wh k1 T8;refine Y8p ?_;intro aa ab w1 dz dy fa fb;refine Ytd ?_;intro ga gb;have t1:=hf
   refine Yqg ?_;intro HR;clear hk3 hk1 Vp ha hb hc hd he hf;rotate_left 1;by_cases hg:x.value.all Z2j=false;refine Ykm ?_;intro k3 wh k1 T8;refine Y3c ?_;intro aa ab w1 dz dy fa fb ga gb t1;have t2:=hg;refine Yqg ?_;intro HR;clear hk3 hk1 Vp ha hb hc hd he hf hg;rotate_left 1;refine Ykm ?_;intro k3 wh k1 T8;refine Y3c ?_;intro aa ab w1 dz dy fa fb ga gb t1;have t2:x.value.all Z2j=true:=YBy;have HR:=hU (show Z1l x deep=0 from YL6);clear hk3 hk1 Vp ha hb hc hd he hf hg
   all_goals
    exact Y09
 by_cases hk2:x.kind=2
 · have ee:=hk2
   by_cases ha:0<x.conds.length;refine Yjw ?_;intro k3 wh k1 T8 k2 ot;have aa:decide ((0:Int)<(x.conds.length:Int))=true:=Zt9 Ya;have ab:decide (0<x.conds.length)=true:=Zt9 Ya;refine Yqg ?_;intro HR;clear hk3 hk1 hk2 ee ha;rotate_left 1;by_cases hb:Z1t x.id=false;refine Yjw ?_;intro k3 wh k1 T8 k2 ot;refine Ywn ?_;intro aa ab;have w1:=hb;refine Yqg ?_;intro HR;clear hk3 hk1 hk2 ee ha hb;rotate_left 1;by_cases hc:x.attr.length=0;refine Yjw ?_;intro k3 wh k1 T8 k2 ot;refine Ywn ?_;intro aa ab;have w1:Z1t x.id=true:=YB3;(have dz:((x.attr.length:Int) == 0)=true:=by rw [beq_iff_eq];omega);have dy:decide ((x.attr.length:Int)=0)=true:=Zt9 Ya;have l1:x.attr = []:=Zty.1 hc;refine Yqg ?_;intro HR;clear hk3 hk1 hk2 ee ha hb hc;rotate_left 1
   by_cases hd:4<x.attr.length;refine Yjw ?_;intro k3 wh k1 T8 k2 ot;refine Ysj ?_;intro aa ab w1 dz dy fa fb HR;clear hk3 hk1 hk2 ee ha hb hc hd;rotate_left 1;by_cases he:4<x.value.length;refine Yjw ?_;intro k3 wh k1 T8 k2 ot;refine Y8p ?_;intro aa ab w1 dz dy fa fb;have ga:decide ((4:Int)<(x.value.length:Int))=true:=Zt9 Ya;have gb:decide (4<x.value.length)=true:=Zt9 Ya;have HR:=hU (show Z1l x deep=7 from YL6);clear hk3 hk1 hk2 ee ha hb hc hd he;rotate_left 1;by_cases hf:x.attr.all Z2j=false;refine Yjw ?_;intro k3 wh k1 T8 k2 ot;refine Y8p ?_;intro aa ab w1 dz dy fa fb;refine Ytd ?_;intro ga gb;have t1:=hf;refine Yqg ?_;intro HR;clear hk3 hk1 hk2 ee ha hb hc hd he hf;rotate_left 1;by_cases hg:x.value.all Z2j=false;refine Yjw ?_;intro k3 wh k1 T8 k2 ot;refine Y3c ?_;intro aa ab w1 dz dy fa fb ga gb t1;have t2:=hg;refine Yqg ?_;intro HR;clear hk3 hk1 hk2 ee ha hb hc hd he hf hg;rotate_left 1;refine Yjw ?_;intro k3 wh k1 T8 k2 ot;refine Y3c ?_;intro aa ab w1 dz dy fa fb ga gb t1;have t2:x.value.all Z2j=true:=YBy;have HR:=hU (show Z1l x deep=0 from YL6);clear hk3 hk1 hk2 ee ha hb hc hd he hf hg
   all_goals
    exact Y09
 have k3:(x.kind == 3)=false:=Yl;have wh:decide (x.kind=3)=false:=Yl;have k1:(x.kind == 1)=false:=Yl;have T8:decide (x.kind=1)=false:=Yl;have k2:(x.kind == 2)=false:=Yl;have ot:decide (x.kind=2)=false:=Yl;refine Yqg ?_;intro HR;clear hk3 hk1 hk2;exact Y09
end
section
open Go.RowKit Go.Shelf
attribute [local go_sem] Oper.semAt_some
structure Yld (gf:Nat) (caps:List Value) (D M:Nat→Prop) (F:List (Nat×Z0a)) (Inv:Nat→World→Prop) (Stop:World→Prop):Prop where
 enter :∀args w,(callFunc gf args).run Tryz.prog w = .ok (.enter gf args) w
 call :∀(k:Nat) (h:k<F.length) (w:World) (A1 A2 A3:Option Addr) (c1 c2 c3:Nat),Inv k w→RowR Z07 D w A1 c1 F[k].2.attr→RowR Z07 D w A2 c2 F[k].2.value→(F[k].2.conds.length:Int)≤9223372036854775807→
  Calls Tryz.prog gf ([Value.int .i64 (k:Int),Value.int .i64 (F[k].1:Int),Value.agg #[.int .i64 F[k].2.kind,.bool F[k].2.goal,.string F[k].2.id,.slice A1 F[k].2.attr.length c1,.slice A2 F[k].2.value.length c2,.bool F[k].2.acc,.slice A3 F[k].2.conds.length c3]]++caps).toArray w
   fun e w'=>∃b,e = .returned (.bool b)∧(b=true→Inv (k+1) w')∧(b=false→Stop w')∧Fr M w w'
 apart :∀j,D j→¬M j
 new_ :∀k w w',Inv k w→Below w.heap.size w w'→Inv k w'
 stop_ :∀w w',Stop w→Below w.heap.size w w'→Stop w'
theorem Z1z (n d:Nat) (l:List Z0a):Z17 (n+1) d l=l.flatMap fun c=>(d,c) :: Z17 n (d+1) c.conds:=rfl
theorem Zb0 (n d:Nat) (l:List Z0a) (i:Nat) (hi:i<l.length):Z17 (n+1) d (l.take (i+1))=Z17 (n+1) d (l.take i)++(d,l[i]) :: Z17 n (d+1) l[i].conds:=by
 rw [Z1z,Z1z,Ztq,Zt3 hi,Zta];simp
def Zs1 (M:Nat→Prop) (Inv:Nat→World→Prop) (Stop:World→Prop) (at_ n:Nat) (w:World) (e:Ending) (w':World):Prop:=
 ∃(b:Bool) (a:Nat),e = .returned (.tuple #[.int .i64 (a:Int),.bool b])∧(b=true→a=at_+n∧Inv a w')∧(b=false→Stop w')∧Fr M w w'
theorem Zgs {gf:Nat}{caps:List Value}{D M:Nat→Prop}{F:List (Nat×Z0a)}{Inv:Nat→World→Prop}{Stop:World→Prop}(Y:Yld gf caps D M F Inv Stop) (hF:F.length≤1000000000) :
 ∀(n d at_:Nat) (A:Option Addr) (c:Nat) (l:List Z0a) (w:World),RowR (Z09 n) D w A c l→(∀k,M k→k<w.heap.size)→(∃post,F=F.take at_++Z17 n d l++post)→at_+(Z17 n d l).length≤F.length→d+n≤1000000000→Inv at_ w→
 Calls Tryz.prog 159 #[.slice A l.length c,.int .i64 (at_:Int),.int .i64 (d:Int),.func (.func gf) #[] caps.toArray] w (Zs1 M Inv Stop at_ (Z17 n d l).length w):=by
 intro n
 induction n with
 | zero=>
   intro d at_ A c l w h P5 Ev Vx hd hI
   have I5:l = []:=by
    cases l with
    | nil=>rfl
    | cons x l=>
      exact Yq0
   subst I5;have HI:=hU hI;clear h P5 Ev hI;go_enter Tryz.func159,Tryz.ntmps159;go_wp2_with fail
   go_loopw [1,15] (fun a s wr=>s = .int .i64 0∧a = .int .i64 (at_:Int)∧wr=w) (fun a s wr=>0)
   case atStart=>exact ⟨rfl,rfl,rfl⟩
   case round=>
    obtain ⟨rfl,rfl,rfl⟩:=hrel;go_wp2_with fail;go_ret2;exact ⟨true,at_,rfl,fun _=>⟨YHa,HI.o⟩,(fun h=>YZt),Fr.refl _ _⟩
 | succ n ih=>
   intro d at_ A c l w h P5 Ev Vx hd hI;have HR:=hU h;have Av:=hU P5;have vg:=hU Ev;have Mr:=hU Vx;have HI:=hU hI;have IH:=hU ih;have hlc:=h.cap;have hent:=Y.enter;clear h P5 Ev Vx hI ih;go_enter Tryz.func159,Tryz.ntmps159;go_wp2_with fail
   go_loopw [1,15] (fun a s wr=>∃i:Nat,s = .int .i64 i∧i≤l.length∧a = .int .i64 ((at_+(Z17 (n+1) d (l.take i)).length:Nat):Int)∧Inv (at_+(Z17 (n+1) d (l.take i)).length) wr∧Fr M w wr) (fun a s wr=>l.length - (intOf s).toNat)
   case atStart=>exact ⟨0,rfl,Nat.zero_le _,YHa,by simpa [Z17] using HI.o,Fr.refl _ _⟩
   case round=>
    obtain ⟨i,rfl,hi,rfl,hI,Wj⟩:=hrel;have HIi:=hU hI;have de:=hU Wj;clear hI Wj;by_cases hlt:i<l.length
    · obtain ⟨y,hy⟩:∃y,y=l[i]:=⟨_,rfl⟩
      obtain ⟨k,hk⟩:∃k,k=at_+(Z17 (n+1) d (l.take i)).length:=⟨_,rfl⟩;have F3:=Zb0 n d l i hlt;rw [←hy] at F3;have Wh:=hU F3;obtain ⟨g,off,A1,c1,A2,c2,A3,c3,rfl,_,hg,q0,q1,q2,q3,q4,q5,q6,r1,r2,r3⟩:=Z31 (HR.o.fr de.o (fun j hd=>Y.apart j hd)) hlt;rw [←hy] at q0 q1 q2 q3 q4 q5 q6 r1 r2 r3
      have hkF:k<F.length:=by
       have h1:=Mr.o
       have h2:(Z17 (n+1) d (l.take (i+1))).length≤(Z17 (n+1) d l).length:=by
        rw [Z1z,Z1z]
        conv=>rhs;rw [←List.take_append_drop (i+1) l,Zta,Ztd]
        omega
       rw [Wh.o] at h2;simp at h2;omega
      obtain ⟨post,hp⟩:=vg.o
      have Cp :∃P R,P.length=k∧F=P++(d,y) :: (Z17 n (d+1) y.conds++R):=by
       have e1:Z17 (n+1) d l=Z17 (n+1) d (l.take i)++(d,y) :: (Z17 n (d+1) y.conds++Z17 (n+1) d (l.drop (i+1))):=by
        rw [Z1z,Z1z,Z1z]
        conv=>lhs;rw [←List.take_append_drop i l,Ztt hlt,←hy,Zta,Zu6]
        rfl
       have e2:F=(F.take at_++Z17 (n+1) d (l.take i))++(d,y) :: (Z17 n (d+1) y.conds++(Z17 (n+1) d (l.drop (i+1))++post)):=by
        conv=>lhs;rw [hp,e1]
        simp
       have e3:(F.take at_++Z17 (n+1) d (l.take i)).length=k:=by
        have h1:=Mr.o;rw [Ztd,Zu3,hk];omega
       exact ⟨_,_,e3,e2⟩
      obtain ⟨P,R,e3,e2⟩:=Cp
      have hFk:F[k]=(d,y):=by
       have e4:F[k]? = some (d,y):=by
        conv=>lhs;rw [e2]
        rw [Ztn (by rw [e3];exact Zsu k),e3,Nat.sub_self,Zt0]
       rw [Zt3 hkF] at e4;exact Zud e4
      have lf :∃post,F=F.take (k+1)++Z17 n (d+1) y.conds++post:=by
       refine ⟨R,?_⟩
       have e5:F.take (k+1)=P ++ [(d,y)]:=by
        conv=>lhs;rw [e2]
        rw [List.take_append,e3];simp [List.take_of_length_le (by omega:P.length≤k+1)]
       rw [e5,Zu8,Zu8];exact e2
      have Jb:k+1+(Z17 n (d+1) y.conds).length≤F.length:=by
       rw [e2,Ztd,Ztg,Ztd,e3];omega
      have O0:=Y.call k hkF;simp only [hFk] at O0;have E8:=hU O0;have HY:=hU hy;have HPO:=hU lf;have HLE:=hU Jb;have HIk:=hU (show Inv k wr by rw [hk];exact HIi.o);have J0:=hU (show at_+(Z17 (n+1) d (l.take (i+1))).length=k+1+(Z17 n (d+1) y.conds).length by rw [Wh.o,Ztd,Ztg,hk];omega);have Nq:=hU r1;have O8:=hU r2;have ll:=hU r3;have hn3:=r3.cap;have hkb:k<1000000000:=Zsw hkF hF;refine Yyx ?_;intro b1 b2;have hzr:=de.o.size;have v1:IntKind.i64.wrap ((k:Int)+1)=((k+1:Nat):Int):=YL9;have v2:IntKind.i64.wrap ((d:Int)+1)=((d+1:Nat):Int):=YL9;rw [←hk];clear O0 hy lf Jb F3 hFk e2 e3 hp hk r1 r2 r3 P R post hkF;go_wp2_with fail;refine Yhe ?_;intro X Uf T7;refine (E8.o X A1 A2 A3 c1 c2 c3 (Y.new_ _ _ _ HIk.o Uf.o) (Nq.o.new_ Uf.o) (O8.o.new_ Uf.o) hn3).mono ?_;rintro e w5 ⟨b,rfl,Gl,Ou,Pa⟩;have Ut:=hU (de.o.trans ((Fr.of_new Uf.o).trans Pa));have Gc:=T7.o.fr Pa (fun hm=>by have:=Av.o _ hm;omega);refine Y7g ?_;intro x6;have hxl:=Gc.lt;have HR35:=hU ((ll.o.new_ Uf.o).fr Pa (fun j hd=>Y.apart j hd))
      cases b with
      | false=>
        have HS:=hU (Ou rfl);clear Gl Ou Pa Gc x6 q0 q1 q2 q3 q4 q5 q6;go_wp2_with fail;go_ret2;exact ⟨false,k,rfl,(fun h=>YZt),fun _=>HS.o,Ut.o⟩
      | true=>
        have HI5:=hU (Gl rfl);clear Gl Ou Pa Gc q0 q1 q2 q3 q4 q5 q6;go_wp2_with fail;refine (IH.o (d+1) (k+1) A3 c3 y.conds w5 HR35.o (fun j hj=>Zsw (Av.o j hj) Ut.o.size) HPO.o HLE.o Ya HI5.o).mono ?_;rintro e w6 ⟨b2,a2,rfl,ev,J5,Mq⟩;have ew:=hU (Ut.o.trans Mq)
        cases b2 with
        | false=>
          have HS:=hU (J5 rfl);clear ev J5 Mq x6;go_wp2_with fail;go_ret2;exact ⟨false,a2,rfl,(fun h=>YZt),fun _=>HS.o,ew.o⟩
        | true=>
          obtain ⟨ha2,hI6⟩:=ev rfl;have Ns:=hU ha2;have HI6:=hU hI6;clear ev J5 Mq x6 ha2 hI6;go_wp2_with fail;go_roundw
          case rel=>exact ⟨i+1,Yn,Ya,by rw [J0.o,Ns.o],by rw [J0.o,←Ns.o];exact HI6.o,ew.o⟩
          case measure=>simp [intOf]<;>omega
    · have Np:i=l.length:=by omega
      subst Np;rw [Ztc] at *;have HI2:=hU HIi.o;go_wp2_with fail;go_ret2;exact ⟨true,at_+(Z17 (n+1) d l).length,rfl,(fun _=>⟨rfl,HI2.o⟩),(fun h=>YZt),de.o⟩
end
section
open Go.RowKit Go.Shelf
def goK (most:Nat) (f:Z0a→Nat):List Z0a→Nat→Nat
 | [],s=>s
 | c :: l,s=>if s≤most then goK most f l (s+(1+f c)) else s
def Z2i (most:Nat):Nat→Nat→List Z0a→Nat
 | 0,d,l=>if 20<d then most+1 else if l = [] then 0 else most+1
 | n+1,d,l=>if 20<d then most+1 else min (goK most (fun c=>Z2i most n (d+1) c.conds) l 0) (most+1)
theorem Zpy (most:Nat) (f:Z0a→Nat):∀(l:List Z0a) (s:Nat),s≤goK most f l s
 | [],s=>Zsu _
 | c :: l,s=>by
   rw [goK]
   split
   · have:=Zpy most f l (s+(1+f c));omega
   · omega
theorem Zbw (most:Nat) (f:Z0a→Nat):∀(l:List Z0a) (s:Nat),goK most f l s≤most→goK most f l s=s+(l.map fun c=>1+f c).sum∧∀c∈l,f c≤most
 | [],s,_=>by simp [goK]
 | c :: l,s,h=>by
   rw [goK] at h ⊢;by_cases hs:s≤most
   · rw [if_pos hs] at h ⊢
     obtain ⟨h1,h2⟩:=Zbw most f l _ h;have:=Zpy most f l (s+(1+f c));refine ⟨by rw [h1,List.map_cons,List.sum_cons];omega,fun x hx=>?_⟩;rcases Ztb.1 hx with rfl|hx
     · omega
     · exact h2 x hx
   · rw [if_neg hs] at h
     omega
theorem Zh8 (most:Nat) (f:Z0a→Nat):∀(l:List Z0a) (c:Z0a) (s:Nat),goK most f (l ++ [c]) s=if goK most f l s≤most then goK most f l s+(1+f c) else goK most f l s
 | [],c,s=>rfl
 | x :: l,c,s=>by
   rw [Ztv,goK,goK];by_cases hs:s≤most
   · rw [if_pos hs,if_pos hs,Zh8 most f l c]
   · rw [if_neg hs,if_neg hs,if_neg hs]
theorem Zh9 (most:Nat) (f:Z0a→Nat):∀(l m:List Z0a) (s:Nat),¬goK most f l s≤most→goK most f (l++m) s=goK most f l s
 | [],m,s,h=>by
   rw [goK] at h
   cases m with
   | nil=>rfl
   | cons c m=>simp only [Ztk,goK];rw [if_neg h]
 | x :: l,m,s,h=>by
   rw [Ztv,goK,goK];rw [goK] at h;by_cases hs:s≤most
   · rw [if_pos hs,if_pos hs]
     rw [if_pos hs] at h;exact Zh9 most f l m _ h
   · rw [if_neg hs,if_neg hs]
theorem Zer {α:Type}(f g:α→Nat):∀l:List α,(∀c∈l,f c≤g c)→(l.map f).sum≤(l.map g).sum
 | [],_=>Zsu _
 | c :: l,h=>by
   rw [List.map_cons,List.map_cons,List.sum_cons,List.sum_cons];have h1:=h c Zuj;have h2:=Zer f g l (fun x hx=>h x (Zug _ hx));omega
theorem Z5p (m d:Nat) (l:List Z0a):(Z17 (m+1) d l).length=(l.map fun c=>1+(Z17 m (d+1) c.conds).length).sum:=by
 rw [Z1z,List.length_flatMap];congr 1;apply List.map_congr_left;intro c _;simp;omega
theorem Z8w (most:Nat):∀(n d:Nat) (l:List Z0a),Z2i most n d l≤most→d≤20∧∀{D:Nat→Prop}{w:World}{A:Option Addr}{c:Nat},RowR (Z09 n) D w A c l→RowR (Z09 (20 - d)) D w A c l
 | 0,d,l,h=>by
   rw [Z2i] at h;by_cases h1:20<d
   · rw [if_pos h1] at h;omega
   · rw [if_neg h1] at h
     by_cases h2:l = []
     · subst h2
       exact ⟨Ya,fun g=>⟨g.1,g.2.1,fun h=>absurd h Ye⟩⟩
     · rw [if_neg h2] at h;omega
 | n+1,d,l,h=>by
   rw [Z2i] at h;by_cases h1:20<d
   · rw [if_pos h1] at h;omega
   · rw [if_neg h1] at h
     obtain ⟨_,h3⟩:=Zbw most (fun c=>Z2i most n (d+1) c.conds) l 0 Ya;refine ⟨Ya,fun {D w A c} g=>?_⟩;refine ⟨g.1,g.2.1,fun h0=>?_⟩;obtain ⟨b,off,g1,g2,g3,g4⟩:=g.2.2 h0;obtain ⟨d1,_⟩:=Z8w most n (d+1) _ (h3 l[0] (Ztf h0));obtain ⟨k,hk⟩:∃k,20 - d=k+1:=⟨20 - d - 1,Ya⟩;refine ⟨b,off,g1,g2,g3,fun j hj=>?_⟩;obtain ⟨cs,r,hc⟩:=g4 j hj;obtain ⟨A1,c1,A2,c2,A3,c3,e0,e1,e2,e3⟩:=r;have h5:=(Z8w most n (d+1) _ (h3 l[j] (Ztf hj))).2 e3;rw [hk];rw [show 20 - (d+1)=k from Ya] at h5;exact ⟨cs,⟨A1,c1,A2,c2,A3,c3,e0,e1,e2,h5⟩,hc⟩
def Z4p (t:Z0z):Bool:=decide (20<t.list.length) ||(decide (100<t.var.size) ||decide (100<t.sym.text.size))
def Z4g (c:Z0a):Bool:=decide (100<c.id.size) ||(decide (10<c.attr.length) ||(decide (10<c.value.length) ||(c.attr.any Z4p ||c.value.any Z4p)))
def Z5b:Nat→List Z0a→Bool
 | 0,_=>false
 | n+1,l=>l.any fun c=>Z4g c ||Z5b n c.conds
theorem Z2q {D:Nat→Prop}{A:Option Addr}{c:Nat}(l:List Z0z) (w:World) (h:RowR Z07 D w A c l):Calls Tryz.prog 55 #[.slice A l.length c] w fun e w'=>e = .returned (.bool (l.any Z4p))∧w=w':=by
 have H:=hU h;have hlc:=h.cap;clear h;go_enter Tryz.func55,Tryz.ntmps55;go_wp2_with fail
 go_loopw [3] (fun s wr=>∃i:Nat,s = .int .i64 i∧i≤l.length∧(∀k,(h:k<l.length)→k<i→Z4p l[k]=false)∧wr=w) (fun s wr=>l.length - (intOf s).toNat)
 case atStart=>exact ⟨0,rfl,Nat.zero_le _,fun k _ h=>absurd h Ya,rfl⟩
 case round=>
  obtain ⟨i,rfl,hi,Lt,rfl⟩:=hrel;have Ci:=hU Lt;clear Lt;by_cases hlt:i<l.length
  · obtain ⟨x,hx⟩:∃x,x=l[i]:=⟨_,rfl⟩
    obtain ⟨g,off,A1,c1,rfl,_,hgs,q0,q1,q2,q3,q4,q5,hr⟩:=Z5a H.o hlt;rw [←hx] at q0 q1 q2 q3 q4 q5 hr;have hcap:=hr.cap;refine Yyx ?_;intro b1 b2;have HX:=hU hx;have je:=hU (show Z4p x=true→l.any Z4p=true from fun h=>Zu7.2 ⟨x,by rw [HX.o];exact Ztf hlt,h⟩);clear hx hr;cases t1:decide (20<x.list.length)
    · cases t2:decide (100<x.var.size)
      · cases t3:decide (100<x.sym.text.size)
        · have s1:decide ((20:Int)<(x.list.length:Int))=false:=by simp at t1 ⊢;omega
          have s2:decide ((100:Int)<(x.var.size:Int))=false:=YDd;have s3:decide ((100:Int)<(x.sym.text.size:Int))=false:=YPr;have HN:=hU (show Z4p x=false by simp [Z4p,t1,t2,t3]);clear t1 t2 t3;go_wp2_with fail;go_roundw
          case rel=>
           refine ⟨i+1,Yn,Ya,fun k h hk=>?_,by trivial⟩;exact Ygv
          case measure=>simp [intOf]<;>omega
        · have s1:decide ((20:Int)<(x.list.length:Int))=false:=by simp at t1 ⊢;omega
          have s2:decide ((100:Int)<(x.var.size:Int))=false:=YDd;have s3:decide ((100:Int)<(x.sym.text.size:Int))=true:=YPr;have HN:=hU (je.o (by simp [Z4p,t3]));clear t1 t2 t3;exact Ykq
      · have s1:decide ((20:Int)<(x.list.length:Int))=false:=by simp at t1 ⊢;omega
        have s2:decide ((100:Int)<(x.var.size:Int))=true:=YDd;have HN:=hU (je.o (by simp [Z4p,t2]));clear t1 t2;exact Ykq
    · have s1:decide ((20:Int)<(x.list.length:Int))=true:=by simp at t1 ⊢;omega
      have HN:=hU (je.o (by simp [Z4p,t1]));clear t1;exact Ykq
  · have Np:i=l.length:=by omega
    subst Np
    have HN:=hU (show l.any Z4p=false by
     rw [List.any_eq_false];intro x hx;obtain ⟨k,hk,rfl⟩:=List.getElem_of_mem hx
     simp [Ci.o k hk hk])
    exact Ykq
theorem Zrj (most:Nat) (hm:most≤1000):∀(n:Nat) (D:Nat→Prop) (A:Option Addr) (c:Nat) (d:Nat) (l:List Z0a) (w:World),RowR (Z09 n) D w A c l→d≤21→
 Calls Tryz.prog 25 #[.slice A l.length c,.int .i64 (most:Int),.int .i64 (d:Int)] w fun e w'=>e = .returned (.int .i64 (Z2i most n d l:Int))∧w=w':=by
 intro n
 induction n with
 | zero=>
   intro D A c d l w h hd
   have I5:l = []:=by
    cases l with
    | nil=>rfl
    | cons x l=>
      exact Yq0
   subst I5;clear h;by_cases h20:20<d
   · have t1:decide ((20:Int)<(d:Int))=true:=by simp;omega
     have v1:IntKind.i64.wrap ((most:Int)+1)=(most:Int)+1:=Zt8 _ Ya;have HR:=hU (show ((Z2i most 0 d []:Nat):Int)=(most:Int)+1 by rw [Z2i,if_pos h20];rfl);clear h20;go_enter Tryz.func25,Tryz.ntmps25;exact Yex
   · have t1:decide ((20:Int)<(d:Int))=false:=by simp;omega
     have v1:IntKind.i64.wrap ((most:Int)+1)=(most:Int)+1:=Zt8 _ Ya;have HR:=hU (show ((Z2i most 0 d []:Nat):Int)=0 by rw [Z2i,if_neg h20,if_pos rfl];rfl);have bd:min (0:Int) ((most:Int)+1)=0:=Ya;clear h20;go_enter Tryz.func25,Tryz.ntmps25;go_wp2_with fail
     go_loopw [7,8] (fun a s wr=>s = .int .i64 0∧a = .int .i64 0∧wr=w) (fun a s wr=>0)
     case atStart=>exact ⟨rfl,rfl,rfl⟩
     case round=>
      obtain ⟨rfl,rfl,rfl⟩:=hrel;exact Yex
 | succ n ih=>
   intro D A c d l w h hd;have IH:=hU ih;have H:=hU h;have hlc:=h.cap;clear h ih;have v1:IntKind.i64.wrap ((most:Int)+1)=(most:Int)+1:=Zt8 _ Ya;by_cases h20:20<d
   · have t1:decide ((20:Int)<(d:Int))=true:=by simp;omega
     have HR:=hU (show ((Z2i most (n+1) d l:Nat):Int)=(most:Int)+1 by rw [Z2i,if_pos h20];rfl);clear h20;go_enter Tryz.func25,Tryz.ntmps25;exact Yex
   · have t1:decide ((20:Int)<(d:Int))=false:=by simp;omega
     obtain ⟨f,hf⟩:∃f:Z0a→Nat,f=fun c=>Z2i most n (d+1) c.conds:=⟨_,rfl⟩
     have Vc :∀c,f c≤most+1:=fun c=>by
      rw [hf]
      cases n with
      | zero=>simp only [Z2i];split;omega;split<;>omega
      | succ n=>simp only [Z2i];split;omega;omega
     have HFLE:=hU Vc;have HR:=hU (show ((Z2i most (n+1) d l:Nat):Int)=min ((goK most f l 0:Nat):Int) ((most:Int)+1) by rw [Z2i,if_neg h20,←hf];omega);have HF:=hU hf;have hd20:d≤20:=Ya;clear h20 Vc hf;go_enter Tryz.func25,Tryz.ntmps25;go_wp2_with fail
     go_loopw [7,8] (fun a s wr=>∃i:Nat,s = .int .i64 i∧i≤l.length∧a = .int .i64 ((goK most f (l.take i) 0:Nat):Int)∧goK most f (l.take i) 0≤2*most+2∧wr=w) (fun a s wr=>l.length - (intOf s).toNat)
     case atStart=>exact ⟨0,rfl,Nat.zero_le _,rfl,by simp [goK],rfl⟩
     case round=>
      obtain ⟨i,rfl,hi,rfl,hle,rfl⟩:=hrel;obtain ⟨s,hs⟩:∃s,s=goK most f (l.take i) 0:=⟨_,rfl⟩;rw [←hs] at hle ⊢;have HS:=hU hs;clear hs;by_cases hlt:i<l.length
      · by_cases hsm:s≤most
        · have t2:decide ((s:Int)≤(most:Int))=true:=by simp;omega
          obtain ⟨x,hx⟩:∃x,x=l[i]:=⟨_,rfl⟩;obtain ⟨g,off,A1,c1,A2,c2,A3,c3,rfl,_,hgs,q0,q1,q2,q3,q4,q5,q6,r1,r2,r3⟩:=Z31 H.o hlt;rw [←hx] at q6 r3;have ll:=hU r3;have hn3:=r3.cap;refine Yyx ?_;intro b1 b2;obtain ⟨y,hy⟩:∃y,y=f x:=⟨_,rfl⟩;have hyle:y≤most+1:=by rw [hy];exact HFLE.o x
          have E8:=hU (show Calls Tryz.prog 25 #[.slice A3 x.conds.length c3,.int .i64 (most:Int),.int .i64 ((d:Int)+1)] wr fun e w'=>e = .returned (.int .i64 (y:Int))∧wr=w' by
           have:=IH.o D A3 c3 (d+1) x.conds wr ll.o Ya;rw [hy,HF.o]
           exact this)
          have HN:=hU (show goK most f (l.take (i+1)) 0=s+(1+y) by
           rw [List.take_succ_eq_append_getElem hlt,Zh8,←HS.o,if_pos hsm,←hx,hy])
          have v2:IntKind.i64.wrap ((d:Int)+1)=(d:Int)+1:=Zt8 _ Ya;have v3:IntKind.i64.wrap (1+(y:Int))=1+(y:Int):=Zt8 _ Ya;have v4:IntKind.i64.wrap ((s:Int)+(1+(y:Int)))=(s:Int)+(1+(y:Int)):=Zt8 _ Ya;clear hx hy r1 r2 r3 q0 q1 q2 q3 q4 q5;go_wp2_with fail;refine E8.o.mono ?_;rintro e w2 ⟨rfl,rfl⟩;go_wp2_with fail;go_roundw
          case rel=>exact ⟨i+1,Yn,Ya,by rw [HN.o];simp,by rw [HN.o];omega,by trivial⟩
          case measure=>simp [intOf]<;>omega
        · have t2:decide ((s:Int)≤(most:Int))=false:=by simp;omega
          have b2:(i:Int)<(l.length:Int):=Ya;have bd:min (s:Int) ((most:Int)+1)=(most:Int)+1:=Ya
          have HN:=hU (show goK most f l 0=s by
           have:=Zh9 most f (l.take i) (l.drop i) 0 (by rw [←HS.o];exact hsm)
           rwa [List.take_append_drop,←HS.o] at this)
          clear hsm;go_wp2_with fail;go_ret;exact ⟨by rw [HR.o,HN.o,bd];rfl,rfl⟩
      · have Np:i=l.length:=by omega
        subst Np;have HN:=hU (show goK most f l 0=s by rw [HS.o,Ztc]);obtain ⟨z,hz⟩:∃z,z=min (s:Int) ((most:Int)+1):=⟨_,rfl⟩;have HZ:=hU hz;clear hz;go_wp2_with fail;go_ret;exact ⟨by rw [HR.o,HN.o];rfl,rfl⟩
theorem Z7n (n:Nat) (l:List Z0a):Z5b (n+1) l=l.any fun c=>Z4g c ||Z5b n c.conds:=rfl
theorem Zbx :∀(n:Nat) (D:Nat→Prop) (A:Option Addr) (c:Nat) (l:List Z0a) (w:World),RowR (Z09 n) D w A c l→
 Calls Tryz.prog 26 #[.slice A l.length c] w fun e w'=>e = .returned (.bool (Z5b n l))∧Below w.heap.size w w':=by
 intro n
 induction n with
 | zero=>
   intro D A c l w h
   have I5:l = []:=by
    cases l with
    | nil=>rfl
    | cons x l=>
      exact Yq0
   subst I5;clear h;go_enter Tryz.func26,Tryz.ntmps26;go_wp2_with fail
   go_loopw [3] (fun s wr=>s = .int .i64 0∧wr=w) (fun s wr=>0)
   case atStart=>exact ⟨rfl,rfl⟩
   case round=>
    obtain ⟨rfl,rfl⟩:=hrel;go_wp2_with fail;go_ret;exact ⟨rfl,Zst _ _⟩
 | succ n ih=>
   intro D A c l w h;have IH:=hU ih;have H:=hU h;have hlc:=h.cap;clear h ih;obtain ⟨R,hR⟩:∃R,R=Z5b (n+1) l:=⟨_,rfl⟩;rw [←hR];have HR:=hU (show R=l.any fun c=>Z4g c ||Z5b n c.conds by rw [hR,Z7n]);clear hR;go_enter Tryz.func26,Tryz.ntmps26;go_wp2_with fail
   go_loopw [3] (fun s wr=>∃i:Nat,s = .int .i64 i∧i≤l.length∧(∀k,(h:k<l.length)→k<i→(Z4g l[k] ||Z5b n l[k].conds)=false)∧Below w.heap.size w wr) (fun s wr=>l.length - (intOf s).toNat)
   case atStart=>exact ⟨0,rfl,Nat.zero_le _,fun k _ h=>absurd h Ya,Zst _ _⟩
   case round=>
    obtain ⟨i,rfl,hi,Lt,hB⟩:=hrel;have Ci:=hU Lt;have jv:=hU hB;clear Lt hB;by_cases hlt:i<l.length
    · obtain ⟨x,hx⟩:∃x,x=l[i]:=⟨_,rfl⟩
      obtain ⟨g,off,A1,c1,A2,c2,A3,c3,rfl,_,hgs,q0,q1,q2,q3,q4,q5,q6,r1,r2,r3⟩:=Z31 (H.o.new_ jv.o) hlt;rw [←hx] at q0 q1 q2 q3 q4 q5 q6 r1 r2 r3;have Nq:=hU r1;have O8:=hU r2;have ll:=hU r3;have hn1:=r1.cap;have hn2:=r2.cap;have hn3:=r3.cap;refine Yyx ?_;intro b1 b2;have HX:=hU hx;have je:=hU (show (Z4g x ||Z5b n x.conds)=true→R=true from fun h=>by rw [HR.o];exact Zu7.2 ⟨x,by rw [HX.o];exact Ztf hlt,h⟩);have Sd:=jv.o.size;clear hx r1 r2 r3;go_upto_region 5 with fail;obtain ⟨X,hX⟩:∃X,X=wr.alloc (.cells (Q0r x A1 c1 A2 c2 A3 c3) 77):=⟨_,rfl⟩;rw [←hX];have Ol:Below wr.heap.size wr X:=YHw;have Kx:=hU (show Blk X wr.heap.size 77 (Q0r x A1 c1 A2 c2 A3 c3) from YJk);have HB:=hU Ol;have Jm:=hU (jv.o.trans (Ol.mono Sd));clear hX Ol q0 q1 q2 q3 q4 q5 q6;obtain ⟨-,-,x2,x3,x4,-,x6⟩:=Kx.o.c7;have xz:=Kx.o.lt;cases t1:decide (100<x.id.size)
      · skip
        cases t2:decide (10<x.attr.length)
        · skip
          cases t3:decide (10<x.value.length)
          · skip
            have s1:decide ((100:Int)<(x.id.size:Int))=false:=YRn;have s2:decide ((10:Int)<(x.attr.length:Int))=false:=YDd;have s3:decide ((10:Int)<(x.value.length:Int))=false:=YPr;cases t4:x.attr.any Z4p
            · skip
              cases t5:x.value.any Z4p
              · skip
                cases t6:Z5b n x.conds
                · skip
                  have Al:=Z2q x.attr X (Nq.o.new_ HB.o);rw [t4] at Al;have F9:=hU Al;clear Al;have Kz:=Z2q x.value X (O8.o.new_ HB.o);rw [t5] at Kz;have cn:=hU Kz;clear Kz;have Nn:=IH.o D A3 c3 x.conds X (ll.o.new_ HB.o);rw [t6] at Nn;have HC3:=hU Nn;clear Nn;have HN:=hU (show (Z4g x ||Z5b n x.conds)=false by simp [Z4g,t1,t2,t3,t4,t5,t6]);clear t1 t2 t3 t4 t5 t6;go_wp2_with fail;refine Yd2 ?_;go_wp2_with fail;refine cn.o.mono ?_;rintro e w9 ⟨rfl,rfl⟩;go_wp2_with fail;refine HC3.o.mono ?_;rintro e w5 ⟨rfl,ww⟩;have Xp:=hU (Jm.o.trans (ww.mono Jm.o.size));clear ww;clear x2 x3 x4 x6;go_wp2_with fail;go_roundw
                  case rel=>
                   refine ⟨i+1,Yn,Ya,fun k h hk=>?_,Xp.o⟩;exact Ygv
                  case measure=>simp [intOf]<;>omega
                · skip
                  have Al:=Z2q x.attr X (Nq.o.new_ HB.o);rw [t4] at Al;have F9:=hU Al;clear Al;have Kz:=Z2q x.value X (O8.o.new_ HB.o);rw [t5] at Kz;have cn:=hU Kz;clear Kz;have Nn:=IH.o D A3 c3 x.conds X (ll.o.new_ HB.o);rw [t6] at Nn;have HC3:=hU Nn;clear Nn;have HN:=hU (je.o (by simp [t6]));clear t1 t2 t3 t4 t5 t6;go_wp2_with fail;refine Yd2 ?_;go_wp2_with fail;refine cn.o.mono ?_;rintro e w9 ⟨rfl,rfl⟩;go_wp2_with fail;refine HC3.o.mono ?_;rintro e w5 ⟨rfl,ww⟩;have Xp:=hU (Jm.o.trans (ww.mono Jm.o.size));clear ww;clear x2 x3 x4 x6;go_wp2_with fail;go_ret;exact ⟨YTm,Xp.o⟩
              · skip
                have Al:=Z2q x.attr X (Nq.o.new_ HB.o);rw [t4] at Al;have F9:=hU Al;clear Al;have Kz:=Z2q x.value X (O8.o.new_ HB.o);rw [t5] at Kz;have cn:=hU Kz;clear Kz;have HN:=hU (je.o (by simp [Z4g,t5]));clear t1 t2 t3 t4 t5;go_wp2_with fail;refine Yd2 ?_;go_wp2_with fail;refine cn.o.mono ?_;rintro e w9 ⟨rfl,rfl⟩;exact Ys9
            · skip
              have Al:=Z2q x.attr X (Nq.o.new_ HB.o);rw [t4] at Al;have F9:=hU Al;clear Al;have HN:=hU (je.o (by simp [Z4g,t4]));clear t1 t2 t3 t4;go_wp2_with fail;refine Yd2 ?_;exact Ys9
          · skip
            have s1:decide ((100:Int)<(x.id.size:Int))=false:=YRn;have s2:decide ((10:Int)<(x.attr.length:Int))=false:=YDd;have s3:decide ((10:Int)<(x.value.length:Int))=true:=YPr;have HN:=hU (je.o (by simp [Z4g,t3]));clear t1 t2 t3;exact Ys9
        · skip
          have s1:decide ((100:Int)<(x.id.size:Int))=false:=YRn;have s2:decide ((10:Int)<(x.attr.length:Int))=true:=YDd;have HN:=hU (je.o (by simp [Z4g,t2]));clear t1 t2;exact Ys9
      · skip
        have s1:decide ((100:Int)<(x.id.size:Int))=true:=YRn;have HN:=hU (je.o (by simp [Z4g,t1]));clear t1;exact Ys9
    · have Np:i=l.length:=by omega
      subst Np
      have HN:=hU (show R=false by
       rw [HR.o,List.any_eq_false];intro x hx;obtain ⟨k,hk,rfl⟩:=List.getElem_of_mem hx;have:=Ci.o k hk hk
       simpa using this)
      go_wp2_with fail;go_ret;exact ⟨YTm,jv.o⟩
end
section
open Go.RowKit
theorem Zdo (A:Option Addr) (c:Nat) (l:List Z0z){D:Nat→Prop}(w:World) (hrd:RowR Z07 D w A c l) (hs:SmT l) :
 Calls Tryz.prog 90 #[.slice A l.length c] w (Zgu Z07 l w):=by
 obtain ⟨i0,hi0,hz0,hz1,hz2⟩:=infp Z8s;obtain ⟨j0,E6,ye,J8,Cq⟩:=infp Zhd;have hlc:=hrd.cap;have hl1:=hs.1;have Ww:=hU hrd;have HS:=hU hs;clear hrd hs;go_enter Tryz.func90,Tryz.ntmps90;go_wp2_with fail
 go_loopw [3,4] (fun v i wr=>∃k:Nat,i = .int .i64 k∧k≤l.length∧Z2k Z07 196 w (l.take k) v wr) (fun v i wr=>l.length - (intOf i).toNat)
 case atStart=>exact ⟨0,rfl,Nat.zero_le _,Z2k.nil _ _ _ (Zst _ _)⟩
 case round=>
  obtain ⟨k,rfl,hk,hC⟩:=hrel;obtain ⟨C,A1,c1,rfl,h1,h2,h3,h4⟩:=hC;rw [Z1u hk];by_cases hlt:k<l.length
  · have Dz:=Ww.o.keep (D':=D) h4.size (fun j hj hl=>⟨hj,h4.block j hl⟩)
    obtain ⟨g,off,A3,c3,rfl,hDg,hg,q0,q1,q2,q3,q4,q5,Gi⟩:=Z5a Dz hlt;obtain ⟨y,hy⟩:∃y,y=l[k]:=⟨_,rfl⟩;have hy3:y.list.length≤1000:=YT1;rw [←hy] at q0 q1 q2 q3 q4 q5 Gi;have Cs:=RowR.rd (hs:=Sym.cells_length) Gi;have hl3:=Gi.cap;refine Ysh ?_;intro b1 b2;have HY:=hU hy;refine Yuw ?_;intro H1 H2 H3 H4;have pq:=hU Cs;clear hy Dz h1 h2 h3 h4 Gi Cs;go_upto_region 6 with fail;obtain ⟨W4,rj⟩:∃W4,W4=wr.alloc (.cells (Q0n y A3 c3) 196):=⟨_,rfl⟩;have Ll:Below wr.heap.size wr W4:=YIi;(have Js:Blk W4 wr.heap.size 196 (Q0n y A3 c3):=by rw [rj];exact Blk.new _ _ _);rw [←rj];clear rj q0 q1 q2 q3 q4;have Ni:=hU Ll;have ya:=hU Js;have hxl4:=Js.lt;have x5:=(Ll.cell (p:=⟨g,off+k*6+5,none⟩) hg).trans q5;clear Js Ll q5;(have hg4:g<W4.heap.size:=by have:=Ni.o.size;omega);go_wp2_with fail;refine (Zd8 A3 c3 y.list W4 (pq.o.new_ Ni.o) Ya).mono ?_;rintro e w5 ⟨A5,c5,rfl,Bl,P7,Wz⟩;have Tg:=ya.o.new_ Wz;have u5:=(Tg.cell 5).trans rfl;have g5:=Tg.frozen 5;have hxl5:=Tg.lt;have Xp:=hU Wz;have V0:=hU Bl;have P4:=hU P7;have Og:=hU Tg;clear Tg Wz Bl P7 x5;go_upto_region 7 with fail;exact Ys2
  · exact Ym7
end
end Go.Proofs.YtcnnofgaifcgaaaGreat
