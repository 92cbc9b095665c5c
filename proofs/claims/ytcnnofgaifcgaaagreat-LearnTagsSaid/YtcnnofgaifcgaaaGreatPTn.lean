/-
  Texts put together: NewPgT, BkMapPgT, BkAllPgT, BkGetPgT, BkCopied, BkState, BkWalkP, BkPlain2, BkState2.
-/
import Derived.Test.YtcnnofgaifcgaaaGreatPTm
namespace Go.Proofs.YtcnnofgaifcgaaaGreat
set_option maxRecDepth 100000
set_option maxHeartbeats 32000000
set_option linter.unusedSimpArgs false
section
open Go.RowKit
def Zi3 (w:World) (xs:List PgT) (e:Ending) (w':World):Prop:=
 ∃k,e = .returned (.pointer (some ⟨k,0,none⟩))∧w.heap.size≤k∧∃sn A c,Z30 w' k sn A c (puts Z0x [] xs)∧AIn A (w.heap.size≤·)∧Below w.heap.size w w'
theorem Zr8 (A:Option Addr) (c:Nat) (xs:List PgT) (w:World) (hrd:Z0y w 15 PgT.cells A c xs) (hl:(xs.length:Int)≤10000000) :
 Calls Tryz.prog 66 #[.slice A xs.length c] w (Zi3 w xs):=by
 have Ww:=hU hrd;clear hrd;go_enter Tryz.func66,Tryz.ntmps66;go_wp2_with fail;obtain ⟨W0,rp⟩:∃W0,W0=w.alloc (.cells #[.slice none 0 0,.bool false] 205):=⟨_,rfl⟩;have yj:Below w.heap.size w W0:=Yp;have Ud:Z30 W0 w.heap.size false none 0 []:=⟨Yw,⟨Ye,.inl ⟨rfl,rfl⟩⟩⟩;rw [←rp];clear rp;have jv:=hU yj;have Vf:=hU Ud;clear yj Ud
 go_loopw [10] (fun s wr=>∃i:Nat,s = .int .i64 i∧i≤xs.length∧∃sn A' c',Z30 wr w.heap.size sn A' c' (puts Z0x [] (xs.take i))∧AIn A' (w.heap.size≤·)∧Below w.heap.size w wr) (fun s wr=>xs.length - (intOf s).toNat)
 case atStart=>exact ⟨0,rfl,Nat.zero_le _,false,none,0,Vf.o,AIn.none_ _,jv.o⟩
 case round=>
  obtain ⟨i,rfl,hi,sn,A',c',hS,Ml,hB⟩:=hrel;have HS:=hU hS;have HA:=hU Ml;have HB:=hU hB;clear hS Ml hB;by_cases hlt:i<xs.length
  · refine Ycc ?_;intro x hx
    obtain ⟨g,off,rfl,hgs,R9⟩:=(Ww.o.fr (Fr.of_new (M:=fun _=>False) HB.o) (fun _ _ h=>h)).at_ hlt;rw [←hx] at R9;have q0:wr.cell? ⟨g,off+i*15,none⟩=some (.int .i64 x.kk):=Yq;have q1:wr.cell? ⟨g,off+i*15+1,none⟩=some (.int .i64 x.tr.elem.id.kind):=YO5;have q2:wr.cell? ⟨g,off+i*15+2,none⟩=some (.string x.tr.elem.id.text):=YFu;have q3:wr.cell? ⟨g,off+i*15+3,none⟩=some (.int .i64 x.tr.elem.id.n):=YKg;have q4:wr.cell? ⟨g,off+i*15+4,none⟩=some (.int .i64 x.tr.elem.attr.kind):=YI7;have q5:wr.cell? ⟨g,off+i*15+5,none⟩=some (.string x.tr.elem.attr.text):=YU1;have q6:wr.cell? ⟨g,off+i*15+6,none⟩=some (.int .i64 x.tr.elem.attr.n):=YTq;have q7:wr.cell? ⟨g,off+i*15+7,none⟩=some (.int .i64 x.tr.elem.value.kind):=YN7;have q8:wr.cell? ⟨g,off+i*15+8,none⟩=some (.string x.tr.elem.value.text):=YQ3;(have q9:wr.cell? ⟨g,off+i*15+9,none⟩=some (.int .i64 x.tr.elem.value.n):=by simpa using R9 9 _ rfl);(have Jw:wr.cell? ⟨g,off+i*15+10,none⟩=some (.bool x.tr.elem.acc):=by simpa using R9 10 _ rfl);(have P8:wr.cell? ⟨g,off+i*15+11,none⟩=some (.bool x.tr.elem.goal):=by simpa using R9 11 _ rfl);(have i5:wr.cell? ⟨g,off+i*15+12,none⟩=some (.int .i64 x.tr.elem.tag):=by simpa using R9 12 _ rfl);(have Nb:wr.cell? ⟨g,off+i*15+13,none⟩=some (.int .i64 x.tr.level):=by simpa using R9 13 _ rfl);(have j3:wr.cell? ⟨g,off+i*15+14,none⟩=some (.int .i64 x.tr.cause):=by simpa using R9 14 _ rfl);refine Yhh ?_;intro b1 b2 HX;clear R9 hx;go_wp2_with fail;have Nl:=Srt.puts Z56 (xs.take i) (Srt.nil (cmp:=Z0x))
    have Vx:(((puts Z0x [] (xs.take i)).length:Nat):Int)≤100000000:=by
     have:=Z1e Z56 (xs.take i) (Srt.nil (cmp:=Z0x));exact Yt5
    refine (Zml w.heap.size c' sn A' _ x _ (HS.o.new_ ((Zst _ _).alloc (Zsu _) _)) Nl Vx).mono ?_;rintro e w1 ⟨rfl,Nf,A2,c2,F7,Td,Uz⟩
    have Ky:Below w.heap.size w w1:=(HB.o.alloc HB.o.size _).trans (Td.below YI3 (fun k hk hm=>by
     rcases hm with hm|⟨_,a,ha,hm⟩
     · omega
     · have:=HA.o a ha;omega))
    have jw:AIn A2 (w.heap.size≤·):=by
     exact Yxb
    have fk:=hU F7;have Nk:=hU Ky;have Ns:=hU jw;clear F7 Ky jw Td Uz Nl Vx q0 q1 q2 q3 q4 q5 q6 q7 q8 q9 Jw P8 i5 Nb j3;exact Yqt
  · exact Yro
def zPgT (k:Int):PgT:=⟨k,⟨⟨⟨0,⟨#[]⟩,0⟩,⟨0,⟨#[]⟩,0⟩,⟨0,⟨#[]⟩,0⟩,false,false,0⟩,0,0⟩⟩
theorem Z1w.of_PgT {a b:World}(h:Below a.heap.size a b){sn sn':Bool}{A A':Option Addr}(hm:Z1w b sn A sn' A'):Z1w a sn A sn' A':=
 hm.imp id (fun ⟨h1,g,h2,h3⟩=>⟨h1,g,by have:=h.size;omega,h3⟩)
theorem Zbo (k:Int) (w:World):Calls Tryz.prog 70 #[.int .i64 k] w fun e w'=>e = .returned (.agg #[.int .i64 k,.int .i64 0,.string ⟨#[]⟩,.int .i64 0,.int .i64 0,.string ⟨#[]⟩,.int .i64 0,.int .i64 0,.string ⟨#[]⟩,.int .i64 0,.bool false,.bool false,.int .i64 0,.int .i64 0,.int .i64 0])∧Below w.heap.size w w':=by
 obtain ⟨W,hW⟩:∃W,W=w.alloc (.cells Q2t 150):=⟨_,rfl⟩;(have hR:Blk W w.heap.size 150 Q2t:=by rw [hW];exact Blk.new _ _ _);have hB:Below w.heap.size w W:=YZ3;have ht:W.there w.heap.size 0 (#[.int .i64 k,.int .i64 0,.string ⟨#[]⟩,.int .i64 0,.int .i64 0,.string ⟨#[]⟩,.int .i64 0,.int .i64 0,.string ⟨#[]⟩,.int .i64 0,.bool false,.bool false,.int .i64 0,.int .i64 0,.int .i64 0]:Array Value).size:=hR.there;have HT:=hU ht;have HB:=hU hB;clear ht hR hB;go_enter Tryz.func70,Tryz.ntmps70;go_upto_region 1 with (fail);rw [←hW];clear hW;(go_wp2_with (with_reducible refine wpList_store_mid rfl 150 _ _ rfl w.heap.size 0 #[.int .i64 k,.int .i64 0,.string ⟨#[]⟩,.int .i64 0,.int .i64 0,.string ⟨#[]⟩,.int .i64 0,.int .i64 0,.string ⟨#[]⟩,.int .i64 0,.bool false,.bool false,.int .i64 0,.int .i64 0,.int .i64 0] rfl rfl HT.o Yb Yb ?_));refine Ykv ?_;refine bodyPost_ret (v:=.agg #[.int .i64 k,.int .i64 0,.string ⟨#[]⟩,.int .i64 0,.int .i64 0,.string ⟨#[]⟩,.int .i64 0,.int .i64 0,.string ⟨#[]⟩,.int .i64 0,.bool false,.bool false,.int .i64 0,.int .i64 0,.int .i64 0]) ?_ rfl ⟨rfl,Below.setCells' _ _ HB.o Ya⟩;exact Z1j (t:=2) (T:=150) rfl _ _ w.heap.size [.int .i64 k,.int .i64 0,.string ⟨#[]⟩,.int .i64 0,.int .i64 0,.string ⟨#[]⟩,.int .i64 0,.int .i64 0,.string ⟨#[]⟩,.int .i64 0,.bool false,.bool false,.int .i64 0,.int .i64 0,.int .i64 0] _ rfl (Zsy W w.heap.size 0 [.int .i64 k,.int .i64 0,.string ⟨#[]⟩,.int .i64 0,.int .i64 0,.string ⟨#[]⟩,.int .i64 0,.int .i64 0,.string ⟨#[]⟩,.int .i64 0,.bool false,.bool false,.int .i64 0,.int .i64 0,.int .i64 0] HT.o) Tryz.underlying150 rfl Yb
theorem Zkl (w:World):Calls Tryz.prog 38 #[] w fun e w'=>∃bm bp sn A c,e = .returned (.pointer (some ⟨bm,0,none⟩))∧w.heap.size≤bm∧w.heap.size≤bp∧AIn A (w.heap.size≤·)∧Blk w' bm 152 #[.pointer (some ⟨bp,0,none⟩)]∧Z30 w' bp sn A c []∧Below w.heap.size w w':=by
 go_enter Tryz.func38,Tryz.ntmps38;go_wp2_with fail;refine (Zr8 none 0 [] _ (Z0y.nil _ _ _) Ye).mono ?_;rintro e w1 ⟨bp,rfl,iv,sn,A,c,hS,hA,hB⟩;have HS:=hU hS;have HB:=hU hB;clear hS hB;go_wp2_with fail;go_ret;have Ct:Below w1.heap.size w1 (w1.alloc (.cells #[.pointer (some ⟨bp,0,none⟩)] 152)):=(Zst _ _).alloc (Zsu _) _;exact Ylk
theorem Zkg (b:Nat) (w:World) :
 Calls Tryz.prog 45 #[.pointer (some ⟨b,0,none⟩)] w fun e w'=>e = .returned (.func (.func 76) #[] #[.pointer (some ⟨w.heap.size,0,none⟩)])∧Below w.heap.size w w'∧Blk w' w.heap.size 102 #[.pointer (some ⟨b,0,none⟩)]:=by
 go_enter Tryz.func45,Tryz.ntmps45;exact Yyg
theorem Zkp (bm bp cc:Nat) (sn:Bool) (A:Option Addr) (m:List PgT) (x:PgT) (w:World) (hM:Blk w bm 152 #[.pointer (some ⟨bp,0,none⟩)]) (hS:Z30 w bp sn A cc m) (hs:Srt Z0x m) (hl:(m.length:Int)≤1000000) (hh:has Z0x m x=false) :
 Calls Tryz.prog 42 #[.pointer (some ⟨bm,0,none⟩),.int .i64 x.kk,.agg (Q0h x.tr)] w fun e w'=>e = .returned (.bool true)∧∃sn' A' c',Z30 w' bp sn' A' c' (put Z0x m x)∧Fr (Z0w bp sn A) w w'∧Z1w w sn A sn' A':=by
 have of:has Z0x m (zPgT x.kk)=false:=hh;refine Ysw ?_;intro s0 Le HS HO HM HH;have Wv:=hU of;clear hS hs hM hh of;go_enter Tryz.func42,Tryz.ntmps42;go_upto_region 3 with (fail);obtain ⟨W0,rp⟩:∃W0,W0=w.alloc (.cells (Q0h x.tr) 52):=⟨_,rfl⟩;have Lg:Below w.heap.size w W0:=Yp;have im:Blk W0 w.heap.size 52 (Q0h x.tr):=Yw;have hz0:w.heap.size<W0.heap.size:=im.lt;rw [←rp];clear rp;have s1:=(Lg.cell (p:=⟨bm,0,none⟩) Le).trans s0;clear s0;refine Yn6 ?_;intro Vf Rq jt jv hml0;clear Lg im HS HM
 go_cut [8] from 11 (fun b wc=>b = .bool false∧Below W0.heap.size W0 wc)
 case first=>
  refine Z1g (fun w9=>Below W0.heap.size W0 w9) [0,1,2,3,4,7,8,9,12] [3] (.fork [(0,0),(1,0),(2,0),(3,1),(4,0)] 5 (.fork [] 6 (.fin [(7,0),(8,0),(9,0),(10,2),(11,2),(12,0)]) 10 (.fin [(6,2),(7,0),(8,0),(9,0),(11,2),(12,0)])) 10 (.fin [(5,2),(6,2),(7,0),(8,0),(9,0),(11,2),(12,0)])) Yb Yb Yb (fun KK hKK=>?_);refine Y8a ?_;intro HB V hV;rw [←hV] at HB ⊢;clear hV
  repeat' (first
   | ((first|(refine Z1r ?_ (Or.inl ⟨Yd,fun w9=>?_⟩) ?_;rotate_left 1;go_simp;with_reducible rfl)|(refine Z1y ?_ (HB.o) (Or.inl ⟨Yd,fun w9 hw9=>?_⟩) ?_;rotate_left 1;obtain ⟨Do,rr⟩:=Z0i hw9;go_simp;with_reducible rfl)|refine Z1r undef (Or.inr ⟨Yd,rfl⟩) ?_|refine Z1y undef (HB.o) (Or.inr ⟨Yd,rfl⟩) ?_);go_frame)
   | ((first|refine Z1n (fun K9 hK9=>?_)|refine Z1c rfl (fun K9 hK9=>?_));refine Z0h rfl 150 _ _ rfl g 0 Q2t rfl rfl (show _ from HK.o.there) Yb Yb ?_;show K9 _ (V.setCells g 0 Q2u);have HR:=hU (Zsy V g 0 Q2u (show _ from HK.o.there));have HB:=hU (Below.setCells' Q2u 0 HB.o HG.o);obtain ⟨V,hV⟩:∃V9,V9=V.setCells g 0 Q2u:=⟨_,rfl⟩;rw [←hV] at HR HB;rw [←hV];have HL:=hU (show g<V.heap.size from Zt5 _ _ (HR.o 0 _ rfl));clear hV;(first|refine hK9 _ _ (HB.o) ?_|refine hK9 _ _ (fun _=>HB.o) ?_);clear hK9 K9;(try go_frame);try simp only [Z08,Zsv])
   | ((first|refine Z1n (fun K9 hK9=>?_)|refine Z1c rfl (fun K9 hK9=>?_));go_simp;(first
     | (refine (Zbo x.kk _).mono ?_;rintro e V ⟨rfl,hb⟩;have HB:=hU (HB.o.trans (hb.mono HB.o.size));(try have HK:=hU (HK.o.new_ hb));clear hb)
     | (refine (Zb2 bp cc sn A m (zPgT x.kk) _ (Vf.o.new_ (HB.o)) HO.o Ya Wv.o).mono ?_;rintro e V ⟨rfl,hb⟩;have HB:=hU (HB.o.trans (hb.mono HB.o.size));(try have HK:=hU (HK.o.new_ hb));clear hb)
     | (obtain ⟨g,hg⟩:∃g,g=V.heap.size:=⟨_,rfl⟩;have hk:=Blk.new V 150 Q2t;have HG:=hU (show W0.heap.size≤g from YWc);have HB:=hU (HB.o.alloc HB.o.size (.cells Q2t 150));obtain ⟨V,hV⟩:∃V9,V9=V.alloc (.cells Q2t 150):=⟨_,rfl⟩;rw [←hV,←hg] at hk;rw [←hV] at HB;have HK:=hU hk;rw [←hV,←hg];clear hV hk hg)|fail);(first|refine hK9 _ _ (HB.o) ?_|refine hK9 _ _ (fun _=>HB.o) ?_);clear hK9 K9;(try go_frame);try simp only [Z08,Zsv])
   | (refine Z0p ⟨?_,?_⟩)|fail)
  all_goals
   refine Y1g ?_;exact Yfh
 case rest=>
  obtain ⟨rfl,hB⟩:=hcut;have r0:=(Rq.o.new_ hB).c1;have hX:=jt.o.new_ hB;have HX:=hU hX;have hml2:=(Rq.o.new_ hB).lt;have hxl2:=hX.lt;have HB:=hU hB;have fk:=hU (Vf.o.new_ hB);have x0:=(hX.cell 0).trans rfl;have x1:=(hX.cell 1).trans rfl;have x2:=(hX.cell 2).trans rfl;have x3:=(hX.cell 3).trans rfl;have x4:=(hX.cell 4).trans rfl;have x5:=(hX.cell 5).trans rfl;have x6:=(hX.cell 6).trans rfl;have x7:=(hX.cell 7).trans rfl;have x8:=(hX.cell 8).trans rfl;have x9:=(hX.cell 9).trans rfl;have x10:=(hX.cell 10).trans rfl;have x11:=(hX.cell 11).trans rfl;have x12:=(hX.cell 12).trans rfl;have x13:=(hX.cell 13).trans rfl;clear hB hX s1;go_wp2_with fail;refine Z03 (fun w9=>Below wc.heap.size wc w9) [(0,0),(1,0),(2,0),(3,1),(4,0),(5,1),(6,0),(7,2),(8,0)] Yb Yb (fun KK hKK=>?_);refine Ygs ?_;intro K9 hK9;refine (Zml bp cc sn A m x _ (fk.o.new_ ((Zst _ _).drew)) HO.o Ya).mono ?_;rintro e w5 ⟨rfl,Vh⟩;have HP:=hU Vh;clear Vh;refine Y8n ?_;clear hK9 K9;refine Yyj ?_;refine Yf0 ?_;clear hKK KK;go_wp2_with fail
  go_ret;have Ua:Below w.heap.size w wc:=jv.o.trans (HB.o.mono Ya);obtain ⟨sn',A',c',g1,g2,g3⟩:=HP.o;refine ⟨by rw [HH.o]<;>rfl,sn',A',c',g1,(Fr.of_new Ua).trans ((Fr.refl _ wc).drew.trans g2),Z1w.of_PgT Ua g3⟩
end
section
open Go.RowKit Go.Shelf
attribute [local go_sem] Oper.semAt_some
def Zbu (x:PgT):Array Value:=#[.int .i64 x.kk,.agg (Q0h x.tr)]
theorem Zid (kb c:Nat) (sn:Bool) (A:Option Addr) (bm bp:Nat) (l:List PgT) (W:World) (hbox:W.cell? ⟨kb,0,none⟩=some (.pointer (some ⟨bm,0,none⟩))) (hB:Blk W bm 152 #[.pointer (some ⟨bp,0,none⟩)]) (hS:Z30 W bp sn A c l) :
 Zk1 Tryz.prog 76 #[.pointer (some ⟨kb,0,none⟩)] Zbu l W (Z1s bp) (Z10 A):=by
 intro lo J Jx hJ Gr h0 hY;have hbsl:=hS.lt;have hkb:=Zt5 W _ hbox;have i8:=hS.row_lt;have s1:=(hB.cell 0).trans rfl;have hbl:=hB.lt;have HJ:=hU hJ;have Gv:=hU Gr;have H0:=hU h0;have HY:=hU hY;have HS:=hU hS;have HA:=hU i8;clear hJ Gr h0 hY hS hB i8;refine callsIn_of_wp_marks Tryz.func76 rfl trivial ?_;simp only [Tryz.ntmps76,Zu5,Ztg,Zu1,Nat.reduceAdd,Nat.reduceSub,Ztw,Ztx,Zu4,Zu0,Ztk,Ztv];gi_wp2_with fail;refine Yi8 ?_;obtain ⟨W0,rp⟩:∃W0,W0=W.alloc (.cells #[.func (.yield lo) #[] #[]] 111):=⟨_,rfl⟩;have yj:Below W.heap.size W W0:=Yp;have B6:Blk W0 W.heap.size 111 #[.func (.yield lo) #[] #[]]:=Yw;rw [←rp];clear rp;refine (callsIn_wide.2 (Zlx bp W0)).mono ?_;rintro e w3 ⟨rfl,Ri,lw⟩;have hz0:=B6.lt;have hz3:=Ri.size;have ep:=(B6.new_ Ri);have Kh:Below W.heap.size W w3:=yj.trans (Ri.mono yj.size);have Xa:=Zgm W0.heap.size bp _ _ _ l w3 lw (HS.o.new_ Kh);have Vo:=hU Xa;have n7:=hU ep;have Ue:=hU Kh;clear yj B6 Ri lw Xa ep Kh s1;gi_wp2_with fail;obtain ⟨I,hI⟩:∃I:World→List PgT→World→Prop,I=fun F p X=>(Z1s bp W F∧F.heap.size≤X.heap.size∧W.heap.size<F.heap.size)∧J F p X∧X.cell? ⟨W.heap.size,0,none⟩=some (.func (.yield lo) #[] #[]):=⟨_,rfl⟩;obtain ⟨Ix,Mf⟩:∃Ix:World→Code→List PgT→World→Prop,Ix=fun F c p X=>c = .ret∧Z1s bp W F∧Jx F p X:=⟨_,rfl⟩;refine Z66 (w:=w3) Yd Vo.o.enter Vo.o.p.iter (fun x=>Yd) Vo.o.trans Vo.o.keep (fun W W1 h=>Z36 (Vo.o.mods W W1 h)) I Ix ?_ ?_ ?_ ?_ ?_ ?_
 · exact Yh1
 · exact Ynf
 · exact Yi2
 · intro F lo2 pre x post X hx hlo j9
   have HX:=hU hx;clear hx;rw [hI] at j9;obtain ⟨⟨Ss,hfx,qi⟩,oy,nj⟩:=j9;have HI:=hU hI;have HIx:=hU Mf;have Ac:=hU Ss;have Gq:=hU oy;have D5:=Zt5 X _ nj;clear hI Mf Ss oy;simp only [Zdc,Array.zip];gi_wp2_with fail;have Xz:=HJ.o F pre X _ Gq.o ((Priv.refl W.heap.size X).alloc (.cells (Q0b x) 150));have Ct:Below X.heap.size X (X.alloc (.cells (Q0b x) 150)):=(Zst _ _).alloc (Zsu _) _;have Ep:=(Ct.cell (p:=⟨W.heap.size,0,none⟩) D5).trans nj;have uo:Blk (X.alloc (.cells (Q0b x) 150)) X.heap.size 150 (Q0b x):=Blk.new _ _ _;have Iv:w3.heap.size≤X.heap.size∨X.heap.size<w3.heap.size:=Ya;have Vs:Z10 A X (X.alloc (.cells (Q0b x) 150)):=Z10.of_priv HA.o (((Priv.refl W.heap.size X).alloc _));refine ⟨Kept.new_ Ct hfx,fun X2 hp2 hz2 _ _=>?_⟩;refine Y3t ?_;intro qp Ie pi x0;have x1:X2.cell? ⟨X.heap.size,1,none⟩=some (.int .i64 x.tr.elem.id.kind):=(pi.cell 1).trans rfl;have x2:X2.cell? ⟨X.heap.size,2,none⟩=some (.string x.tr.elem.id.text):=(pi.cell 2).trans rfl;have x3:X2.cell? ⟨X.heap.size,3,none⟩=some (.int .i64 x.tr.elem.id.n):=(pi.cell 3).trans rfl;have x4:X2.cell? ⟨X.heap.size,4,none⟩=some (.int .i64 x.tr.elem.attr.kind):=(pi.cell 4).trans rfl;have x5:X2.cell? ⟨X.heap.size,5,none⟩=some (.string x.tr.elem.attr.text):=(pi.cell 5).trans rfl;have x6:X2.cell? ⟨X.heap.size,6,none⟩=some (.int .i64 x.tr.elem.attr.n):=(pi.cell 6).trans rfl;have x7:X2.cell? ⟨X.heap.size,7,none⟩=some (.int .i64 x.tr.elem.value.kind):=(pi.cell 7).trans rfl;have x8:X2.cell? ⟨X.heap.size,8,none⟩=some (.string x.tr.elem.value.text):=(pi.cell 8).trans rfl;have x9:X2.cell? ⟨X.heap.size,9,none⟩=some (.int .i64 x.tr.elem.value.n):=(pi.cell 9).trans rfl;have R6:X2.cell? ⟨X.heap.size,10,none⟩=some (.bool x.tr.elem.acc):=(pi.cell 10).trans rfl;have sh:X2.cell? ⟨X.heap.size,11,none⟩=some (.bool x.tr.elem.goal):=(pi.cell 11).trans rfl;have R7:X2.cell? ⟨X.heap.size,12,none⟩=some (.int .i64 x.tr.elem.tag):=(pi.cell 12).trans rfl;have te:X2.cell? ⟨X.heap.size,13,none⟩=some (.int .i64 x.tr.level):=(pi.cell 13).trans rfl;have tf:X2.cell? ⟨X.heap.size,14,none⟩=some (.int .i64 x.tr.cause):=(pi.cell 14).trans rfl;have tj:Z10 A X X2:=Vs.trans (Z10.of_priv HA.o (hp2.mono (B:=W.heap.size) Ya));have Kd:=hU tj;have s7:F.heap.size≤X2.heap.size:=Ya;have hxl2:=pi.lt
   obtain ⟨fn,tmps,assign,body,hy,hR⟩:=HY.o F pre x post X2 Ac.o HX.o qp;dsimp only [Zbu] at hy;have Sn:=hU hR;have hyl2:=Zt5 X2 _ Ie;have tq:=hU Ie;clear hR Xz Ct Ep uo Iv Vs hp2 qp pi tj nj;gi_wp2_with fail;refine ⟨rfl,Sn.o.mono ?_⟩;rintro e W3 (⟨rfl,qp,um,X9⟩|⟨rfl,xt,X9⟩)
   · have M9:=hU qp
     have kl:=hU um;have jk:=hU X9;clear qp um X9 hy x0 x1 x2 x3 x4 x5 x6 x7 x8 x9 R6 sh R7 te tf Ie;exact Yn1
   · have M9:=hU xt
     have jk:=hU X9;clear xt X9 hy x0 x1 x2 x3 x4 x5 x6 x7 x8 x9 R6 sh R7 te tf Ie;gi_wp2;have Mf:=HIx.o;subst Mf;exact ⟨jk.o.up Ya,rfl,Ac.o,M9.o⟩
 · exact Y52
 · exact Yr1
theorem Zn0 (kb c:Nat) (sn:Bool) (A:Option Addr) (bm bp:Nat) (l:List PgT) (w:World) (hbox:w.cell? ⟨kb,0,none⟩=some (.pointer (some ⟨bm,0,none⟩))) (hB:Blk w bm 152 #[.pointer (some ⟨bp,0,none⟩)]) (hS:Z30 w bp sn A c l) :
 SeqP 76 #[.pointer (some ⟨kb,0,none⟩)] Zbu l w (Z1s bp) (Z10 A):=
 ⟨YX8,fun W hW=>Zid kb c sn A bm bp l W ((hW.cell (Zt5 _ _ hbox)).trans hbox) (hB.new_ hW) (hS.new_ hW),fun _ _ _=>Z10.trans,fun _ _=>Z10.of_priv hS.row_lt,fun _ _=>Z10.of_below hS.row_lt,fun _ _ h=>h.fr.mono (fun k _ hk=>YLd)⟩
end
section
open Go.RowKit
theorem Zd1 (bm bp cc:Nat) (sn:Bool) (A:Option Addr) (m:List PgT) (k:Int) (w:World) (hM:Blk w bm 152 #[.pointer (some ⟨bp,0,none⟩)]) (hS:Z30 w bp sn A cc m) (hs:Srt Z0x m) (hl:(m.length:Int)≤1000000) (hh:has Z0x m (zPgT k)=false) :
 Calls Tryz.prog 41 #[.pointer (some ⟨bm,0,none⟩),.int .i64 k] w fun e w'=>e = .returned (.tuple #[.agg Q2c,.bool false])∧Below w.heap.size w w':=by
 refine Ysw ?_;intro s0 Le HS HO HM HH;clear hS hs hM hh;go_enter Tryz.func41,Tryz.ntmps41;go_upto_region 4 with (fail);refine Yk4 ?_;intro W0 Lg im hz0 s1;clear s0;have Vf:=hU (HS.o.new_ Lg);have jt:=hU im;have jv:=hU Lg;have hml0:bm<W0.heap.size:=Ya;clear Lg im HS HM
 go_cut [7,8] from 11 (fun p b wc=>b = .bool false∧Below W0.heap.size W0 wc∧∃g,p = .pointer (some ⟨g,0,none⟩)∧W0.heap.size≤g∧wc.rangeAt g 0 Q2u)
 case first=>
  refine Z1g (fun w9=>Below W0.heap.size W0 w9) [0,1,2,3,4,7,8,9,12] [3] (.fork [(0,0),(1,0),(2,0),(3,1),(4,0)] 5 (.fork [] 6 (.fin [(7,0),(8,0),(9,0),(10,2),(11,2),(12,0)]) 10 (.fin [(6,2),(7,0),(8,0),(9,0),(11,2),(12,0)])) 10 (.fin [(5,2),(6,2),(7,0),(8,0),(9,0),(11,2),(12,0)])) Yb Yb Yb (fun KK hKK=>?_);refine Y8a ?_;intro HB V hV;rw [←hV] at HB ⊢;clear hV
  repeat' (first
   | ((first|(refine Z1r ?_ (Or.inl ⟨Yd,fun w9=>?_⟩) ?_;rotate_left 1;go_simp;with_reducible rfl)|(refine Z1y ?_ (HB.o) (Or.inl ⟨Yd,fun w9 hw9=>?_⟩) ?_;rotate_left 1;obtain ⟨hc9,hf9⟩:=Z0i hw9;go_simp;with_reducible rfl)|refine Z1r undef (Or.inr ⟨Yd,rfl⟩) ?_|refine Z1y undef (HB.o) (Or.inr ⟨Yd,rfl⟩) ?_);go_frame)
   | ((first|refine Z1n (fun K9 hK9=>?_)|refine Z1c rfl (fun K9 hK9=>?_));refine Z0h rfl 150 _ _ rfl g 0 Q2t rfl rfl (show _ from HK.o.there) Yb Yb ?_;show K9 _ (V.setCells g 0 Q2u);have HR:=hU (Zsy V g 0 Q2u (show _ from HK.o.there));have HB:=hU (Below.setCells' Q2u 0 HB.o HG.o);obtain ⟨V,hV⟩:∃V9,V9=V.setCells g 0 Q2u:=⟨_,rfl⟩;rw [←hV] at HR HB;rw [←hV];have HL:=hU (show g<V.heap.size from Zt5 _ _ (HR.o 0 _ rfl));clear hV;(first|refine hK9 _ _ (HB.o) ?_|refine hK9 _ _ (fun _=>HB.o) ?_);clear hK9 K9;(try go_frame);try simp only [Z08,Zsv])
   | ((first|refine Z1n (fun K9 hK9=>?_)|refine Z1c rfl (fun K9 hK9=>?_));go_simp;(first
     | (refine (Zbo k _).mono ?_;rintro e V ⟨rfl,hb⟩;have HB:=hU (HB.o.trans (hb.mono HB.o.size));(try have HK:=hU (HK.o.new_ hb));clear hb)
     | (refine (Zb2 bp cc sn A m (zPgT k) _ (Vf.o.new_ (HB.o)) HO.o Ya HH.o).mono ?_;rintro e V ⟨rfl,hb⟩;have HB:=hU (HB.o.trans (hb.mono HB.o.size));(try have HK:=hU (HK.o.new_ hb));clear hb)
     | (obtain ⟨g,hg⟩:∃g,g=V.heap.size:=⟨_,rfl⟩;have hk:=Blk.new V 150 Q2t;have HG:=hU (show W0.heap.size≤g from YWc);have HB:=hU (HB.o.alloc HB.o.size (.cells Q2t 150));obtain ⟨V,hV⟩:∃V9,V9=V.alloc (.cells Q2t 150):=⟨_,rfl⟩;rw [←hV,←hg] at hk;rw [←hV] at HB;have HK:=hU hk;rw [←hV,←hg];clear hV hk hg)|fail);(first|refine hK9 _ _ (HB.o) ?_|refine hK9 _ _ (fun _=>HB.o) ?_);clear hK9 K9;(try go_frame);try simp only [Z08,Zsv])
   | (refine Z0p ⟨?_,?_⟩)|fail)
  all_goals
   refine Y1g ?_;exact Ylx
 case rest=>
  obtain ⟨rfl,hB,g,rfl,hg,hr⟩:=hcut;have HB:=hU hB
  have Gz:wc.rangeAt g 1 Q2v:=fun j v hv=>by
   exact Y77
  have HR:=hU Gz;have HT:=hU (show wc.there w.heap.size 0 (Q2c:Array Value).size from (jt.o.new_ hB).there);clear hB hr Gz s1;(go_wp2_with (first|(with_reducible refine wpList_load_mid rfl 52 _ rfl g 1 rfl Q2v _ HR.o Tryz.underlying52 rfl Yb ?_)|(with_reducible refine wpList_store_mid rfl 52 _ _ rfl w.heap.size 0 Q2c rfl rfl HT.o Yb Yb ?_)));refine Ykv ?_;refine bodyPost_ret (v:=.tuple #[.agg Q2c,.bool false]) ?_ rfl ⟨rfl,Below.setCells' _ _ (jv.o.trans (HB.o.mono Ya)) Ya⟩;exact Z0n (t:=4) (s:=5) (T:=52) rfl _ _ w.heap.size Q2v _ rfl (Zsy wc w.heap.size 0 Q2v HT.o) Tryz.underlying52 rfl Yb
theorem Zcz (bm bp cc:Nat) (sn:Bool) (A:Option Addr) (m:List PgT) (k:Int) (y:PgT) (w:World) (hM:Blk w bm 152 #[.pointer (some ⟨bp,0,none⟩)]) (hS:Z30 w bp sn A cc m) (hs:Srt Z0x m) (hl:(m.length:Int)≤1000000) (hh:has Z0x m (zPgT k)=true) (hy:m[rank Z0x m (zPgT k)]? = some y) :
 Calls Tryz.prog 41 #[.pointer (some ⟨bm,0,none⟩),.int .i64 k] w fun e w'=>e = .returned (.tuple #[.agg (Q0h y.tr),.bool true])∧Below w.heap.size w w':=by
 refine Ysw ?_;intro s0 Le HS HO HM HH;have HY:=hU hy;clear hy;clear hS hs hM hh;go_enter Tryz.func41,Tryz.ntmps41;go_upto_region 4 with (fail);refine Yk4 ?_;intro W0 Lg im hz0 s1;clear s0;have Vf:=hU (HS.o.new_ Lg);have jt:=hU im;have jv:=hU Lg;have hml0:bm<W0.heap.size:=Ya;clear Lg im HS HM
 go_cut [7,8] from 11 (fun p b wc=>b = .bool true∧Below W0.heap.size W0 wc∧∃g,p = .pointer (some ⟨g,0,none⟩)∧W0.heap.size≤g∧wc.rangeAt g 0 (Q0a y))
 case first=>
  refine Z1g (fun w9=>Below W0.heap.size W0 w9) [0,1,2,3,4,7,8,9,12] [3] (.fork [(0,0),(1,0),(2,0),(3,1),(4,0)] 5 (.fork [] 6 (.fin [(7,0),(8,0),(9,0),(10,2),(11,2),(12,0)]) 10 (.fin [(6,2),(7,0),(8,0),(9,0),(11,2),(12,0)])) 10 (.fin [(5,2),(6,2),(7,0),(8,0),(9,0),(11,2),(12,0)])) Yb Yb Yb (fun KK hKK=>?_);refine Y8a ?_;intro HB V hV;rw [←hV] at HB ⊢;clear hV
  repeat' (first
   | ((first|(refine Z1r ?_ (Or.inl ⟨Yd,fun w9=>?_⟩) ?_;rotate_left 1;go_simp;with_reducible rfl)|(refine Z1y ?_ (HB.o) (Or.inl ⟨Yd,fun w9 hw9=>?_⟩) ?_;rotate_left 1;obtain ⟨hc9,hf9⟩:=Z0i hw9;go_simp;with_reducible rfl)|refine Z1r undef (Or.inr ⟨Yd,rfl⟩) ?_|refine Z1y undef (HB.o) (Or.inr ⟨Yd,rfl⟩) ?_);go_frame)
   | ((first|refine Z1n (fun K9 hK9=>?_)|refine Z1c rfl (fun K9 hK9=>?_));refine Z0h rfl 150 _ _ rfl g 0 (Q0b y) rfl rfl (show _ from HK.o.there) Yb Yb ?_;show K9 _ (V.setCells g 0 (Q0a y));have HR:=hU (Zsy V g 0 (Q0a y) (show _ from HK.o.there));have HB:=hU (Below.setCells' (Q0a y) 0 HB.o HG.o);obtain ⟨V,hV⟩:∃V9,V9=V.setCells g 0 (Q0a y):=⟨_,rfl⟩;rw [←hV] at HR HB;rw [←hV];have HL:=hU (show g<V.heap.size from Zt5 _ _ (HR.o 0 _ rfl));clear hV;(first|refine hK9 _ _ (HB.o) ?_|refine hK9 _ _ (fun _=>HB.o) ?_);clear hK9 K9;(try go_frame);try simp only [Z08,Zsv])
   | ((first|refine Z1n (fun K9 hK9=>?_)|refine Z1c rfl (fun K9 hK9=>?_));go_simp;(first
     | (refine (Zbo k _).mono ?_;rintro e V ⟨rfl,hb⟩;have HB:=hU (HB.o.trans (hb.mono HB.o.size));(try have HK:=hU (HK.o.new_ hb));clear hb)
     | (refine (Zim bp cc sn A m (zPgT k) y _ (Vf.o.new_ (HB.o)) HO.o Ya HH.o HY.o).mono ?_;rintro e V ⟨rfl,hb⟩;have HB:=hU (HB.o.trans (hb.mono HB.o.size));(try have HK:=hU (HK.o.new_ hb));clear hb)
     | (obtain ⟨g,hg⟩:∃g,g=V.heap.size:=⟨_,rfl⟩;have hk:=Blk.new V 150 Q2t;have HG:=hU (show W0.heap.size≤g from YWc);have HB:=hU (HB.o.alloc HB.o.size (.cells Q2t 150));obtain ⟨V,hV⟩:∃V9,V9=V.alloc (.cells Q2t 150):=⟨_,rfl⟩;rw [←hV,←hg] at hk;rw [←hV] at HB;have HK:=hU hk;rw [←hV,←hg];clear hV hk hg)|fail);(first|refine hK9 _ _ (HB.o) ?_|refine hK9 _ _ (fun _=>HB.o) ?_);clear hK9 K9;(try go_frame);try simp only [Z08,Zsv])
   | (refine Z0p ⟨?_,?_⟩)|fail)
  all_goals
   refine Y1g ?_;exact Ylx
 case rest=>
  obtain ⟨rfl,hB,g,rfl,hg,hr⟩:=hcut;have HB:=hU hB
  have Gz:wc.rangeAt g 1 (Q0g y.tr):=fun j v hv=>by
   exact Y77
  have HR:=hU Gz;have HT:=hU (show wc.there w.heap.size 0 ((Q0h y.tr):Array Value).size from (jt.o.new_ hB).there);clear hB hr Gz s1;(go_wp2_with (first|(with_reducible refine wpList_load_mid rfl 52 _ rfl g 1 rfl (Q0g y.tr) _ HR.o Tryz.underlying52 rfl Yb ?_)|(with_reducible refine wpList_store_mid rfl 52 _ _ rfl w.heap.size 0 (Q0h y.tr) rfl rfl HT.o Yb Yb ?_)));refine Ykv ?_;refine bodyPost_ret (v:=.tuple #[.agg (Q0h y.tr),.bool true]) ?_ rfl ⟨rfl,Below.setCells' _ _ (jv.o.trans (HB.o.mono Ya)) Ya⟩;exact Z0n (t:=4) (s:=5) (T:=52) rfl _ _ w.heap.size (Q0g y.tr) _ rfl (Zsy wc w.heap.size 0 (Q0g y.tr) HT.o) Tryz.underlying52 rfl Yb
theorem Z9r (n:Nat) (hrec :∀m,n=m+1→Z9j 43 m):Z9j 43 n:=by
 intro x A1 c1 A2 c2 A3 c3 D w h1 h2 h3 hs;obtain ⟨j0,E6,ye,Xh,L7⟩:=infp Zbz;have hcap1:=h1.cap;have hcap2:=h2.cap;have t9:=h3.cap;obtain ⟨s1,s2,s3,s4⟩:=hs;have S1:=hU s1;have S2:=hU s2;have Pv:=hU hrec;obtain ⟨L,hL⟩:∃L,L=x.conds:=⟨_,rfl⟩;rw [←hL] at h3 t9 s3 s4;have HS:=hU (show L.length≤1000∧∀x∈L,SmC n x from ⟨s3,s4⟩);have HXC:=hU hL;clear s1 s2 s4 hrec;rw [←hL];clear hL;have Q1:=hU h1;have Q2:=hU h2;have Q3:=hU h3;clear h1 h2 h3;go_enter Tryz.func43,Tryz.ntmps43;go_upto_region 1 with fail;refine Yvl ?_;intro W1 x3 Nk Ld Nq ja hxl1;go_wp2_with fail;refine (Zd2 A1 c1 x.attr W1 (Q1.o.new_ Nk.o) S1.o).mono ?_;rintro e w2 ⟨B1,d1,rfl,k1,-,Rt⟩;refine Yzt ?_;intro W2 xc f8 u3 g3;(have Fc:Blk W2 w.heap.size 77 #[.int .i64 x.kind,.bool x.goal,.string x.id,.slice B1 x.attr.length d1,.slice A2 x.value.length c2,.bool x.acc,.slice A3 L.length c3]:=by rw [xc];exact f8.set_ 3 _);(have Il:Blk W2 (w.heap.size+1) 77 Q2g:=by rw [xc];exact (Nq.o.new_ Rt).far Ye _);refine Yh5 ?_;intro Aj Fe yt zi Un T0 O8 zv X7 Jg;clear k1 Rt f8 Fc Il yt zi Fe x3;go_upto_region 2 with fail;rw [←xc];clear xc u3 g3 Aj;obtain ⟨-,-,-,-,x4,-,-⟩:=T0.o.c7;have Jg:=T0.o.lt;go_wp2_with fail;refine (Zd2 A2 c2 x.value W2 (Q2.o.new_ Un.o) S2.o).mono ?_;rintro e w3 ⟨B2,d2,rfl,k2,-,Kh⟩;refine Y5l ?_;intro W3 jb Lb u4 g4;(have Eo:Blk W3 w.heap.size 77 #[.int .i64 x.kind,.bool x.goal,.string x.id,.slice B1 x.attr.length d1,.slice B2 x.value.length d2,.bool x.acc,.slice A3 L.length c3]:=by rw [jb];exact Lb.set_ 4 _);(have Ec:Blk W3 (w.heap.size+1) 77 Q2g:=by rw [jb];exact (O8.o.new_ Kh).far Ye _);refine Y79 ?_;intro hz3 Sv Iw L5 zi Ue Xy Bn Rp Pb su HQ3 ub;clear k2 Kh Lb Eo Ec Iw zi L5 Sv x4;go_upto_region 3 with fail;rw [←jb];clear jb u4 g4 hz3;obtain ⟨-,-,-,-,-,-,x6⟩:=Xy.o.c7;have ub:=Xy.o.lt;obtain ⟨W0,rp⟩:∃W0,W0=W3:=⟨_,rfl⟩;subst rp;have ll:=HQ3;go_wp2_with fail
 go_loopw [3,17] (fun v i wr=>∃k:Nat,i = .int .i64 k∧k≤L.length∧Z2k (Z09 n) 77 W0 (L.take k) v wr) (fun v i wr=>L.length - (intOf i).toNat)
 case atStart=>exact ⟨0,rfl,Nat.zero_le _,Z2k.nil _ _ _ (Zst _ _)⟩
 case round=>
  obtain ⟨k,rfl,hk,hC⟩:=hrel;obtain ⟨C,A1,c1,rfl,h1,h2,h3,h4⟩:=hC;rw [Z1u hk];by_cases hlt:k<L.length
  · have Dz:=ll.o.new_ (h4.mono Ya:Below W0.heap.size W0 wr)
    obtain ⟨m,rfl⟩:∃m,n=m+1:=by
     cases n with
     | zero=>rw [row0 Dz] at hlt;simp at hlt
     | succ m=>exact ⟨m,rfl⟩
    obtain ⟨g,off,so,Bv,Xj,qw,qy,Mg,sf,hDg,hg,q0,q1,q2,q3,q4,q5,q6,J8,Cq,sq⟩:=Z31 Dz hlt;subst sf;obtain ⟨y,hy⟩:∃y,y=L[k]:=⟨_,rfl⟩;have lh:SmC (m+1) y:=YT1;rw [←hy] at q0 q1 q2 q3 q4 q5 q6 J8 Cq sq;have b1:(0:Int)≤(k:Int):=Ya;have b2:(k:Int)<(L.length:Int):=Ya;have HY:=hU hy;refine Yuw ?_;intro H1 H2 H3 H4;have rv:=hU J8;have dr:=hU Cq;have n7:=hU sq;have Mk:=hU lh;clear hy Dz h1 h2 h3 h4 J8 Cq sq lh;go_upto_region 7 with fail;obtain ⟨W4,rj⟩:∃W4,W4=wr.alloc (.cells (Q0r y so Bv Xj qw qy Mg) 77):=⟨_,rfl⟩;have Ll:Below wr.heap.size wr W4:=YIi;(have Js:Blk W4 wr.heap.size 77 (Q0r y so Bv Xj qw qy Mg):=by rw [rj];exact Blk.new _ _ _);(have Mt:W4.heap.size=wr.heap.size+1:=by rw [rj];simp);rw [←rj];clear rj q0 q1 q2 q3 q4 q5 q6;obtain ⟨p0,p1,p2,p3,p4,p5,p6⟩:=Js.c7;have hxl4:=Js.lt;have Ni:=hU Ll;have vu:=hU Mt;clear Ll Js Mt;go_wp2_with fail;refine (Pv.o m rfl y so Bv Xj qw qy Mg D W4 (rv.o.new_ Ni.o) (dr.o.new_ Ni.o) (n7.o.new_ Ni.o) Mk.o).mono ?_;rintro e w5 ⟨vx,j7,lu,lr,Be,Ot,rfl,g1,g2,g3,Wz⟩;have Ck:Below wr.heap.size wr w5:=Ni.o.trans (Wz.mono (by have:=vu.o;omega));refine Ywo ?_;intro h9 Nz;have up :∀j,NewD W4.heap.size w5 j→j<w5.heap.size→(Plus C wr (w5.alloc (.cells (Q0r y vx j7 lu lr Be Ot) 77))) j∧(w5.alloc (.cells (Q0r y vx j7 lu lr Be Ot) 77)).heap[j]? = w5.heap[j]?:=fun j hj hl=>⟨.inr ⟨by have:=hj.1;have:=vu.o;omega,Yk⟩,h9.block j hl⟩;have Jn:=Z64 (n:=m) (y:=y) (g1.keep h9.size up) (g2.keep h9.size up) (g3.keep h9.size up);have vd:=H1.o.plus Nz
    have O0 :∀j,Plus C wr (w5.alloc (.cells (Q0r y vx j7 lu lr Be Ot) 77)) j→j<(w5.alloc (.cells (Q0r y vx j7 lu lr Be Ot) 77)).heap.size:=fun j hj=>by
     exact Yca
    refine Yxp ?_;intro ms Cj Oo E8 HB5 mu U8 HV;clear g1 g2 g3 Wz h9 Nz up Jn vd O0 Ck p0 p1 p2 p3 p4 p5 p6;exact Yuo
  · obtain rfl:k=L.length:=by omega
    have F8:Z2k (Z09 n) 77 W0 (L.take L.length) (.slice A1 (L.take L.length).length c1) wr:=⟨C,A1,c1,rfl,h1,h2,h3,h4⟩;rw [Ztc] at F8;have HF:=hU F8;clear h1 h2 h3 h4 F8;obtain ⟨E3,d3,he,r3,hE3,wu⟩:=HF.o.done;cases he;obtain ⟨W9,Gh⟩:∃W9,W9=wr.setCell ⟨w.heap.size,6,none⟩ (.slice A1 L.length c1):=⟨_,rfl⟩;have Ma:=Xy.o.new_ wu;have u6:=(Ma.cell 6).trans rfl;have g6:=Ma.frozen 6;have hxl9:=Ma.lt;(have Ow:Blk W9 w.heap.size 77 #[.int .i64 x.kind,.bool x.goal,.string x.id,.slice B1 x.attr.length d1,.slice B2 x.value.length d2,.bool x.acc,.slice A1 L.length c1]:=by rw [Gh];exact Ma.set_ 6 _);(have Bb:Blk W9 (w.heap.size+1) 77 Q2g:=by rw [Gh];exact (Bn.o.new_ wu).far Ye _);have Rl:Below w.heap.size w W9:=YXb;have hzf:=wu.size;(have Sj:W9.heap.size=wr.heap.size:=by rw [Gh];simp);(have D7 :∀j,w.heap.size+2≤j→W9.heap[j]? = wr.heap[j]?:=fun j hj=>YYj);have yq:=hU Rl;have HX9:=hU Ow;have Oa:=hU (show W9.there (w.heap.size+1) 0 (#[.int .i64 x.kind,.bool x.goal,.string x.id,.slice B1 x.attr.length d1,.slice B2 x.value.length d2,.bool x.acc,.slice A1 L.length c1]:Array Value).size from Bb.there);have ly:=hU (show W9.rangeAt w.heap.size 0 [.int .i64 x.kind,.bool x.goal,.string x.id,.slice B1 x.attr.length d1,.slice B2 x.value.length d2,.bool x.acc,.slice A1 L.length c1] from Ow.range);have hrl9:=Bb.lt;have l3:=r3.keep (w':=W9.setCells (w.heap.size+1) 0 [.int .i64 x.kind,.bool x.goal,.string x.id,.slice B1 x.attr.length d1,.slice B2 x.value.length d2,.bool x.acc,.slice A1 L.length c1]) (D':=NewD w.heap.size (W9.setCells (w.heap.size+1) 0 [.int .i64 x.kind,.bool x.goal,.string x.id,.slice B1 x.attr.length d1,.slice B2 x.value.length d2,.bool x.acc,.slice A1 L.length c1])) YOz (fun j hj hl=>⟨⟨by have:=hj.1;have:=Ue.o.size;omega,YOz⟩,(Z1d _ _ _ _ _ YQe).trans (D7 j YQe)⟩);have l1:=Pb.o.keep (w':=W9.setCells (w.heap.size+1) 0 [.int .i64 x.kind,.bool x.goal,.string x.id,.slice B1 x.attr.length d1,.slice B2 x.value.length d2,.bool x.acc,.slice A1 L.length c1]) (D':=NewD w.heap.size (W9.setCells (w.heap.size+1) 0 [.int .i64 x.kind,.bool x.goal,.string x.id,.slice B1 x.attr.length d1,.slice B2 x.value.length d2,.bool x.acc,.slice A1 L.length c1])) YOz (fun j hj hl=>⟨⟨Y7,YOz⟩,(Z1d _ _ _ _ _ Y7).trans ((D7 j Y7).trans (wu.block j hl))⟩);have l2:=Rp.o.keep (w':=W9.setCells (w.heap.size+1) 0 [.int .i64 x.kind,.bool x.goal,.string x.id,.slice B1 x.attr.length d1,.slice B2 x.value.length d2,.bool x.acc,.slice A1 L.length c1]) (D':=NewD w.heap.size (W9.setCells (w.heap.size+1) 0 [.int .i64 x.kind,.bool x.goal,.string x.id,.slice B1 x.attr.length d1,.slice B2 x.value.length d2,.bool x.acc,.slice A1 L.length c1])) YOz (fun j hj hl=>⟨⟨Y7,YOz⟩,(Z1d _ _ _ _ _ Y7).trans ((D7 j Y7).trans (wu.block j hl))⟩);have R1:=hU l1;have R2:=hU l2;have R3:=hU l3;clear Ma Ow Bb Rl wu r3 hE3 l1 l2 l3 Sj D7 hzf x6;go_upto_region 10 with fail;rw [←Gh];clear Gh u6 g6;(go_wp2_with (first|(with_reducible refine wpList_load_mid rfl 77 _ rfl w.heap.size 0 rfl _ _ ly.o Tryz.underlying77 rfl Yb ?_)|(with_reducible refine wpList_store_mid rfl 77 _ _ rfl (w.heap.size+1) 0 #[.int .i64 x.kind,.bool x.goal,.string x.id,.slice B1 x.attr.length d1,.slice B2 x.value.length d2,.bool x.acc,.slice A1 L.length c1] rfl rfl Oa.o Yb Yb ?_)));refine Ykv ?_;have S0:Below w.heap.size w (W9.setCells (w.heap.size+1) 0 [.int .i64 x.kind,.bool x.goal,.string x.id,.slice B1 x.attr.length d1,.slice B2 x.value.length d2,.bool x.acc,.slice A1 L.length c1]):=Below.setCells' _ _ yq.o Ya;refine bodyPost_ret (v:=.agg #[.int .i64 x.kind,.bool x.goal,.string x.id,.slice B1 x.attr.length d1,.slice B2 x.value.length d2,.bool x.acc,.slice A1 L.length c1]) ?_ rfl ?_
    · exact Z1j (t:=2) (T:=77) rfl _ _ (w.heap.size+1) [.int .i64 x.kind,.bool x.goal,.string x.id,.slice B1 x.attr.length d1,.slice B2 x.value.length d2,.bool x.acc,.slice A1 L.length c1] _ rfl (Zsy W9 (w.heap.size+1) 0 [.int .i64 x.kind,.bool x.goal,.string x.id,.slice B1 x.attr.length d1,.slice B2 x.value.length d2,.bool x.acc,.slice A1 L.length c1] Oa.o) Tryz.underlying77 rfl Yb
    · have hxc:=HXC.o
      subst hxc;exact ⟨B1,d1,B2,d2,A1,c1,rfl,R1.o,R2.o,R3.o,S0⟩
theorem Zd7 :∀n,Z9j 43 n
 | 0=>Z9r 0 (fun m h=>Ya)
 | n+1=>Z9r (n+1) (fun m h=>by obtain rfl:m=n:=by omega
                               exact Zd7 m)
def Only (ts:List Nat) (w w':World):Prop:=∀(g:Nat) (t:TypeId) (cs:Array Value),t ∉ ts→Blk w g t cs→Blk w' g t cs
structure Mine (ts:List Nat) (K:Nat→Prop) (w w':World):Prop where
 only:Only ts w w'
 fr:Fr (fun k=>¬K k) w w'
section
variable {ts ts':List Nat}{K K' E:Nat→Prop}{a b c w w':World}
theorem Mine.trans (h:Mine ts K a b) (k:Mine ts K b c):Mine ts K a c:=⟨fun g t cs hn hb=>k.only g t cs hn (h.only g t cs hn hb),h.fr.trans k.fr⟩
theorem Mine.new_ (h:Below w.heap.size w w'):Mine ts K w w':=⟨fun _ _ _ _ hb=>hb.new_ h,Fr.of_new h⟩
theorem Mine.up (h:Mine ts K w w') (hs :∀t,t∈ts→t∈ts'):Mine ts' K w w':=⟨fun g t cs hn hb=>h.only g t cs (fun hm=>hn (hs t hm)) hb,h.fr⟩
theorem Mine.cell {p:Addr}{t:TypeId}{cs:Array Value}(hb:Blk w p.block t cs) (ht:t∈ts) (hK :¬K p.block) (u:Value):Mine ts K w (w.setCell p u):=
 ⟨fun g t' cs' hn hg=>hg.far (fun e=>by subst e;exact hg.ne_ hb (fun e=>hn (e ▸ ht)) rfl) u,(Fr.refl _ w).setCell (.inl hK) u⟩
theorem Z0q {e:TypeId}{size n:Nat}{v:Value}{xs:List Value}(h:w.ownsRow 0 e size v n xs) (ho:Only ts w w') (he:e ∉ ts):w'.ownsRow 0 e size v n xs:=
 ⟨h.1,h.2.imp id fun ⟨g,cap,cur,hv,h0,hg,hr⟩=>⟨g,cap,cur,hv,h0,ho g e cur he hg,hr⟩⟩
theorem Z29.only {α:Type}{tSet tE size:Nat}{cells:α→List Value}{b:Nat}{sn:Bool}{A:Option Addr}{c:Nat}{l:List α}(h:Z29 tSet tE size cells w b sn A c l) (ho:Only ts w w') (h1:tSet ∉ ts) (h2:tE ∉ ts):Z29 tSet tE size cells w' b sn A c l:=
 ⟨ho _ _ _ h1 h.blk,Z0q h.row ho h2⟩
theorem Znz {α:Type}{tSet tE size:Nat}{cells:α→List Value}{b:Nat}{sn:Bool}{A:Option Addr}{c:Nat}{l:List α}{g:Nat}{t:TypeId}{cs:Array Value}
 (hS:Z29 tSet tE size cells w b sn A c l) (hB:Blk w g t cs) (h1:t≠tSet) (h2:t≠tE):¬Z0w b sn A g:=by
 exact Yy6
theorem Mine.set_ {α:Type}{tSet tE size:Nat}{cells:α→List Value}{b:Nat}{sn:Bool}{A:Option Addr}{c:Nat}{l:List α}(hS:Z29 tSet tE size cells w b sn A c l) (hF:Fr (Z0w b sn A) w w') (hb :¬K b) (hA:AIn A (fun k=>¬K k)):Mine [tSet,tE] K w w':=
 ⟨fun g t cs hn hg=>hg.fr hF (Znz hS hg (fun e=>hn (by simp [e])) (fun e=>hn (by simp [e]))),hF.mono (fun k _ hk=>by
  rcases hk with rfl|⟨_,a,ha,rfl⟩
  · exact hb
  · exact hA a ha)⟩
def OSet {α:Type}(tSet tE size:Nat) (cells:α→List Value) (K:Nat→Prop) (w:World) (b:Nat) (l:List α):Prop:=
 ∃sn A c,Z29 tSet tE size cells w b sn A c l∧¬K b∧AIn A (fun k=>¬K k)
section
variable {α:Type}{tSet tE size:Nat}{cells:α→List Value}{bb:Nat}{l l':List α}
theorem OSet.mine (h:OSet tSet tE size cells K w bb l) (hm:Mine ts K w w') (h1:tSet ∉ ts) (h2:tE ∉ ts):OSet tSet tE size cells K w' bb l:=by
 obtain ⟨sn,A,c,g1,g2,g3⟩:=h;exact ⟨sn,A,c,g1.only hm.only h1 h2,g2,g3⟩
theorem OSet.theirs {M:Nat→Prop}(h:OSet tSet tE size cells K w bb l) (hF:Fr M w w') (hM :∀k,M k→K k) (hK :∀k,K' k→K k∨w.heap.size≤k):OSet tSet tE size cells K' w' bb l:=by
 obtain ⟨sn,A,c,g1,g2,g3⟩:=h;have hl:=g1.lt;have hr:=g1.row_lt;refine ⟨sn,A,c,g1.fr hF (fun h=>g2 (hM _ h)) (fun a ha h=>g3 a ha (hM _ h)),fun h=>(hK _ h).elim g2 (fun h=>Ya),fun a ha h=>(hK _ h).elim (g3 a ha) (fun h=>by have:=hr a ha;omega)⟩
theorem OSet.moved {sn:Bool}{A:Option Addr}{sn':Bool}{A':Option Addr}{c':Nat}(hl :∀k,K k→k<w.heap.size) (h1:Z29 tSet tE size cells w' bb sn' A' c' l') (hM:Z1w w sn A sn' A') (hb :¬K bb) (hA:AIn A (fun k=>¬K k)):OSet tSet tE size cells K w' bb l':=by
 refine ⟨sn',A',c',h1,hb,?_⟩;rcases hM with ⟨_,rfl⟩|⟨_,g,hg,rfl⟩
 · exact hA
 · intro a ha hk
   cases ha;have:=hl _ hk;dsimp only at this;omega
end
abbrev Zf3:=OSet (α:=Int) 141 95 1 Bnum.cells
abbrev OPgR:=OSet (α:=PgR) 200 136 7 PgR.cells
abbrev OPgT:=OSet (α:=PgT) 205 150 15 PgT.cells
abbrev OSym:=OSet (α:=Sym) 154 41 3 Sym.cells
theorem Zma {sb:Nat}{l:List Int}(k:Int) (h:Zf3 K w sb l) (hs:Srt Z0r l) (hl :∀k,K k→k<w.heap.size) (hn:(l.length:Int)≤100000000) :
 Calls Tryz.prog 35 #[.pointer (some ⟨sb,0,none⟩),.int .i64 k] w fun e w'=>e = .returned (.bool (!has Z0r l k))∧Zf3 K w' sb (put Z0r l k)∧Mine [141,95] K w w':=by
 obtain ⟨sn,A,c,g1,g2,g3⟩:=h;refine (Zhq sb c sn A l k w g1 hs hn).mono ?_;exact Yb9
theorem Zpb {sb:Nat}{l:List Sym}(x:Sym) (h:OSym K w sb l) (hs:Srt Z0o l) (hl :∀k,K k→k<w.heap.size) (hn:(l.length:Int)≤100000000) :
 Calls Tryz.prog 44 #[.pointer (some ⟨sb,0,none⟩),.agg (Q1d x)] w fun e w'=>e = .returned (.bool (!has Z0o l x))∧OSym K w' sb (put Z0o l x)∧Mine [154,41] K w w':=by
 obtain ⟨sn,A,c,g1,g2,g3⟩:=h;refine (Zmm sb c sn A l x w g1 hs hn).mono ?_;exact Yb9
def Zbj (K:Nat→Prop) (w:World) (bm bp:Nat) (m:List PgR):Prop:=Blk w bm 138 #[.pointer (some ⟨bp,0,none⟩)]∧¬K bm∧OPgR K w bp m
def Z96 (K:Nat→Prop) (w:World) (bm bp:Nat) (m:List PgT):Prop:=Blk w bm 152 #[.pointer (some ⟨bp,0,none⟩)]∧¬K bm∧OPgT K w bp m
theorem Zbj.mine {bm bp:Nat}{m:List PgR}(h:Zbj K w bm bp m) (hm:Mine ts K w w') (h0:138 ∉ ts) (h1:200 ∉ ts) (h2:136 ∉ ts):Zbj K w' bm bp m:=⟨hm.only _ _ _ h0 h.1,h.2.1,h.2.2.mine hm h1 h2⟩
theorem Z96.mine {bm bp:Nat}{m:List PgT}(h:Z96 K w bm bp m) (hm:Mine ts K w w') (h0:152 ∉ ts) (h1:205 ∉ ts) (h2:150 ∉ ts):Z96 K w' bm bp m:=⟨hm.only _ _ _ h0 h.1,h.2.1,h.2.2.mine hm h1 h2⟩
theorem Zbj.theirs {M:Nat→Prop}{bm bp:Nat}{m:List PgR}(h:Zbj K w bm bp m) (hF:Fr M w w') (hM :∀k,M k→K k) (hK :∀k,K' k→K k∨w.heap.size≤k):Zbj K' w' bm bp m:=
 ⟨h.1.fr hF (fun hm=>h.2.1 (hM _ hm)),fun hk=>(hK _ hk).elim h.2.1 (fun hk=>by have:=h.1.lt;omega),h.2.2.theirs hF hM hK⟩
theorem Z96.theirs {M:Nat→Prop}{bm bp:Nat}{m:List PgT}(h:Z96 K w bm bp m) (hF:Fr M w w') (hM :∀k,M k→K k) (hK :∀k,K' k→K k∨w.heap.size≤k):Z96 K' w' bm bp m:=
 ⟨h.1.fr hF (fun hm=>h.2.1 (hM _ hm)),fun hk=>(hK _ hk).elim h.2.1 (fun hk=>by have:=h.1.lt;omega),h.2.2.theirs hF hM hK⟩
theorem Zs8 {bm bp:Nat}{m:List PgR}(x:PgR) (h:Zbj K w bm bp m) (hs:Srt Z1k m) (hl :∀k,K k→k<w.heap.size) (hn:(m.length:Int)≤1000000) (hh:has Z1k m x=false) :
 Calls Tryz.prog 36 #[.pointer (some ⟨bm,0,none⟩),.int .i64 x.kk,.agg #[.int .i64 x.num,.int .i64 x.level,.slice x.elems.A x.elems.n x.elems.c,.slice x.holes.A x.holes.n x.holes.c,.slice x.aparts.A x.aparts.n x.aparts.c,.slice x.news.A x.news.n x.news.c]] w fun e w'=>e = .returned (.bool true)∧Zbj K w' bm bp (put Z1k m x)∧Mine [200,136] K w w':=by
 obtain ⟨hb,L0,sn,A,c,g1,g2,g3⟩:=h;refine (Zkn bm bp c sn A m x w hb g1 hs hn hh).mono ?_;exact Yg2
theorem Zs9 {bm bp:Nat}{m:List PgT}(x:PgT) (h:Z96 K w bm bp m) (hs:Srt Z0x m) (hl :∀k,K k→k<w.heap.size) (hn:(m.length:Int)≤1000000) (hh:has Z0x m x=false) :
 Calls Tryz.prog 42 #[.pointer (some ⟨bm,0,none⟩),.int .i64 x.kk,.agg (Q0h x.tr)] w fun e w'=>e = .returned (.bool true)∧Z96 K w' bm bp (put Z0x m x)∧Mine [205,150] K w w':=by
 obtain ⟨hb,L0,sn,A,c,g1,g2,g3⟩:=h;refine (Zkp bm bp c sn A m x w hb g1 hs hn hh).mono ?_;exact Yg2
theorem Zs7 {bm bp:Nat}{m:List PgT}(k:Int) (h:Z96 K w bm bp m) (hs:Srt Z0x m) (hn:(m.length:Int)≤1000000) :
 Calls Tryz.prog 41 #[.pointer (some ⟨bm,0,none⟩),.int .i64 k] w fun e w'=>∃y:Z0j,e = .returned (.tuple #[.agg (Q0h y),.bool (has Z0x m (zPgT k))])∧Below w.heap.size w w':=by
 obtain ⟨hb,hbk,sn,A,c,g1,g2,g3⟩:=h
 cases hh:has Z0x m (zPgT k) with
 | false=>
   refine (Zd1 bm bp c sn A m k w hb g1 hs hn hh).mono ?_;rintro e w' ⟨he,hB⟩;exact ⟨(zPgT 0).tr,he,hB⟩
 | true=>
   obtain ⟨_,_,hk,_⟩:=Z9s Z56 hs hh;refine (Zcz bm bp c sn A m k m[rank Z0x m (zPgT k)] w hb g1 hs hn hh (Zt3 hk)).mono ?_;rintro e w' ⟨he,hB⟩;exact ⟨_,he,hB⟩
structure Prot (B:Nat) (G:(Nat→Prop)→List Int→World→Prop) (K E:Nat→Prop) (done:List Int) (w:World):Prop where
 g:G E done w
 sub :∀k,E k→K k
 low :∀k,k<B→K k
 lt :∀k,K k→k<w.heap.size
def Z7r (n:Nat) (K E:Nat→Prop) (w:World) (bm bp:Nat) (R:List KR):Prop:=∃m,Zbj K w bm bp m∧Srt Z1k m∧Z32 (Zk3 n (fun j=>K j∧¬E j) w) R m
theorem Z7r.mine {n bm bp:Nat}{R:List KR}(h:Z7r n K E w bm bp R) (hm:Mine ts K w w') (h0:138 ∉ ts) (h1:200 ∉ ts) (h2:136 ∉ ts):Z7r n K E w' bm bp R:=by
 obtain ⟨m,g1,g2,g3⟩:=h;exact ⟨m,g1.mine hm h0 h1 h2,g2,g3.imp fun a b hr=>hr.keep hm.fr.size (fun k hk hl=>⟨hk,hm.fr.block k hl (fun h=>h hk.1)⟩)⟩
def Z97 (K:Nat→Prop) (w:World) (v:Value) (todo:List Int):Prop:=QRow w 3 1 v todo.length (todo.flatMap Int.cells1)∧∀k,v.ownBlock=some k→k<w.heap.size∧¬K k
theorem QRow.only {e:TypeId}{size n:Nat}{v:Value}{xs:List Value}(h:QRow w e size v n xs) (ho:Only ts w w') (he:e ∉ ts) (_:0<size):QRow w' e size v n xs:=by
 obtain ⟨A,cap,rfl,h1,h2,h3,h4,h5⟩:=h;refine ⟨A,cap,rfl,h1,h2,h3,h4,fun b hb=>?_⟩;obtain ⟨g1,g2,g3⟩:=h5 b hb;refine ⟨g1,g2.imp id (fun ⟨cur,hc,hz⟩=>⟨cur,ho _ _ _ he hc,hz⟩),fun j u hu=>?_⟩;rcases g2 with g2|⟨cur,hc,hz⟩
 · have:xs = []:=List.eq_nil_of_length_eq_zero (by rw [h3];have:n=0:=by omega
                                                   rw [this];omega)
   subst this;simp at hu
 · have:=g3 j u hu
   rw [hc.cell] at this;rw [(ho _ _ _ he hc).cell];exact this
theorem Z97.mine {v:Value}{todo:List Int}(h:Z97 K w v todo) (hm:Mine ts K w w') (h1:3 ∉ ts):Z97 K w' v todo:=⟨h.1.only hm.only h1 Yc,fun k hk=>⟨Zsw (h.2 k hk).1 hm.fr.size,(h.2 k hk).2⟩⟩
theorem Z97.theirs {M:Nat→Prop}{v:Value}{todo:List Int}(h:Z97 K w v todo) (hF:Fr M w w') (hM :∀k,M k→K k) (hK :∀k,K' k→K k∨w.heap.size≤k):Z97 K' w' v todo:=
 ⟨h.1.keep hF (fun k hk hm=>(h.2 k hk).2 (hM k hm)) (fun k hk=>(h.2 k hk).1),fun k hk=>⟨Zsw (h.2 k hk).1 hF.size,fun hq=>(hK k hq).elim (h.2 k hk).2 (fun hq=>by have:=(h.2 k hk).1;omega)⟩⟩
end
section
variable {ts:List Nat}{n B gf:Nat}{lb:Array Value}{look:Int→Z0c×Bool}{G:(Nat→Prop)→List Int→World→Prop}{K E:Nat→Prop}{done todo:List Int}{w w':World}{sb bm bp:Nat}{v:Value}
theorem Prot.mine (hf:Z59 n B gf lb look G) (h:Prot B G K E done w) (hm:Mine ts K w w'):Prot B G K E done w':=
 ⟨hf.steady h.g hm.fr (fun k hk=>⟨fun he=>hk (h.sub k he),Nat.le_of_not_lt fun hl=>hk (h.low k hl)⟩),h.sub,h.low,fun k hk=>Zsw (h.lt k hk) hm.fr.size⟩
structure St1 (n B:Nat) (look:Int→Z0c×Bool) (G:(Nat→Prop)→List Int→World→Prop) (K E:Nat→Prop) (done todo:List Int) (sb bm bp:Nat) (v:Value) (w:World):Prop where
 p:Prot B G K E done w
 s:Zf3 K w sb (puts Z0r [] done)
 m:Z7r n K E w bm bp (Z2v look done)
 q:Z97 K w v todo
theorem St1.new_ (hf:Z59 n B gf lb look G) (h:St1 n B look G K E done todo sb bm bp v w) (hb:Below w.heap.size w w'):St1 n B look G K E done todo sb bm bp v w':=
 have hm:Mine [] K w w':=Mine.new_ hb
 ⟨h.p.mine hf hm,h.s.mine hm Ye Ye,h.m.mine hm Ye Ye Ye,h.q.mine hm Ye⟩
end
section
variable {n B gf:Nat}{lb:Array Value}{look:Int→Z0c×Bool}{G:(Nat→Prop)→List Int→World→Prop}{K E E':Nat→Prop}{done todo:List Int}{w w':World}{sb bm bp:Nat}{v:Value}{k:Int}
theorem Zga {K:Nat→Prop}{w w':World} :∀j,Plus K w w' j→K j∨w.heap.size≤j:=fun _ hj=>hj.imp id (fun h=>h.1)
theorem St1.seen (hf:Z59 n B gf lb look G) (h:St1 n B look G K E done todo sb bm bp v w) (hs:Zf3 K w' sb (put Z0r (puts Z0r [] done) k)) (hm:Mine [141,95] K w w') :
 Prot B G K E done w'∧Zf3 K w' sb (puts Z0r [] (done ++ [k]))∧Z7r n K E w' bm bp (Z2v look done)∧Z97 K w' v todo:=
 ⟨h.p.mine hf hm,by rw [Z2u];exact hs,h.m.mine hm Yc Yc Yc,h.q.mine hm Yc⟩
theorem St1.found (hE :∀j,E j→K j) (hp:Prot B G K E done w) (hs:Zf3 K w sb (puts Z0r [] (done ++ [k]))) (hm:Z7r n K E w bm bp (Z2v look done)) (hq:Z97 K w v todo)
 (g1:G E' (done ++ [k]) w') (g2 :∀j,E' j→Plus E w w' j) (g3:Fr E w w') :
 Prot B G (Plus K w w') E' (done ++ [k]) w'∧Zf3 (Plus K w w') w' sb (puts Z0r [] (done ++ [k]))∧Z7r n (Plus K w w') E' w' bm bp (Z2v look done)∧Z97 (Plus K w w') w' v todo:=by
 refine ⟨⟨g1,fun j hj=>(g2 j hj).imp (hE j) id,fun j hj=>.inl (hp.low j hj),fun j hj=>?_⟩,hs.theirs g3 hE Zga,?_,hq.theirs g3 hE Zga⟩
 · rcases hj with hj|hj
   · exact Zsw (hp.lt j hj) g3.size
   · exact hj.2
 · obtain ⟨m,h1,h2,h3⟩:=hm
   refine ⟨m,h1.theirs g3 hE Zga,h2,h3.imp fun a b hr=>hr.keep g3.size (fun j hj hl=>⟨⟨.inl hj.1,fun he=>?_⟩,g3.block j hl hj.2⟩)⟩;rcases g2 j he with h|h
   · exact hj.2 h
   · omega
theorem Zja {R:List KR}{r:Z0c}{A1:Option Addr}{c1:Nat}{A2:Option Addr}{c2:Nat}{A3:Option Addr}{c3:Nat}{A4:Option Addr}{c4:Nat}(hm:Z7r n K E w bm bp R) (hl :∀k,K k→k<w.heap.size) (hR:R.length≤100000) (hh:has Z6m R (k,r)=false)
 (hr:Z8n n (fun j=>K j∧¬E j) w r A1 c1 A2 c2 A3 c3 A4 c4) :
 Calls Tryz.prog 36 #[.pointer (some ⟨bm,0,none⟩),.int .i64 k,.agg (Q0t r A1 c1 A2 c2 A3 c3 A4 c4)] w fun e w'=>e = .returned (.bool true)∧Z7r n K E w' bm bp (put Z6m R (k,r))∧Mine [200,136] K w w':=by
 obtain ⟨m,h1,h2,h3⟩:=hm;have hrel:Zk3 n (fun j=>K j∧¬E j) w (k,r) ⟨k,r.num,r.level,⟨A1,r.elems.length,c1⟩,⟨A2,r.holes.length,c2⟩,⟨A3,r.aparts.length,c3⟩,⟨A4,r.news.length,c4⟩⟩:=⟨rfl,rfl,rfl,rfl,rfl,rfl,rfl,hr⟩;obtain ⟨p1,p2⟩:=Z32.put (fun a b h=>h.1) h3 hrel;rw [hh] at p1;have hml:=h3.length;refine (Zs8 ⟨k,r.num,r.level,⟨A1,r.elems.length,c1⟩,⟨A2,r.holes.length,c2⟩,⟨A3,r.aparts.length,c3⟩,⟨A4,r.news.length,c4⟩⟩ h1 h2 hl Ya p1.symm).mono ?_;rintro e w' ⟨he,g1,g2⟩;exact ⟨he,⟨_,g1,h2.put Z6w _,p2.imp fun a b hr=>hr.keep g2.fr.size (fun j hj hl=>⟨hj,g2.fr.block j hl (fun h=>h hj.1)⟩)⟩,g2⟩
end
end
section
open Go.RowKit Go.Shelf
attribute [local go_sem] Oper.semAt_some
def Z12 (lv:Int) (l:List Z0j) (k:Nat):List Int:=((l.take k).filter fun e=>decide (lv≤e.level) && decide (0<e.cause)).map Z0j.cause
theorem Z84 (lv:Int) (l:List Z0j):Z12 lv l 0 = []:=by simp [Z12]
theorem Z94 (lv:Int) (r:Z0c):Z12 lv r.elems r.elems.length=Z6t lv r:=by simp [Z12,Z6t]
theorem Zeh {lv:Int}{l:List Z0j}{k:Nat}(hk:k<l.length) (h1:lv≤l[k].level) (h2:0<l[k].cause):Z12 lv l (k+1)=Z12 lv l k ++ [l[k].cause]:=by
 unfold Z12;rw [←Z2w hk,List.filter_append,Ztm];simp [h1,h2]
theorem Za8 {lv:Int}{l:List Z0j}{k:Nat}(hk:k<l.length) (h :¬(lv≤l[k].level∧0<l[k].cause)):Z12 lv l (k+1)=Z12 lv l k:=by
 unfold Z12;rw [←Z2w hk,List.filter_append,Ztm]
 have:(decide (lv≤l[k].level) && decide (0<l[k].cause))=false:=by
  simp only [Bool.and_eq_false_iff,decide_eq_false_iff_not];rcases Classical.em (lv≤l[k].level) with h3|h3
  · exact .inr (fun h4=>h ⟨h3,h4⟩)
  · exact .inl h3
 simp [this]
end
section
open Go.RowKit
def pg (e:Z0j):PgT:=⟨e.elem.tag,e⟩
def Z3x (lv:Int) (l:List Z0j) (m:Nat):List Z0j:=((l.take m).filter fun e=>decide (e.level<lv)).map bare
theorem Zfl (lv:Int) (l:List Z0j):Z3x lv l 0 = []:=by simp [Z3x]
theorem Ziz (lv:Int) (r:Z0c):Z3x lv r.elems r.elems.length=lows lv r:=by simp [Z3x,lows]
theorem Zj1 {lv:Int}{l:List Z0j}{k:Nat}(hk:k<l.length) (h1:l[k].level<lv):Z3x lv l (k+1)=Z3x lv l k ++ [bare l[k]]:=by
 unfold Z3x;rw [←Z2w hk,List.filter_append,Ztm];simp [h1]
theorem Zlm {lv:Int}{l:List Z0j}{k:Nat}(hk:k<l.length) (h :¬l[k].level<lv):Z3x lv l (k+1)=Z3x lv l k:=by
 unfold Z3x;rw [←Z2w hk,List.filter_append,Ztm];simp [h]
theorem Zj0 (lv:Int) (l:List Z0j) (m:Nat):(Z3x lv l m).length≤l.length:=by
 unfold Z3x;rw [Ztl];exact Zt6 (List.length_filter_le _ _) Yk
def gpg (lv:Int) (R:List KR):List PgT:=puts Z0x [] ((R.flatMap fun p=>lows lv p.2).map pg)
theorem Zn3 (lv:Int) (R:List KR):Srt Z0x (gpg lv R):=Srt.puts Z56 _ Srt.nil
theorem Zok (lv:Int) (R:List KR) (p:KR):gpg lv (R ++ [p])=puts Z0x (gpg lv R) ((lows lv p.2).map pg):=by
 unfold gpg puts;rw [Zta,Ztm,List.foldl_append];simp
theorem Z9u {α β:Type}(f:α→List β) (N:Nat):∀(l:List α),(∀x∈l,(f x).length≤N)→(l.flatMap f).length≤N*l.length
 | [],_=>Ye
 | x :: l,h=>by
   have h1:=h x Ye;have h2:=Z9u f N l (fun y hy=>h y (by simp [hy]));rw [Zu6,Ztd,Ztg,Nat.mul_add];omega
theorem Zlg {lv:Int}{R:List KR}(h :∀p∈R,p.2.elems.length≤1000):(gpg lv R).length≤1000*R.length:=by
 have h1:=Z1e Z56 ((R.flatMap fun p=>lows lv p.2).map pg) (l:=[]) Srt.nil
 have h2:=Z9u (fun p:KR=>lows lv p.2) 1000 R (fun p hp=>by
  have:=h p hp;unfold lows;rw [Ztl]
  exact Zt6 (List.length_filter_le _ _) this)
 simp only [Zu1,Ztl] at h1;unfold gpg;omega
theorem Zqm {α β:Type}(f:α→β) (p:β→Bool) (l:List α):(l.map f).any p=l.any fun x=>p (f x):=by induction l<;>simp_all
theorem Zri (l:List Z0j) (e:Z0j):put Z0x (l.map pg) (pg e)=(put Z7u l e).map pg:=by
 (have h1:has Z0x (l.map pg) (pg e)=has Z7u l e:=by unfold has;rw [Zqm];rfl);unfold put;rw [h1]
 split
 · rfl
 · unfold below Z4y
   rw [List.filter_map,List.filter_map,Ztm,List.map_cons];rfl
theorem Zpz (lv:Int) (R:List KR):gpg lv R=(Z5r lv R).map pg:=by
 unfold gpg Z5r puts;generalize (R.flatMap fun p=>lows lv p.2)=L
 have :∀(L:List Z0j) (l:List Z0j),(L.map pg).foldl (put Z0x) (l.map pg)=(L.foldl (put Z7u) l).map pg:=by
  intro L
  induction L with
  | nil=>intro l;rfl
  | cons e L ih=>intro l;rw [List.map_cons,List.foldl_cons,List.foldl_cons,Zri,ih]
 exact this L []
theorem Zfu (R:List KR) (p:KR):Z3h (R ++ [p])=p.2.news.foldl once (Z3h R):=by
 unfold Z3h;rw [Zta,List.foldl_append];simp
theorem Zdy {done l:List Sym}{k:Sym}:k∈puts Z0o l done↔k∈l∨k∈done:=by
 induction done generalizing l with
 | nil=>simp [puts]
 | cons x done ih=>
   have e:puts Z0o l (x :: done)=puts Z0o (put Z0o l x) done:=rfl;rw [e,ih,Ztb]
   have hp:k∈put Z0o l x↔k∈l∨k=x:=by
    constructor
    · exact Zfn
    · intro h
      unfold put
      split
      · rename_i hh
        rcases h with h|h
        · exact h
        · obtain ⟨y,hy,e⟩:=Z46.1 hh
          rw [h,←Z7t.1 e];exact hy
      · rename_i hh
        simp only [Ztu,Ztb];rcases h with h|h
        · have:=Z3w.1 (by simpa using hh) k h
          rcases Int.lt_trichotomy (Z0o k x) 0 with h2|h2|h2
          · exact .inl (Z6r.2 ⟨h,h2⟩)
          · exact absurd h2 this
          · exact .inr (.inr (Z6q.2 ⟨h,h2⟩))
        · exact .inr (.inl h)
   exact Yoj
theorem Z9z (l:List Sym) (k:Sym):has Z0o (puts Z0o [] l) k=decide (k∈l):=by
 by_cases h:k∈l
 · rw [Zt9 h]
   exact Z46.2 ⟨k,Zdy.2 (.inr h),Z7t.2 rfl⟩
 · rw [Zsx h,Z3w]
   intro y hy e;rcases Zdy.1 hy with h2|h2
   · cases h2
   · exact h (by rw [←Z7t.1 e];exact h2)
theorem Zho (L l:List Sym):(L.foldl once l).length≤l.length+L.length:=by
 induction L generalizing l with
 | nil=>simp
 | cons s L ih=>
   rw [List.foldl_cons];have:=ih (once l s);(have h2:(once l s).length≤l.length+1:=by unfold once;split<;>simp);simp only [Ztg];omega
theorem Zou {R:List KR}(h :∀p∈R,p.2.news.length≤1000):(Z3h R).length≤1000*R.length:=by
 have h1:=Zho (R.flatMap fun p=>p.2.news) [];have h2:=Z9u (fun p:KR=>p.2.news) 1000 R h;unfold Z3h;simp only [Zu1] at h1;omega
def Zi5 {α:Type}(r:RepT α):Prop:=∀{D:Nat→Prop}{w:World}{a:α}{cs:List Value},r.rep D w a cs→r.rep (fun k=>D k∧Z26 w k) w a cs
theorem RowR.solid {α:Type}{r:RepT α}(hs:Zi5 r) (h0:0<r.size){D:Nat→Prop}{w:World}{A:Option Addr}{c:Nat}{l:List α}(h:RowR r D w A c l):RowR r (fun k=>D k∧Z26 w k) w A c l:=by
 refine ⟨h.1,h.2.1,fun hl=>?_⟩;obtain ⟨b,off,h1,h2,h3,h4⟩:=h.2.2 hl;refine ⟨b,off,h1,⟨h2,?_⟩,h3,fun k hk=>?_⟩
 · obtain ⟨cs,g1,g2⟩:=h4 0 hl
   have hlen:=r.len g1;have:=g2 0 cs[0] (Zt3 Ya);exact Zks this
 · obtain ⟨cs,g1,g2⟩:=h4 k hk
   exact ⟨cs,hs g1,g2⟩
theorem Zbe {α:Type}(size:Nat) (cells:α→List Value) (h :∀a,(cells a).length=size):Zi5 (RepT.flat size cells h):=fun h=>h
theorem Z74:Zi5 Z07:=by
 rintro D w a cs ⟨A1,c1,h0,h1⟩;exact ⟨A1,c1,h0,h1.solid (Zbe _ _ _) Yc⟩
theorem Zgn {n:Nat}(ih:Zi5 (Z09 n)):Zi5 (Z09 (n+1)):=by
 rintro D w a cs ⟨A1,c1,A2,c2,A3,c3,h0,h1,h2,h3⟩;exact ⟨A1,c1,A2,c2,A3,c3,h0,h1.solid Z74 Yc,h2.solid Z74 Yc,h3.solid ih (by rw [Z23];decide)⟩
theorem Zjq (n:Nat):Zi5 (Z09 n):=by
 induction n with
 | zero=>intro D w a cs h;exact h.elim
 | succ n ih=>exact Zgn ih
section
variable {B:Nat}{K K' C:Nat→Prop}{w w':World}
theorem OSet.priv {α:Type}{tSet tE size:Nat}{cells:α→List Value}{b:Nat}{l:List α}(h:OSet tSet tE size cells K w b l) (hp:Priv B w w'):OSet tSet tE size cells K w' b l:=by
 obtain ⟨sn,A,c,g1,g2,g3⟩:=h;exact ⟨sn,A,c,g1.priv hp,g2,g3⟩
theorem OSet.cls {α:Type}{tSet tE size:Nat}{cells:α→List Value}{b:Nat}{l:List α}(h:OSet tSet tE size cells K w b l) (hk :∀k,Z26 w k→K' k→K k):OSet tSet tE size cells K' w b l:=by
 obtain ⟨sn,A,c,g1,g2,g3⟩:=h;refine ⟨sn,A,c,g1,fun h=>g2 (hk _ g1.blk.at_ h),fun a ha h=>g3 a ha (hk _ ?_ h)⟩;subst ha;rcases Z0f g1.row with ⟨hv,_⟩|⟨g,cap,hv,_,_,⟨cur,hc,_⟩,_⟩
 · cases hv
 · injection hv with hv
   injection hv with hv;subst hv;exact ⟨cur,tE,(0,0),hc⟩
theorem OwnC.priv {α:Type}{r:RepT α}{e:TypeId}{v:Value}{l:List α}(h:OwnC r e C w v l) (hp:Priv B w w') (hC :∀k,C k→k<B∨Z26 w k):OwnC r e C w' v l:=by
 obtain ⟨css,h1,h2,h3⟩:=h;exact ⟨css,Z38 h1 hp,h2.imp fun a cs hr=>r.keep hp.size (fun k hk hl=>⟨hk,hp.block k hl (hC k hk)⟩) hr,h3⟩
theorem Z54 {e:TypeId}{size n:Nat}{v:Value}{xs:List Value}(h:w.ownsRow 0 e size v n xs):∀k,v.ownBlock=some k→Z26 w k:=by
 intro k hk;rcases h.2 with ⟨rfl,_⟩|⟨g,cap,cur,rfl,_,hg,_⟩
 · cases hk
 · simp only [Value.ownBlock,Option.some.injEq] at hk
   subst hk;exact ⟨cur,e,(0,0),hg⟩
end
structure SR (n B:Nat) (K C:Nat→Prop) (w:World) (gt gm gp ns:Nat) (vis lost:Int) (es:List Z0j) (gs:List PgT) (hs:List Z43) (ap:List Z1a) (nw:List Sym) (v0 v1 v2 v3:Value):Prop where
 blk:Blk w gt 36 #[v0,v1,v2,v3,.int .i64 vis,.int .i64 lost]
 o0:w.ownsRow 0 52 14 v0 es.length (es.flatMap Z0j.cells)
 n0 :∀k,v0.ownBlock=some k→¬K k
 o1:OwnC (Z0v n) 80 C w v1 hs
 n1 :∀k,v1.ownBlock=some k→¬K k
 o2:w.ownsRow 0 122 7 v2 ap.length (ap.flatMap Z1a.cells)
 n2 :∀k,v2.ownBlock=some k→¬K k
 o3:w.ownsRow 0 41 3 v3 nw.length (nw.flatMap Sym.cells)
 n3 :∀k,v3.ownBlock=some k→¬K k
 set_:OSym (fun k=>K k∨v3.ownBlock=some k) w ns (puts Z0o [] nw)
 map_:Z96 K w gm gp gs
 srt:Srt Z0x gs
 nog :¬K gt
 sub :∀k,C k→K k
 lt :∀k,K k→k<w.heap.size
 cel :∀k,C k→k<B∨Z26 w k
section
variable {n B:Nat}{K K' C:Nat→Prop}{w w':World}{gt gm gp ns:Nat}{vis lost:Int}{es:List Z0j}{gs:List PgT}{hs:List Z43}{ap:List Z1a}{nw:List Sym}{v0 v1 v2 v3:Value}
theorem SR.mine {ts:List Nat}(h:SR n B K C w gt gm gp ns vis lost es gs hs ap nw v0 v1 v2 v3) (hm:Mine ts K w w') (h3:36 ∉ ts) (h4:52 ∉ ts) (h5:80 ∉ ts) (h6:122 ∉ ts) (h7:41 ∉ ts) (h8:154 ∉ ts) (h9:152 ∉ ts) (h10:205 ∉ ts) (h11:150 ∉ ts) :
 SR n B K C w' gt gm gp ns vis lost es gs hs ap nw v0 v1 v2 v3:=by
 obtain ⟨css,q1,q2,q3⟩:=h.o1;have hc :∀k,C k→k<w.heap.size→w'.heap[k]? = w.heap[k]?:=fun k hk hl=>hm.fr.block k hl (fun hn=>hn (h.sub k hk));refine ⟨hm.only _ _ _ h3 h.blk,Z0q h.o0 hm.only h4,h.n0,⟨css,Z0q q1 hm.only h5,q2.imp fun a cs hr=>(Z0v n).keep hm.fr.size (fun k hk hl=>⟨hk,hc k hk hl⟩) hr,q3⟩,h.n1,Z0q h.o2 hm.only h6,h.n2,Z0q h.o3 hm.only h7,h.n3,?_,h.map_.mine hm h9 h10 h11,h.srt,h.nog,h.sub,fun k hk=>Zsw (h.lt k hk) hm.fr.size,fun k hk=>(h.cel k hk).imp id (fun ⟨c,t,f,hh⟩=>⟨c,t,f,(hc k hk (Zt7.1 hh).1).trans hh⟩)⟩;obtain ⟨sn,A,c,g1,g2,g3⟩:=h.set_;exact ⟨sn,A,c,g1.only hm.only h8 h7,g2,g3⟩
theorem SR.new_ (h:SR n B K C w gt gm gp ns vis lost es gs hs ap nw v0 v1 v2 v3) (hb:Below w.heap.size w w'):SR n B K C w' gt gm gp ns vis lost es gs hs ap nw v0 v1 v2 v3:=
 h.mine (ts:=[]) (Mine.new_ hb) Ye Ye Ye Ye Ye Ye Ye Ye Ye
theorem SR.priv (h:SR n B K C w gt gm gp ns vis lost es gs hs ap nw v0 v1 v2 v3) (hp:Priv B w w'):SR n B K C w' gt gm gp ns vis lost es gs hs ap nw v0 v1 v2 v3:=
 ⟨h.blk.priv hp,Z38 h.o0 hp,h.n0,h.o1.priv hp h.cel,h.n1,Z38 h.o2 hp,h.n2,Z38 h.o3 hp,h.n3,h.set_.priv hp,⟨h.map_.1.priv hp,h.map_.2.1,h.map_.2.2.priv hp⟩,h.srt,h.nog,h.sub,fun k hk=>Zsw (h.lt k hk) hp.size,fun k hk=>(h.cel k hk).imp id (fun ⟨c,t,f,hh⟩=>⟨c,t,f,(hp.block k (Zt7.1 hh).1 (.inr ⟨c,t,f,hh⟩)).trans hh⟩)⟩
theorem SR.cls (h:SR n B K C w gt gm gp ns vis lost es gs hs ap nw v0 v1 v2 v3) (hk :∀k,Z26 w k→K' k→K k) (hC :∀k,C k→K' k) (hl :∀k,K' k→k<w.heap.size):SR n B K' C w gt gm gp ns vis lost es gs hs ap nw v0 v1 v2 v3:=by
 obtain ⟨css,q1,q2,q3⟩:=h.o1
 exact ⟨h.blk,h.o0,fun k e hK=>h.n0 k e (hk k (Z54 h.o0 k e) hK),h.o1,fun k e hK=>h.n1 k e (hk k (Z54 q1 k e) hK),h.o2,fun k e hK=>h.n2 k e (hk k (Z54 h.o2 k e) hK),h.o3,fun k e hK=>h.n3 k e (hk k (Z54 h.o3 k e) hK),
  h.set_.cls (fun k hc hK=>hK.imp (hk k hc) id),⟨h.map_.1,fun hK=>h.map_.2.1 (hk _ h.map_.1.at_ hK),h.map_.2.2.cls hk⟩,h.srt,fun hK=>h.nog (hk _ h.blk.at_ hK),hC,hl,h.cel⟩
theorem SR.frB {M:Nat→Prop}(h:SR n B K C w gt gm gp ns vis lost es gs hs ap nw v0 v1 v2 v3) (hF:Fr M w w') (hM :∀k,M k→K k∧¬C k):SR n B K C w' gt gm gp ns vis lost es gs hs ap nw v0 v1 v2 v3:=by
 have hc :∀k,C k→¬M k:=fun k hk hm=>(hM k hm).2 hk;obtain ⟨sn,A,c,g1,g2,g3⟩:=h.set_
 refine ⟨h.blk.fr hF (fun hm=>h.nog (hM _ hm).1),Z0s h.o0 hF (fun k e hm=>h.n0 k e (hM k hm).1),h.n0,h.o1.fr hF hc (fun k e hm=>h.n1 k e (hM k hm).1),h.n1,Z0s h.o2 hF (fun k e hm=>h.n2 k e (hM k hm).1),h.n2,Z0s h.o3 hF (fun k e hm=>h.n3 k e (hM k hm).1),h.n3,
  ⟨sn,A,c,g1.fr hF (fun hm=>g2 (.inl (hM _ hm).1)) (fun a ha hm=>g3 a ha (.inl (hM _ hm).1)),g2,g3⟩,h.map_.theirs hF (fun k hm=>(hM k hm).1) (fun k hk=>.inl hk),h.srt,h.nog,h.sub,fun k hk=>Zsw (h.lt k hk) hF.size,fun k hk=>(h.cel k hk).imp id (fun ⟨c,t,f,hh⟩=>⟨c,t,f,(hF.block k (Zt7.1 hh).1 (hc k hk)).trans hh⟩)⟩
theorem SR.ground {gs':List PgT}(h:SR n B K C w gt gm gp ns vis lost es gs hs ap nw v0 v1 v2 v3) (hm:Mine [205,150] K w w') (h1:Z96 K w' gm gp gs') (h2:Srt Z0x gs'):SR n B K C w' gt gm gp ns vis lost es gs' hs ap nw v0 v1 v2 v3:=by
 obtain ⟨css,q1,q2,q3⟩:=h.o1;have hc :∀k,C k→k<w.heap.size→w'.heap[k]? = w.heap[k]?:=fun k hk hl=>hm.fr.block k hl (fun hn=>hn (h.sub k hk));refine ⟨hm.only _ _ _ Yc h.blk,Z0q h.o0 hm.only Yc,h.n0,⟨css,Z0q q1 hm.only Yc,q2.imp fun a cs hr=>(Z0v n).keep hm.fr.size (fun k hk hl=>⟨hk,hc k hk hl⟩) hr,q3⟩,h.n1,Z0q h.o2 hm.only Yc,h.n2,Z0q h.o3 hm.only Yc,h.n3,?_,h1,h2,h.nog,h.sub,fun k hk=>Zsw (h.lt k hk) hm.fr.size,fun k hk=>(h.cel k hk).imp id (fun ⟨c,t,f,hh⟩=>⟨c,t,f,(hc k hk (Zt7.1 hh).1).trans hh⟩)⟩;obtain ⟨sn,A,c,g1,g2,g3⟩:=h.set_;exact ⟨sn,A,c,g1.only hm.only Yc Yc,g2,g3⟩
end
end
end Go.Proofs.YtcnnofgaifcgaaaGreat
