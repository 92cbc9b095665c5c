/-
  Texts put together: BkMapPgT, BkAllPgT, BkGetPgT, BkState, BkWalkP, BkPlain2.
-/
import Derived.Test.YtfidcfjcmlgkbaaGreatPHt
namespace Go.Proofs.YtfidcfjcmlgkbaaGreat
open Lib (hid)
set_option maxRecDepth 100000
set_option maxHeartbeats 32000000
set_option linter.unusedSimpArgs false
section
open Go.RowKit
def zPgT (k:Int):PgT:=⟨k,⟨⟨⟨0,⟨#[]⟩,0⟩,⟨0,⟨#[]⟩,0⟩,⟨0,⟨#[]⟩,0⟩,false,false,0⟩,0,0⟩⟩
theorem Z2w.of_PgT {a b:World} (h:Below a.heap.size a b) {sn sn':Bool} {A A':Option Addr} (hm:Z2w b sn A sn' A'):Z2w a sn A sn' A':=
 hm.imp id (fun ⟨h1,g,h2,h3⟩=>⟨h1,g,by have:=h.size;omega,h3⟩)
theorem Za2 (k:Int) (w:World):Calls Tryz.prog 157 #[.int .i64 k] w fun e w'=>e = .returned (.agg #[.int .i64 k,.int .i64 0,.string ⟨#[]⟩,.int .i64 0,.int .i64 0,.string ⟨#[]⟩,.int .i64 0,.int .i64 0,.string ⟨#[]⟩,.int .i64 0,.bool false,.bool false,.int .i64 0,.int .i64 0,.int .i64 0])∧Below w.heap.size w w':=by
 obtain ⟨W,hW⟩ : ∃W,W=w.alloc (.cells #[.int .i64 0,.int .i64 0,.string ⟨#[]⟩,.int .i64 0,.int .i64 0,.string ⟨#[]⟩,.int .i64 0,.int .i64 0,.string ⟨#[]⟩,.int .i64 0,.bool false,.bool false,.int .i64 0,.int .i64 0,.int .i64 0] 240):=⟨_,rfl⟩;(have hR:Blk W w.heap.size 240 #[.int .i64 0,.int .i64 0,.string ⟨#[]⟩,.int .i64 0,.int .i64 0,.string ⟨#[]⟩,.int .i64 0,.int .i64 0,.string ⟨#[]⟩,.int .i64 0,.bool false,.bool false,.int .i64 0,.int .i64 0,.int .i64 0]:=by rw [hW];exact Blk.new _ _ _);(have hB:Below w.heap.size w W:=by rw [hW];exact (Zm7 _ _).alloc (Zm8 _) _);have ht:W.there w.heap.size 0 (#[.int .i64 k,.int .i64 0,.string ⟨#[]⟩,.int .i64 0,.int .i64 0,.string ⟨#[]⟩,.int .i64 0,.int .i64 0,.string ⟨#[]⟩,.int .i64 0,.bool false,.bool false,.int .i64 0,.int .i64 0,.int .i64 0]:Array Value).size:=hR.there;have HT:=hid ht;have HB:=hid hB;clear ht hR hB;go_enter Tryz.func157,Tryz.ntmps157;(go_upto_region 1 with (fail));rw [← hW];clear hW;(go_wp2_with (with_reducible refine wpList_store_mid rfl 240 _ _ rfl w.heap.size 0 #[.int .i64 k,.int .i64 0,.string ⟨#[]⟩,.int .i64 0,.int .i64 0,.string ⟨#[]⟩,.int .i64 0,.int .i64 0,.string ⟨#[]⟩,.int .i64 0,.bool false,.bool false,.int .i64 0,.int .i64 0,.int .i64 0] rfl rfl HT.out (by kernel_rfl) (by kernel_rfl) ?_));(try simp only [Exit.inBlock,Exit.then]);refine bodyPost_ret (v:=.agg #[.int .i64 k,.int .i64 0,.string ⟨#[]⟩,.int .i64 0,.int .i64 0,.string ⟨#[]⟩,.int .i64 0,.int .i64 0,.string ⟨#[]⟩,.int .i64 0,.bool false,.bool false,.int .i64 0,.int .i64 0,.int .i64 0]) ?_ rfl ⟨rfl,Below.setCells' _ _ HB.out (by omega)⟩;exact Z1o (t:=2) (T:=240) rfl _ _ w.heap.size [.int .i64 k,.int .i64 0,.string ⟨#[]⟩,.int .i64 0,.int .i64 0,.string ⟨#[]⟩,.int .i64 0,.int .i64 0,.string ⟨#[]⟩,.int .i64 0,.bool false,.bool false,.int .i64 0,.int .i64 0,.int .i64 0] _ rfl (Zmm W w.heap.size 0 [.int .i64 k,.int .i64 0,.string ⟨#[]⟩,.int .i64 0,.int .i64 0,.string ⟨#[]⟩,.int .i64 0,.int .i64 0,.string ⟨#[]⟩,.int .i64 0,.bool false,.bool false,.int .i64 0,.int .i64 0,.int .i64 0] HT.out) Tryz.underlying240 rfl (by kernel_rfl)
theorem Zgq (w:World):Calls Tryz.prog 111 #[] w fun e w'=>∃bm bp sn A c,e = .returned (.pointer (some ⟨bm,0,none⟩))∧w.heap.size≤bm∧w.heap.size≤bp∧AIn A (w.heap.size≤·)∧Blk w' bm 242 #[.pointer (some ⟨bp,0,none⟩)]∧Z2g w' bp sn A c []∧Below w.heap.size w w':=by
 go_enter Tryz.func111,Tryz.ntmps111;(go_wp2_with fail);refine (Zl1 none 0 [] _ (Z18.nil _ _ _) (by simp)).mono ?_;rintro e w1 ⟨bp,rfl,hbp,sn,A,c,hS,hA,hB⟩;have HS:=hid hS;have HB:=hid hB;clear hS hB;(go_wp2_with fail);go_ret;have hb9:Below w1.heap.size w1 (w1.alloc (.cells #[.pointer (some ⟨bp,0,none⟩)] 242)):=(Zm7 _ _).alloc (Zm8 _) _;exact ⟨w1.heap.size,bp,sn,A,c,rfl,HB.out.size,hbp,hA,Blk.new _ _ _,HS.out.new_ hb9,HB.out.trans (hb9.mono HB.out.size)⟩
theorem Zgn (b:Nat) (w:World) :
 Calls Tryz.prog 116 #[.pointer (some ⟨b,0,none⟩)] w fun e w'=>e = .returned (.func (.func 161) #[] #[.pointer (some ⟨w.heap.size,0,none⟩)])∧Below w.heap.size w w'∧Blk w' w.heap.size 176 #[.pointer (some ⟨b,0,none⟩)]:=by
 go_enter Tryz.func116,Tryz.ntmps116;go_wp2;go_ret;exact ⟨rfl,(Zm7 _ _).alloc (Zm8 _) _,Blk.new _ _ _⟩
theorem Zgs (bm bp cc:Nat) (sn:Bool) (A:Option Addr) (m:List PgT) (x:PgT) (w:World) (hM:Blk w bm 242 #[.pointer (some ⟨bp,0,none⟩)]) (hS:Z2g w bp sn A cc m) (hs:Srt Z0q m) (hl:(m.length:Int)≤1000000) (hh:has Z0q m x=false) :
 Calls Tryz.prog 114 #[.pointer (some ⟨bm,0,none⟩),.int .i64 x.kk,.agg #[.int .i64 x.tr.elem.id.kind,.string x.tr.elem.id.text,.int .i64 x.tr.elem.id.n,.int .i64 x.tr.elem.attr.kind,.string x.tr.elem.attr.text,.int .i64 x.tr.elem.attr.n,.int .i64 x.tr.elem.value.kind,.string x.tr.elem.value.text,.int .i64 x.tr.elem.value.n,.bool x.tr.elem.acc,.bool x.tr.elem.goal,.int .i64 x.tr.elem.tag,.int .i64 x.tr.level,.int .i64 x.tr.cause]] w fun e w'=>e = .returned (.bool true)∧∃sn' A' c',Z2g w' bp sn' A' c' (put Z0q m x)∧Fr (Z1d bp sn A) w w'∧Z2w w sn A sn' A':=by
 have hh0:has Z0q m (zPgT x.kk)=false:=hh;have s0:=hM.c1;have hml:=hM.lt;have HS:=hid hS;have HO:=hid hs;have HM:=hid hM;have HH:=hid hh;have HH0:=hid hh0;clear hS hs hM hh hh0;go_enter Tryz.func114,Tryz.ntmps114;(go_upto_region 3 with (fail));obtain ⟨W0,hW0⟩ : ∃W0,W0=w.alloc (.cells #[.int .i64 x.tr.elem.id.kind,.string x.tr.elem.id.text,.int .i64 x.tr.elem.id.n,.int .i64 x.tr.elem.attr.kind,.string x.tr.elem.attr.text,.int .i64 x.tr.elem.attr.n,.int .i64 x.tr.elem.value.kind,.string x.tr.elem.value.text,.int .i64 x.tr.elem.value.n,.bool x.tr.elem.acc,.bool x.tr.elem.goal,.int .i64 x.tr.elem.tag,.int .i64 x.tr.level,.int .i64 x.tr.cause] 64):=⟨_,rfl⟩;(have hB0:Below w.heap.size w W0:=by rw [hW0];exact (Zm7 _ _).alloc (Zm8 _) _);(have hbx:Blk W0 w.heap.size 64 #[.int .i64 x.tr.elem.id.kind,.string x.tr.elem.id.text,.int .i64 x.tr.elem.id.n,.int .i64 x.tr.elem.attr.kind,.string x.tr.elem.attr.text,.int .i64 x.tr.elem.attr.n,.int .i64 x.tr.elem.value.kind,.string x.tr.elem.value.text,.int .i64 x.tr.elem.value.n,.bool x.tr.elem.acc,.bool x.tr.elem.goal,.int .i64 x.tr.elem.tag,.int .i64 x.tr.level,.int .i64 x.tr.cause]:=by rw [hW0];exact Blk.new _ _ _);have hz0:w.heap.size<W0.heap.size:=hbx.lt;rw [← hW0];clear hW0;have s1:=(hB0.cell (p:=⟨bm,0,none⟩) hml).trans s0;clear s0;have HS0:=hid (HS.out.new_ hB0);have HM0:=hid (HM.out.new_ hB0);have HX0:=hid hbx;have HB0:=hid hB0;(have hml0:bm<W0.heap.size:=by omega);clear hB0 hbx HS HM
 go_cut [8] from 11 (fun b wc=>b = .bool false∧Below W0.heap.size W0 wc)
 case first=>
  refine Z3t (fun w9=>Below W0.heap.size W0 w9) [0,1,2,3,4,7,8,9,12] [3] (.fork [(0,0),(1,0),(2,0),(3,1),(4,0)] 5 (.fork [] 6 (.fin [(7,0),(8,0),(9,0),(10,2),(11,2),(12,0)]) 10 (.fin [(6,2),(7,0),(8,0),(9,0),(11,2),(12,0)])) 10 (.fin [(5,2),(6,2),(7,0),(8,0),(9,0),(11,2),(12,0)])) (by kernel_rfl) (by kernel_rfl) (by kernel_rfl) (fun KK hKK=>?_);simp only [wpPl,Z0v,Zmn,Zme,Zml,Zmg,Zmf,Zmo];have HB:=hid (Zm7 W0.heap.size W0).drew;obtain ⟨V,hV⟩ : ∃V,V=W0.drew:=⟨_,rfl⟩;rw [← hV] at HB ⊢;clear hV
  repeat' (first
   | ((first | (refine Z5d ?_ (Or.inl ⟨by rfl,fun w9=>?_⟩) ?_;rotate_left 1;go_simp;with_reducible rfl) | (refine Z5c ?_ (HB.out) (Or.inl ⟨by rfl,fun w9 hw9=>?_⟩) ?_;rotate_left 1;obtain ⟨hc9,hf9⟩:=Z1a hw9;go_simp;with_reducible rfl) | refine Z5d undef (Or.inr ⟨by rfl,rfl⟩) ?_ | refine Z5c undef (HB.out) (Or.inr ⟨by rfl,rfl⟩) ?_);go_frame)
   | ((first | refine Z3g (fun K9 hK9=>?_) | refine Z3f rfl (fun K9 hK9=>?_));refine Z1c rfl 240 _ _ rfl g 0 #[.int .i64 0,.int .i64 0,.string ⟨#[]⟩,.int .i64 0,.int .i64 0,.string ⟨#[]⟩,.int .i64 0,.int .i64 0,.string ⟨#[]⟩,.int .i64 0,.bool false,.bool false,.int .i64 0,.int .i64 0,.int .i64 0] rfl rfl (show _ from HK.out.there) (by kernel_rfl) (by kernel_rfl) ?_;show K9 _ (V.setCells g 0 [.int .i64 0,.int .i64 0,.string ⟨#[]⟩,.int .i64 0,.int .i64 0,.string ⟨#[]⟩,.int .i64 0,.int .i64 0,.string ⟨#[]⟩,.int .i64 0,.bool false,.bool false,.int .i64 0,.int .i64 0,.int .i64 0]);have HR:=hid (Zmm V g 0 [.int .i64 0,.int .i64 0,.string ⟨#[]⟩,.int .i64 0,.int .i64 0,.string ⟨#[]⟩,.int .i64 0,.int .i64 0,.string ⟨#[]⟩,.int .i64 0,.bool false,.bool false,.int .i64 0,.int .i64 0,.int .i64 0] (show _ from HK.out.there));have HB:=hid (Below.setCells' [.int .i64 0,.int .i64 0,.string ⟨#[]⟩,.int .i64 0,.int .i64 0,.string ⟨#[]⟩,.int .i64 0,.int .i64 0,.string ⟨#[]⟩,.int .i64 0,.bool false,.bool false,.int .i64 0,.int .i64 0,.int .i64 0] 0 HB.out HG.out);obtain ⟨V,hV⟩ : ∃V9,V9=V.setCells g 0 [.int .i64 0,.int .i64 0,.string ⟨#[]⟩,.int .i64 0,.int .i64 0,.string ⟨#[]⟩,.int .i64 0,.int .i64 0,.string ⟨#[]⟩,.int .i64 0,.bool false,.bool false,.int .i64 0,.int .i64 0,.int .i64 0]:=⟨_,rfl⟩;rw [← hV] at HR HB;rw [← hV];have HL:=hid (show g<V.heap.size from Zmj _ _ (HR.out 0 _ rfl));clear hV;(first | refine hK9 _ _ (HB.out) ?_ | refine hK9 _ _ (fun _=>HB.out) ?_);clear hK9 K9;(try go_frame);try simp only [Z0v,Zme])
   | ((first | refine Z3g (fun K9 hK9=>?_) | refine Z3f rfl (fun K9 hK9=>?_));go_simp;(first
     | (refine (Za2 x.kk _).mono ?_;rintro e V ⟨rfl,hb⟩;have HB:=hid (HB.out.trans (hb.mono HB.out.size));(try have HK:=hid (HK.out.new_ hb));clear hb)
     | (refine (Z9h bp cc sn A m (zPgT x.kk) _ (HS0.out.new_ (HB.out)) HO.out (by omega) HH0.out).mono ?_;rintro e V ⟨rfl,hb⟩;have HB:=hid (HB.out.trans (hb.mono HB.out.size));(try have HK:=hid (HK.out.new_ hb));clear hb)
     | (obtain ⟨g,hg⟩ : ∃g,g=V.heap.size:=⟨_,rfl⟩;have hk:=Blk.new V 240 #[.int .i64 0,.int .i64 0,.string ⟨#[]⟩,.int .i64 0,.int .i64 0,.string ⟨#[]⟩,.int .i64 0,.int .i64 0,.string ⟨#[]⟩,.int .i64 0,.bool false,.bool false,.int .i64 0,.int .i64 0,.int .i64 0];have HG:=hid (show W0.heap.size≤g by rw [hg];exact HB.out.size);have HB:=hid (HB.out.alloc HB.out.size (.cells #[.int .i64 0,.int .i64 0,.string ⟨#[]⟩,.int .i64 0,.int .i64 0,.string ⟨#[]⟩,.int .i64 0,.int .i64 0,.string ⟨#[]⟩,.int .i64 0,.bool false,.bool false,.int .i64 0,.int .i64 0,.int .i64 0] 240));obtain ⟨V,hV⟩ : ∃V9,V9=V.alloc (.cells #[.int .i64 0,.int .i64 0,.string ⟨#[]⟩,.int .i64 0,.int .i64 0,.string ⟨#[]⟩,.int .i64 0,.int .i64 0,.string ⟨#[]⟩,.int .i64 0,.bool false,.bool false,.int .i64 0,.int .i64 0,.int .i64 0] 240):=⟨_,rfl⟩;rw [← hV,← hg] at hk;rw [← hV] at HB;have HK:=hid hk;rw [← hV,← hg];clear hV hk hg) | fail);(first | refine hK9 _ _ (HB.out) ?_ | refine hK9 _ _ (fun _=>HB.out) ?_);clear hK9 K9;(try go_frame);try simp only [Z0v,Zme])
   | (refine Z33 ⟨?_,?_⟩) | fail)
  all_goals
   refine Z33 ?_;simp only [Z03];refine hKK _ _ ?_;clear hKK KK;(go_wp2_with fail);go_meet
   case rel=>exact ⟨rfl,HB.out⟩
 case rest=>
  obtain ⟨rfl,hB⟩:=hcut;have r0:=(HM0.out.new_ hB).c1;have hX:=HX0.out.new_ hB;have HX:=hid hX;have hml2:=(HM0.out.new_ hB).lt;have hxl2:=hX.lt;have HB:=hid hB;have HS2:=hid (HS0.out.new_ hB);have x0:=(hX.cell 0).trans rfl;have x1:=(hX.cell 1).trans rfl;have x2:=(hX.cell 2).trans rfl;have x3:=(hX.cell 3).trans rfl;have x4:=(hX.cell 4).trans rfl;have x5:=(hX.cell 5).trans rfl;have x6:=(hX.cell 6).trans rfl;have x7:=(hX.cell 7).trans rfl;have x8:=(hX.cell 8).trans rfl;have x9:=(hX.cell 9).trans rfl;have x10:=(hX.cell 10).trans rfl;have x11:=(hX.cell 11).trans rfl;have x12:=(hX.cell 12).trans rfl;have x13:=(hX.cell 13).trans rfl;clear hB hX s1;(go_wp2_with fail);refine Z0c (fun w9=>Below wc.heap.size wc w9) [(0,0),(1,0),(2,0),(3,1),(4,0),(5,1),(6,0),(7,2),(8,0)] (by kernel_rfl) (by kernel_rfl) (fun KK hKK=>?_);simp only [Z0v,Zmn,Zme,Zml,Zmg,Zmf,Zmo];(repeat ((first | (refine Z0m ?_ (Or.inl ⟨by rfl,fun w9=>?_⟩) ?_;rotate_left 1;go_simp;with_reducible rfl) | (refine Z0l ?_ (((Zm7 _ _).drew)) (Or.inl ⟨by rfl,fun w9 hw9=>?_⟩) ?_;rotate_left 1;obtain ⟨hc9,hf9⟩:=Z1a hw9;go_simp;with_reducible rfl) | refine Z0m undef (Or.inr ⟨by rfl,rfl⟩) ?_ | refine Z0l undef (((Zm7 _ _).drew)) (Or.inr ⟨by rfl,rfl⟩) ?_);go_frame));refine Z1w (by kernel_rfl) (fun K9 hK9=>?_);go_simp;refine (Zhw bp cc sn A m x _ (HS2.out.new_ ((Zm7 _ _).drew)) HO.out (by omega)).mono ?_;rintro e w5 ⟨rfl,hch⟩;have HP:=hid hch;clear hch;refine hK9 _ _ ?_;clear hK9 K9;(repeat ((first | (refine Z0m ?_ (Or.inl ⟨by rfl,fun w9=>?_⟩) ?_;rotate_left 1;go_simp;with_reducible rfl) | (refine Z0l ?_ (((Zm7 _ _).drew)) (Or.inl ⟨by rfl,fun w9 hw9=>?_⟩) ?_;rotate_left 1;obtain ⟨hc9,hf9⟩:=Z1a hw9;go_simp;with_reducible rfl) | refine Z0m undef (Or.inr ⟨by rfl,rfl⟩) ?_ | refine Z0l undef (((Zm7 _ _).drew)) (Or.inr ⟨by rfl,rfl⟩) ?_);go_frame));refine Z1b ?_;simp only [Z03];refine hKK _ _ ?_;clear hKK KK;go_wp2_with fail
  go_ret;have hBB:Below w.heap.size w wc:=HB0.out.trans (HB.out.mono (by omega));obtain ⟨sn',A',c',g1,g2,g3⟩:=HP.out;refine ⟨by rw [HH.out]<;>rfl,sn',A',c',g1,(Fr.of_new hBB).trans ((Fr.refl _ wc).drew.trans g2),Z2w.of_PgT hBB g3⟩
end
section
open Go.RowKit Go.Shelf
attribute [local go_sem] Oper.semAt_some
def Za7 (x:PgT):Array Value:=#[.int .i64 x.kk,.agg #[.int .i64 x.tr.elem.id.kind,.string x.tr.elem.id.text,.int .i64 x.tr.elem.id.n,.int .i64 x.tr.elem.attr.kind,.string x.tr.elem.attr.text,.int .i64 x.tr.elem.attr.n,.int .i64 x.tr.elem.value.kind,.string x.tr.elem.value.text,.int .i64 x.tr.elem.value.n,.bool x.tr.elem.acc,.bool x.tr.elem.goal,.int .i64 x.tr.elem.tag,.int .i64 x.tr.level,.int .i64 x.tr.cause]]
theorem Zfh (kb c:Nat) (sn:Bool) (A:Option Addr) (bm bp:Nat) (l:List PgT) (W:World) (hbox:W.cell? ⟨kb,0,none⟩=some (.pointer (some ⟨bm,0,none⟩))) (hB:Blk W bm 242 #[.pointer (some ⟨bp,0,none⟩)]) (hS:Z2g W bp sn A c l) :
 Zgf Tryz.prog 161 #[.pointer (some ⟨kb,0,none⟩)] Za7 l W (Z1h bp) (Z10 A):=by
 intro lo J Jx hJ hJx h0 hY;have hbsl:=hS.lt;have hkb:=Zmj W _ hbox;have hAl:=hS.row_lt;have s1:=(hB.cell 0).trans rfl;have hbl:=hB.lt;have HJ:=hid hJ;have HJx:=hid hJx;have H0:=hid h0;have HY:=hid hY;have HS:=hid hS;have HA:=hid hAl;clear hJ hJx h0 hY hS hB hAl;refine callsIn_of_wp_marks Tryz.func161 rfl trivial ?_;simp only [Tryz.ntmps161,Znl,Zmp,Znc,Nat.reduceAdd,Nat.reduceSub,Zna,Znb,Znk,Zng,Zmr,Zn2];(gi_wp2_with fail);refine ⟨trivial,rfl,?_⟩;obtain ⟨W0,hW0⟩ : ∃W0,W0=W.alloc (.cells #[.func (.yield lo) #[] #[]] 183):=⟨_,rfl⟩;(have hb0:Below W.heap.size W W0:=by rw [hW0];exact (Zm7 _ _).alloc (Zm8 _) _);(have hY0:Blk W0 W.heap.size 183 #[.func (.yield lo) #[] #[]]:=by rw [hW0];exact Blk.new _ _ _);rw [← hW0];clear hW0;refine (callsIn_wide.2 (Zhi bp W0)).mono ?_;rintro e w3 ⟨rfl,hb3,hbox3⟩;have hz0:=hY0.lt;have hz3:=hb3.size;have hY3:=(hY0.new_ hb3);have hB3:Below W.heap.size W w3:=hb0.trans (hb3.mono hb0.size);have hSQ:=Zdt W0.heap.size bp _ _ _ l w3 hbox3 (HS.out.new_ hB3);have HSQ:=hid hSQ;have HY3:=hid hY3;have HB3:=hid hB3;clear hb0 hY0 hb3 hbox3 hSQ hY3 hB3 s1;(gi_wp2_with fail);obtain ⟨I,hI⟩ : ∃I:World→List PgT→World→Prop,I=fun F p X=>(Z1h bp W F∧F.heap.size≤X.heap.size∧W.heap.size<F.heap.size)∧J F p X∧X.cell? ⟨W.heap.size,0,none⟩=some (.func (.yield lo) #[] #[]):=⟨_,rfl⟩;obtain ⟨Ix,hIx⟩ : ∃Ix:World→Code→List PgT→World→Prop,Ix=fun F c p X=>c = .ret∧Z1h bp W F∧Jx F p X:=⟨_,rfl⟩;refine Z52 (w:=w3) (by rfl) HSQ.out.enter HSQ.out.p.iter (fun x=>by rfl) HSQ.out.trans HSQ.out.keep (fun W W1 h=>Z3a (HSQ.out.mods W W1 h)) I Ix ?_ ?_ ?_ ?_ ?_ ?_
 · subst hI
   rintro F p X Y ⟨g0,g1,g2⟩ hp;exact ⟨⟨g0.1,Zmk g0.2.1 hp.size,g0.2.2⟩,HJ.out F p X Y g1 (hp.mono (by omega)),Z6j g2 hp⟩
 · subst hIx
   rintro F c p X Y ⟨g0,g1,g2⟩ hp;exact ⟨g0,g1,HJx.out F p X Y g2 (hp.mono (by omega))⟩
 · intro X F hX hs
   subst hI;have hs2:=hs.from_ (HB3.out.trans (hX.mono (by omega)));have hs3:=hs.size;have hx3:=hX.size;refine ⟨⟨hs2,Zm8 _,by omega⟩,H0.out F hs2,?_⟩;have hy:=HY3.out.new_ hX;exact ((hs.fr.cell (p:=⟨W.heap.size,0,none⟩) hy.lt (fun e=>by dsimp only at e;omega)).trans ((hy.cell 0).trans rfl))
 · intro F lo2 pre x post X hx hlo hIW
   have HX:=hid hx;clear hx;rw [hI] at hIW;obtain ⟨⟨hst,hfx,hwf⟩,hJ1,hyc⟩:=hIW;have HI:=hid hI;have HIx:=hid hIx;have HST:=hid hst;have HJ1:=hid hJ1;have hyl:=Zmj X _ hyc;clear hI hIx hst hJ1;simp only [Zbh,Array.zip];(gi_wp2_with fail);have hJ2:=HJ.out F pre X _ HJ1.out ((Priv.refl W.heap.size X).alloc (.cells #[.int .i64 x.kk,.int .i64 x.tr.elem.id.kind,.string x.tr.elem.id.text,.int .i64 x.tr.elem.id.n,.int .i64 x.tr.elem.attr.kind,.string x.tr.elem.attr.text,.int .i64 x.tr.elem.attr.n,.int .i64 x.tr.elem.value.kind,.string x.tr.elem.value.text,.int .i64 x.tr.elem.value.n,.bool x.tr.elem.acc,.bool x.tr.elem.goal,.int .i64 x.tr.elem.tag,.int .i64 x.tr.level,.int .i64 x.tr.cause] 240));have hb9:Below X.heap.size X (X.alloc (.cells #[.int .i64 x.kk,.int .i64 x.tr.elem.id.kind,.string x.tr.elem.id.text,.int .i64 x.tr.elem.id.n,.int .i64 x.tr.elem.attr.kind,.string x.tr.elem.attr.text,.int .i64 x.tr.elem.attr.n,.int .i64 x.tr.elem.value.kind,.string x.tr.elem.value.text,.int .i64 x.tr.elem.value.n,.bool x.tr.elem.acc,.bool x.tr.elem.goal,.int .i64 x.tr.elem.tag,.int .i64 x.tr.level,.int .i64 x.tr.cause] 240)):=(Zm7 _ _).alloc (Zm8 _) _;have hyc2:=(hb9.cell (p:=⟨W.heap.size,0,none⟩) hyl).trans hyc;have hx9:Blk (X.alloc (.cells #[.int .i64 x.kk,.int .i64 x.tr.elem.id.kind,.string x.tr.elem.id.text,.int .i64 x.tr.elem.id.n,.int .i64 x.tr.elem.attr.kind,.string x.tr.elem.attr.text,.int .i64 x.tr.elem.attr.n,.int .i64 x.tr.elem.value.kind,.string x.tr.elem.value.text,.int .i64 x.tr.elem.value.n,.bool x.tr.elem.acc,.bool x.tr.elem.goal,.int .i64 x.tr.elem.tag,.int .i64 x.tr.level,.int .i64 x.tr.cause] 240)) X.heap.size 240 #[.int .i64 x.kk,.int .i64 x.tr.elem.id.kind,.string x.tr.elem.id.text,.int .i64 x.tr.elem.id.n,.int .i64 x.tr.elem.attr.kind,.string x.tr.elem.attr.text,.int .i64 x.tr.elem.attr.n,.int .i64 x.tr.elem.value.kind,.string x.tr.elem.value.text,.int .i64 x.tr.elem.value.n,.bool x.tr.elem.acc,.bool x.tr.elem.goal,.int .i64 x.tr.elem.tag,.int .i64 x.tr.level,.int .i64 x.tr.cause]:=Blk.new _ _ _;(have hx3:w3.heap.size≤X.heap.size∨X.heap.size<w3.heap.size:=by omega);have hrk9:Z10 A X (X.alloc (.cells #[.int .i64 x.kk,.int .i64 x.tr.elem.id.kind,.string x.tr.elem.id.text,.int .i64 x.tr.elem.id.n,.int .i64 x.tr.elem.attr.kind,.string x.tr.elem.attr.text,.int .i64 x.tr.elem.attr.n,.int .i64 x.tr.elem.value.kind,.string x.tr.elem.value.text,.int .i64 x.tr.elem.value.n,.bool x.tr.elem.acc,.bool x.tr.elem.goal,.int .i64 x.tr.elem.tag,.int .i64 x.tr.level,.int .i64 x.tr.cause] 240)):=Z10.of_priv HA.out (((Priv.refl W.heap.size X).alloc _));refine ⟨Kept.new_ hb9 hfx,fun X2 hp2 hz2 _ _=>?_⟩;have hJ3:=HJ.out F pre _ X2 hJ2 (hp2.mono (by omega));have hyc3:=Z6j hyc2 hp2;have hx2:=hx9.priv hp2;have x0:X2.cell? ⟨X.heap.size,0,none⟩=some (.int .i64 x.kk):=(hx2.cell 0).trans rfl;have x1:X2.cell? ⟨X.heap.size,1,none⟩=some (.int .i64 x.tr.elem.id.kind):=(hx2.cell 1).trans rfl;have x2:X2.cell? ⟨X.heap.size,2,none⟩=some (.string x.tr.elem.id.text):=(hx2.cell 2).trans rfl;have x3:X2.cell? ⟨X.heap.size,3,none⟩=some (.int .i64 x.tr.elem.id.n):=(hx2.cell 3).trans rfl;have x4:X2.cell? ⟨X.heap.size,4,none⟩=some (.int .i64 x.tr.elem.attr.kind):=(hx2.cell 4).trans rfl;have x5:X2.cell? ⟨X.heap.size,5,none⟩=some (.string x.tr.elem.attr.text):=(hx2.cell 5).trans rfl;have x6:X2.cell? ⟨X.heap.size,6,none⟩=some (.int .i64 x.tr.elem.attr.n):=(hx2.cell 6).trans rfl;have x7:X2.cell? ⟨X.heap.size,7,none⟩=some (.int .i64 x.tr.elem.value.kind):=(hx2.cell 7).trans rfl;have x8:X2.cell? ⟨X.heap.size,8,none⟩=some (.string x.tr.elem.value.text):=(hx2.cell 8).trans rfl;have x9:X2.cell? ⟨X.heap.size,9,none⟩=some (.int .i64 x.tr.elem.value.n):=(hx2.cell 9).trans rfl;have x10:X2.cell? ⟨X.heap.size,10,none⟩=some (.bool x.tr.elem.acc):=(hx2.cell 10).trans rfl;have x11:X2.cell? ⟨X.heap.size,11,none⟩=some (.bool x.tr.elem.goal):=(hx2.cell 11).trans rfl;have x12:X2.cell? ⟨X.heap.size,12,none⟩=some (.int .i64 x.tr.elem.tag):=(hx2.cell 12).trans rfl;have x13:X2.cell? ⟨X.heap.size,13,none⟩=some (.int .i64 x.tr.level):=(hx2.cell 13).trans rfl;have x14:X2.cell? ⟨X.heap.size,14,none⟩=some (.int .i64 x.tr.cause):=(hx2.cell 14).trans rfl;have hrk2:Z10 A X X2:=hrk9.trans (Z10.of_priv HA.out (hp2.mono (B:=W.heap.size) (by omega)));have HRK:=hid hrk2;(have hfx2:F.heap.size≤X2.heap.size:=by omega);have hxl2:=hx2.lt
   obtain ⟨fn,tmps,assign,body,hy,hR⟩:=HY.out F pre x post X2 HST.out HX.out hJ3;dsimp only [Za7] at hy;have HRR:=hid hR;have hyl2:=Zmj X2 _ hyc3;have HYC3:=hid hyc3;clear hR hJ2 hb9 hyc2 hx9 hx3 hrk9 hp2 hJ3 hx2 hrk2 hyc;(gi_wp2_with fail);refine ⟨rfl,HRR.out.mono ?_⟩;rintro e W3 (⟨rfl,hJ3,hk3,hkept⟩ | ⟨rfl,hJx3,hkept⟩)
   · have HJ3:=hid hJ3
     have HK3:=hid hk3;have HKE:=hid hkept;clear hJ3 hk3 hkept hy x0 x1 x2 x3 x4 x5 x6 x7 x8 x9 x10 x11 x12 x13 x14 hyc3;gi_wp2;have hI:=HI.out;subst hI;refine ⟨HKE.out.up (by omega),HRK.out.trans HK3.out,⟨HST.out,Zmk hfx2 HK3.out.1,hwf⟩,HJ3.out,?_⟩;exact (World.cell?_of_block (a:=⟨W.heap.size,0,none⟩) (HKE.out.own _ (Zm8 _) hwf)).trans HYC3.out
   · have HJ3:=hid hJx3
     have HKE:=hid hkept;clear hJx3 hkept hy x0 x1 x2 x3 x4 x5 x6 x7 x8 x9 x10 x11 x12 x13 x14 hyc3;gi_wp2;have hIx:=HIx.out;subst hIx;exact ⟨HKE.out.up (by omega),rfl,HST.out,HJ3.out⟩
 · intro F D X hD hIW hK
   subst hI;obtain ⟨⟨hst,_,_⟩,hJ1,_⟩:=hIW;have HST:=hid hst;have HJ1:=hid hJ1;have HK:=hid hK;clear hst hJ1 hK hIx;(gi_wp2_with fail);refine ⟨by simp,.inl ⟨_,_,rfl,run_takeDeferred HK.out,?_⟩⟩;have hpv:Priv W.heap.size X (X.putObj D (.deferred none)):=(Priv.refl _ _).putObj (by omega) HK.out rfl _;exact ⟨_,results_none rfl _ _ _,⟨_,rfl⟩,F,HST.out,.inl (HJ.out F _ _ _ HJ1.out hpv)⟩
 · intro F D c pre post X hD hx hIW hK
   subst hIx;obtain ⟨rfl,hst,hJ1⟩:=hIW;have HST:=hid hst;have HJ1:=hid hJ1;have HK:=hid hK;have HX:=hid hx;clear hst hJ1 hK hI hx;(gi_wp2_with fail);refine ⟨by simp,.inl ⟨_,_,rfl,run_takeDeferred HK.out,?_⟩⟩;have hpv:Priv W.heap.size X (X.putObj D (.deferred none)):=(Priv.refl _ _).putObj (by omega) HK.out rfl _;exact ⟨_,results_none rfl _ _ _,⟨_,rfl⟩,F,HST.out,.inr ⟨pre,post,HX.out,HJx.out F _ _ _ HJ1.out hpv⟩⟩
theorem Zia (kb c:Nat) (sn:Bool) (A:Option Addr) (bm bp:Nat) (l:List PgT) (w:World) (hbox:w.cell? ⟨kb,0,none⟩=some (.pointer (some ⟨bm,0,none⟩))) (hB:Blk w bm 242 #[.pointer (some ⟨bp,0,none⟩)]) (hS:Z2g w bp sn A c l) :
 SeqP 161 #[.pointer (some ⟨kb,0,none⟩)] Za7 l w (Z1h bp) (Z10 A):=
 ⟨by intro args w;kernel_rfl,fun W hW=>Zfh kb c sn A bm bp l W ((hW.cell (Zmj _ _ hbox)).trans hbox) (hB.new_ hW) (hS.new_ hW),fun _ _ _=>Z10.trans,fun _ _=>Z10.of_priv hS.row_lt,fun _ _=>Z10.of_below hS.row_lt,fun _ _ h=>h.fr.mono (fun k _ hk=>by subst hk;exact hS.lt)⟩
end
section
open Go.RowKit
theorem Zb8 (bm bp cc:Nat) (sn:Bool) (A:Option Addr) (m:List PgT) (k:Int) (w:World) (hM:Blk w bm 242 #[.pointer (some ⟨bp,0,none⟩)]) (hS:Z2g w bp sn A cc m) (hs:Srt Z0q m) (hl:(m.length:Int)≤1000000) (hh:has Z0q m (zPgT k)=false) :
 Calls Tryz.prog 113 #[.pointer (some ⟨bm,0,none⟩),.int .i64 k] w fun e w'=>e = .returned (.tuple #[.agg #[.int .i64 0,.string ⟨#[]⟩,.int .i64 0,.int .i64 0,.string ⟨#[]⟩,.int .i64 0,.int .i64 0,.string ⟨#[]⟩,.int .i64 0,.bool false,.bool false,.int .i64 0,.int .i64 0,.int .i64 0],.bool false])∧Below w.heap.size w w':=by
 have s0:=hM.c1;have hml:=hM.lt;have HS:=hid hS;have HO:=hid hs;have HM:=hid hM;have HH:=hid hh;clear hS hs hM hh;go_enter Tryz.func113,Tryz.ntmps113;(go_upto_region 4 with (fail));obtain ⟨W0,hW0⟩ : ∃W0,W0=w.alloc (.cells #[.int .i64 0,.string ⟨#[]⟩,.int .i64 0,.int .i64 0,.string ⟨#[]⟩,.int .i64 0,.int .i64 0,.string ⟨#[]⟩,.int .i64 0,.bool false,.bool false,.int .i64 0,.int .i64 0,.int .i64 0] 64):=⟨_,rfl⟩;(have hB0:Below w.heap.size w W0:=by rw [hW0];exact (Zm7 _ _).alloc (Zm8 _) _);(have hbx:Blk W0 w.heap.size 64 #[.int .i64 0,.string ⟨#[]⟩,.int .i64 0,.int .i64 0,.string ⟨#[]⟩,.int .i64 0,.int .i64 0,.string ⟨#[]⟩,.int .i64 0,.bool false,.bool false,.int .i64 0,.int .i64 0,.int .i64 0]:=by rw [hW0];exact Blk.new _ _ _);have hz0:w.heap.size<W0.heap.size:=hbx.lt;rw [← hW0];clear hW0;have s1:=(hB0.cell (p:=⟨bm,0,none⟩) hml).trans s0;clear s0;have HS0:=hid (HS.out.new_ hB0);have HX0:=hid hbx;have HB0:=hid hB0;(have hml0:bm<W0.heap.size:=by omega);clear hB0 hbx HS HM
 go_cut [7,8] from 11 (fun p b wc=>b = .bool false∧Below W0.heap.size W0 wc∧∃g,p = .pointer (some ⟨g,0,none⟩)∧W0.heap.size≤g∧wc.rangeAt g 0 [.int .i64 0,.int .i64 0,.string ⟨#[]⟩,.int .i64 0,.int .i64 0,.string ⟨#[]⟩,.int .i64 0,.int .i64 0,.string ⟨#[]⟩,.int .i64 0,.bool false,.bool false,.int .i64 0,.int .i64 0,.int .i64 0])
 case first=>
  refine Z3t (fun w9=>Below W0.heap.size W0 w9) [0,1,2,3,4,7,8,9,12] [3] (.fork [(0,0),(1,0),(2,0),(3,1),(4,0)] 5 (.fork [] 6 (.fin [(7,0),(8,0),(9,0),(10,2),(11,2),(12,0)]) 10 (.fin [(6,2),(7,0),(8,0),(9,0),(11,2),(12,0)])) 10 (.fin [(5,2),(6,2),(7,0),(8,0),(9,0),(11,2),(12,0)])) (by kernel_rfl) (by kernel_rfl) (by kernel_rfl) (fun KK hKK=>?_);simp only [wpPl,Z0v,Zmn,Zme,Zml,Zmg,Zmf,Zmo];have HB:=hid (Zm7 W0.heap.size W0).drew;obtain ⟨V,hV⟩ : ∃V,V=W0.drew:=⟨_,rfl⟩;rw [← hV] at HB ⊢;clear hV
  repeat' (first
   | ((first | (refine Z5d ?_ (Or.inl ⟨by rfl,fun w9=>?_⟩) ?_;rotate_left 1;go_simp;with_reducible rfl) | (refine Z5c ?_ (HB.out) (Or.inl ⟨by rfl,fun w9 hw9=>?_⟩) ?_;rotate_left 1;obtain ⟨hc9,hf9⟩:=Z1a hw9;go_simp;with_reducible rfl) | refine Z5d undef (Or.inr ⟨by rfl,rfl⟩) ?_ | refine Z5c undef (HB.out) (Or.inr ⟨by rfl,rfl⟩) ?_);go_frame)
   | ((first | refine Z3g (fun K9 hK9=>?_) | refine Z3f rfl (fun K9 hK9=>?_));refine Z1c rfl 240 _ _ rfl g 0 #[.int .i64 0,.int .i64 0,.string ⟨#[]⟩,.int .i64 0,.int .i64 0,.string ⟨#[]⟩,.int .i64 0,.int .i64 0,.string ⟨#[]⟩,.int .i64 0,.bool false,.bool false,.int .i64 0,.int .i64 0,.int .i64 0] rfl rfl (show _ from HK.out.there) (by kernel_rfl) (by kernel_rfl) ?_;show K9 _ (V.setCells g 0 [.int .i64 0,.int .i64 0,.string ⟨#[]⟩,.int .i64 0,.int .i64 0,.string ⟨#[]⟩,.int .i64 0,.int .i64 0,.string ⟨#[]⟩,.int .i64 0,.bool false,.bool false,.int .i64 0,.int .i64 0,.int .i64 0]);have HR:=hid (Zmm V g 0 [.int .i64 0,.int .i64 0,.string ⟨#[]⟩,.int .i64 0,.int .i64 0,.string ⟨#[]⟩,.int .i64 0,.int .i64 0,.string ⟨#[]⟩,.int .i64 0,.bool false,.bool false,.int .i64 0,.int .i64 0,.int .i64 0] (show _ from HK.out.there));have HB:=hid (Below.setCells' [.int .i64 0,.int .i64 0,.string ⟨#[]⟩,.int .i64 0,.int .i64 0,.string ⟨#[]⟩,.int .i64 0,.int .i64 0,.string ⟨#[]⟩,.int .i64 0,.bool false,.bool false,.int .i64 0,.int .i64 0,.int .i64 0] 0 HB.out HG.out);obtain ⟨V,hV⟩ : ∃V9,V9=V.setCells g 0 [.int .i64 0,.int .i64 0,.string ⟨#[]⟩,.int .i64 0,.int .i64 0,.string ⟨#[]⟩,.int .i64 0,.int .i64 0,.string ⟨#[]⟩,.int .i64 0,.bool false,.bool false,.int .i64 0,.int .i64 0,.int .i64 0]:=⟨_,rfl⟩;rw [← hV] at HR HB;rw [← hV];have HL:=hid (show g<V.heap.size from Zmj _ _ (HR.out 0 _ rfl));clear hV;(first | refine hK9 _ _ (HB.out) ?_ | refine hK9 _ _ (fun _=>HB.out) ?_);clear hK9 K9;(try go_frame);try simp only [Z0v,Zme])
   | ((first | refine Z3g (fun K9 hK9=>?_) | refine Z3f rfl (fun K9 hK9=>?_));go_simp;(first
     | (refine (Za2 k _).mono ?_;rintro e V ⟨rfl,hb⟩;have HB:=hid (HB.out.trans (hb.mono HB.out.size));(try have HK:=hid (HK.out.new_ hb));clear hb)
     | (refine (Z9h bp cc sn A m (zPgT k) _ (HS0.out.new_ (HB.out)) HO.out (by omega) HH.out).mono ?_;rintro e V ⟨rfl,hb⟩;have HB:=hid (HB.out.trans (hb.mono HB.out.size));(try have HK:=hid (HK.out.new_ hb));clear hb)
     | (obtain ⟨g,hg⟩ : ∃g,g=V.heap.size:=⟨_,rfl⟩;have hk:=Blk.new V 240 #[.int .i64 0,.int .i64 0,.string ⟨#[]⟩,.int .i64 0,.int .i64 0,.string ⟨#[]⟩,.int .i64 0,.int .i64 0,.string ⟨#[]⟩,.int .i64 0,.bool false,.bool false,.int .i64 0,.int .i64 0,.int .i64 0];have HG:=hid (show W0.heap.size≤g by rw [hg];exact HB.out.size);have HB:=hid (HB.out.alloc HB.out.size (.cells #[.int .i64 0,.int .i64 0,.string ⟨#[]⟩,.int .i64 0,.int .i64 0,.string ⟨#[]⟩,.int .i64 0,.int .i64 0,.string ⟨#[]⟩,.int .i64 0,.bool false,.bool false,.int .i64 0,.int .i64 0,.int .i64 0] 240));obtain ⟨V,hV⟩ : ∃V9,V9=V.alloc (.cells #[.int .i64 0,.int .i64 0,.string ⟨#[]⟩,.int .i64 0,.int .i64 0,.string ⟨#[]⟩,.int .i64 0,.int .i64 0,.string ⟨#[]⟩,.int .i64 0,.bool false,.bool false,.int .i64 0,.int .i64 0,.int .i64 0] 240):=⟨_,rfl⟩;rw [← hV,← hg] at hk;rw [← hV] at HB;have HK:=hid hk;rw [← hV,← hg];clear hV hk hg) | fail);(first | refine hK9 _ _ (HB.out) ?_ | refine hK9 _ _ (fun _=>HB.out) ?_);clear hK9 K9;(try go_frame);try simp only [Z0v,Zme])
   | (refine Z33 ⟨?_,?_⟩) | fail)
  all_goals
   refine Z33 ?_;simp only [Z03];refine hKK _ _ ?_;clear hKK KK;(go_wp2_with fail);go_meet
   case rel=>exact ⟨rfl,HB.out,g,rfl,HG.out,HR.out⟩
 case rest=>
  obtain ⟨rfl,hB,g,rfl,hg,hr⟩:=hcut;have HB:=hid hB
  have hr2:wc.rangeAt g 1 [.int .i64 0,.string ⟨#[]⟩,.int .i64 0,.int .i64 0,.string ⟨#[]⟩,.int .i64 0,.int .i64 0,.string ⟨#[]⟩,.int .i64 0,.bool false,.bool false,.int .i64 0,.int .i64 0,.int .i64 0]:=fun j v hv=>by
   have:=hr (j+1) v (by simpa using hv);rwa [show 0+(j+1)=1+j by omega] at this
  have HR:=hid hr2;have HT:=hid (show wc.there w.heap.size 0 (#[.int .i64 0,.string ⟨#[]⟩,.int .i64 0,.int .i64 0,.string ⟨#[]⟩,.int .i64 0,.int .i64 0,.string ⟨#[]⟩,.int .i64 0,.bool false,.bool false,.int .i64 0,.int .i64 0,.int .i64 0]:Array Value).size from (HX0.out.new_ hB).there);clear hB hr hr2 s1;(go_wp2_with (first | (with_reducible refine wpList_load_mid rfl 64 _ rfl g 1 rfl _ _ HR.out Tryz.underlying64 rfl (by kernel_rfl) ?_) | (with_reducible refine wpList_store_mid rfl 64 _ _ rfl w.heap.size 0 #[.int .i64 0,.string ⟨#[]⟩,.int .i64 0,.int .i64 0,.string ⟨#[]⟩,.int .i64 0,.int .i64 0,.string ⟨#[]⟩,.int .i64 0,.bool false,.bool false,.int .i64 0,.int .i64 0,.int .i64 0] rfl rfl HT.out (by kernel_rfl) (by kernel_rfl) ?_)));(try simp only [Exit.inBlock,Exit.then]);refine bodyPost_ret (v:=.tuple #[.agg #[.int .i64 0,.string ⟨#[]⟩,.int .i64 0,.int .i64 0,.string ⟨#[]⟩,.int .i64 0,.int .i64 0,.string ⟨#[]⟩,.int .i64 0,.bool false,.bool false,.int .i64 0,.int .i64 0,.int .i64 0],.bool false]) ?_ rfl ⟨rfl,Below.setCells' _ _ (HB0.out.trans (HB.out.mono (by omega))) (by omega)⟩;exact Z1s (t:=4) (s:=5) (T:=64) rfl _ _ w.heap.size [.int .i64 0,.string ⟨#[]⟩,.int .i64 0,.int .i64 0,.string ⟨#[]⟩,.int .i64 0,.int .i64 0,.string ⟨#[]⟩,.int .i64 0,.bool false,.bool false,.int .i64 0,.int .i64 0,.int .i64 0] _ rfl (Zmm wc w.heap.size 0 [.int .i64 0,.string ⟨#[]⟩,.int .i64 0,.int .i64 0,.string ⟨#[]⟩,.int .i64 0,.int .i64 0,.string ⟨#[]⟩,.int .i64 0,.bool false,.bool false,.int .i64 0,.int .i64 0,.int .i64 0] HT.out) Tryz.underlying64 rfl (by kernel_rfl)
theorem Zb7 (bm bp cc:Nat) (sn:Bool) (A:Option Addr) (m:List PgT) (k:Int) (y:PgT) (w:World) (hM:Blk w bm 242 #[.pointer (some ⟨bp,0,none⟩)]) (hS:Z2g w bp sn A cc m) (hs:Srt Z0q m) (hl:(m.length:Int)≤1000000) (hh:has Z0q m (zPgT k)=true) (hy:m[rank Z0q m (zPgT k)]? = some y) :
 Calls Tryz.prog 113 #[.pointer (some ⟨bm,0,none⟩),.int .i64 k] w fun e w'=>e = .returned (.tuple #[.agg #[.int .i64 y.tr.elem.id.kind,.string y.tr.elem.id.text,.int .i64 y.tr.elem.id.n,.int .i64 y.tr.elem.attr.kind,.string y.tr.elem.attr.text,.int .i64 y.tr.elem.attr.n,.int .i64 y.tr.elem.value.kind,.string y.tr.elem.value.text,.int .i64 y.tr.elem.value.n,.bool y.tr.elem.acc,.bool y.tr.elem.goal,.int .i64 y.tr.elem.tag,.int .i64 y.tr.level,.int .i64 y.tr.cause],.bool true])∧Below w.heap.size w w':=by
 have s0:=hM.c1;have hml:=hM.lt;have HS:=hid hS;have HO:=hid hs;have HM:=hid hM;have HH:=hid hh;have HY:=hid hy;clear hy;clear hS hs hM hh;go_enter Tryz.func113,Tryz.ntmps113;(go_upto_region 4 with (fail));obtain ⟨W0,hW0⟩ : ∃W0,W0=w.alloc (.cells #[.int .i64 0,.string ⟨#[]⟩,.int .i64 0,.int .i64 0,.string ⟨#[]⟩,.int .i64 0,.int .i64 0,.string ⟨#[]⟩,.int .i64 0,.bool false,.bool false,.int .i64 0,.int .i64 0,.int .i64 0] 64):=⟨_,rfl⟩;(have hB0:Below w.heap.size w W0:=by rw [hW0];exact (Zm7 _ _).alloc (Zm8 _) _);(have hbx:Blk W0 w.heap.size 64 #[.int .i64 0,.string ⟨#[]⟩,.int .i64 0,.int .i64 0,.string ⟨#[]⟩,.int .i64 0,.int .i64 0,.string ⟨#[]⟩,.int .i64 0,.bool false,.bool false,.int .i64 0,.int .i64 0,.int .i64 0]:=by rw [hW0];exact Blk.new _ _ _);have hz0:w.heap.size<W0.heap.size:=hbx.lt;rw [← hW0];clear hW0;have s1:=(hB0.cell (p:=⟨bm,0,none⟩) hml).trans s0;clear s0;have HS0:=hid (HS.out.new_ hB0);have HX0:=hid hbx;have HB0:=hid hB0;(have hml0:bm<W0.heap.size:=by omega);clear hB0 hbx HS HM
 go_cut [7,8] from 11 (fun p b wc=>b = .bool true∧Below W0.heap.size W0 wc∧∃g,p = .pointer (some ⟨g,0,none⟩)∧W0.heap.size≤g∧wc.rangeAt g 0 [.int .i64 y.kk,.int .i64 y.tr.elem.id.kind,.string y.tr.elem.id.text,.int .i64 y.tr.elem.id.n,.int .i64 y.tr.elem.attr.kind,.string y.tr.elem.attr.text,.int .i64 y.tr.elem.attr.n,.int .i64 y.tr.elem.value.kind,.string y.tr.elem.value.text,.int .i64 y.tr.elem.value.n,.bool y.tr.elem.acc,.bool y.tr.elem.goal,.int .i64 y.tr.elem.tag,.int .i64 y.tr.level,.int .i64 y.tr.cause])
 case first=>
  refine Z3t (fun w9=>Below W0.heap.size W0 w9) [0,1,2,3,4,7,8,9,12] [3] (.fork [(0,0),(1,0),(2,0),(3,1),(4,0)] 5 (.fork [] 6 (.fin [(7,0),(8,0),(9,0),(10,2),(11,2),(12,0)]) 10 (.fin [(6,2),(7,0),(8,0),(9,0),(11,2),(12,0)])) 10 (.fin [(5,2),(6,2),(7,0),(8,0),(9,0),(11,2),(12,0)])) (by kernel_rfl) (by kernel_rfl) (by kernel_rfl) (fun KK hKK=>?_);simp only [wpPl,Z0v,Zmn,Zme,Zml,Zmg,Zmf,Zmo];have HB:=hid (Zm7 W0.heap.size W0).drew;obtain ⟨V,hV⟩ : ∃V,V=W0.drew:=⟨_,rfl⟩;rw [← hV] at HB ⊢;clear hV
  repeat' (first
   | ((first | (refine Z5d ?_ (Or.inl ⟨by rfl,fun w9=>?_⟩) ?_;rotate_left 1;go_simp;with_reducible rfl) | (refine Z5c ?_ (HB.out) (Or.inl ⟨by rfl,fun w9 hw9=>?_⟩) ?_;rotate_left 1;obtain ⟨hc9,hf9⟩:=Z1a hw9;go_simp;with_reducible rfl) | refine Z5d undef (Or.inr ⟨by rfl,rfl⟩) ?_ | refine Z5c undef (HB.out) (Or.inr ⟨by rfl,rfl⟩) ?_);go_frame)
   | ((first | refine Z3g (fun K9 hK9=>?_) | refine Z3f rfl (fun K9 hK9=>?_));refine Z1c rfl 240 _ _ rfl g 0 #[.int .i64 y.kk,.int .i64 y.tr.elem.id.kind,.string y.tr.elem.id.text,.int .i64 y.tr.elem.id.n,.int .i64 y.tr.elem.attr.kind,.string y.tr.elem.attr.text,.int .i64 y.tr.elem.attr.n,.int .i64 y.tr.elem.value.kind,.string y.tr.elem.value.text,.int .i64 y.tr.elem.value.n,.bool y.tr.elem.acc,.bool y.tr.elem.goal,.int .i64 y.tr.elem.tag,.int .i64 y.tr.level,.int .i64 y.tr.cause] rfl rfl (show _ from HK.out.there) (by kernel_rfl) (by kernel_rfl) ?_;show K9 _ (V.setCells g 0 [.int .i64 y.kk,.int .i64 y.tr.elem.id.kind,.string y.tr.elem.id.text,.int .i64 y.tr.elem.id.n,.int .i64 y.tr.elem.attr.kind,.string y.tr.elem.attr.text,.int .i64 y.tr.elem.attr.n,.int .i64 y.tr.elem.value.kind,.string y.tr.elem.value.text,.int .i64 y.tr.elem.value.n,.bool y.tr.elem.acc,.bool y.tr.elem.goal,.int .i64 y.tr.elem.tag,.int .i64 y.tr.level,.int .i64 y.tr.cause]);have HR:=hid (Zmm V g 0 [.int .i64 y.kk,.int .i64 y.tr.elem.id.kind,.string y.tr.elem.id.text,.int .i64 y.tr.elem.id.n,.int .i64 y.tr.elem.attr.kind,.string y.tr.elem.attr.text,.int .i64 y.tr.elem.attr.n,.int .i64 y.tr.elem.value.kind,.string y.tr.elem.value.text,.int .i64 y.tr.elem.value.n,.bool y.tr.elem.acc,.bool y.tr.elem.goal,.int .i64 y.tr.elem.tag,.int .i64 y.tr.level,.int .i64 y.tr.cause] (show _ from HK.out.there));have HB:=hid (Below.setCells' [.int .i64 y.kk,.int .i64 y.tr.elem.id.kind,.string y.tr.elem.id.text,.int .i64 y.tr.elem.id.n,.int .i64 y.tr.elem.attr.kind,.string y.tr.elem.attr.text,.int .i64 y.tr.elem.attr.n,.int .i64 y.tr.elem.value.kind,.string y.tr.elem.value.text,.int .i64 y.tr.elem.value.n,.bool y.tr.elem.acc,.bool y.tr.elem.goal,.int .i64 y.tr.elem.tag,.int .i64 y.tr.level,.int .i64 y.tr.cause] 0 HB.out HG.out);obtain ⟨V,hV⟩ : ∃V9,V9=V.setCells g 0 [.int .i64 y.kk,.int .i64 y.tr.elem.id.kind,.string y.tr.elem.id.text,.int .i64 y.tr.elem.id.n,.int .i64 y.tr.elem.attr.kind,.string y.tr.elem.attr.text,.int .i64 y.tr.elem.attr.n,.int .i64 y.tr.elem.value.kind,.string y.tr.elem.value.text,.int .i64 y.tr.elem.value.n,.bool y.tr.elem.acc,.bool y.tr.elem.goal,.int .i64 y.tr.elem.tag,.int .i64 y.tr.level,.int .i64 y.tr.cause]:=⟨_,rfl⟩;rw [← hV] at HR HB;rw [← hV];have HL:=hid (show g<V.heap.size from Zmj _ _ (HR.out 0 _ rfl));clear hV;(first | refine hK9 _ _ (HB.out) ?_ | refine hK9 _ _ (fun _=>HB.out) ?_);clear hK9 K9;(try go_frame);try simp only [Z0v,Zme])
   | ((first | refine Z3g (fun K9 hK9=>?_) | refine Z3f rfl (fun K9 hK9=>?_));go_simp;(first
     | (refine (Za2 k _).mono ?_;rintro e V ⟨rfl,hb⟩;have HB:=hid (HB.out.trans (hb.mono HB.out.size));(try have HK:=hid (HK.out.new_ hb));clear hb)
     | (refine (Zfn bp cc sn A m (zPgT k) y _ (HS0.out.new_ (HB.out)) HO.out (by omega) HH.out HY.out).mono ?_;rintro e V ⟨rfl,hb⟩;have HB:=hid (HB.out.trans (hb.mono HB.out.size));(try have HK:=hid (HK.out.new_ hb));clear hb)
     | (obtain ⟨g,hg⟩ : ∃g,g=V.heap.size:=⟨_,rfl⟩;have hk:=Blk.new V 240 #[.int .i64 0,.int .i64 0,.string ⟨#[]⟩,.int .i64 0,.int .i64 0,.string ⟨#[]⟩,.int .i64 0,.int .i64 0,.string ⟨#[]⟩,.int .i64 0,.bool false,.bool false,.int .i64 0,.int .i64 0,.int .i64 0];have HG:=hid (show W0.heap.size≤g by rw [hg];exact HB.out.size);have HB:=hid (HB.out.alloc HB.out.size (.cells #[.int .i64 0,.int .i64 0,.string ⟨#[]⟩,.int .i64 0,.int .i64 0,.string ⟨#[]⟩,.int .i64 0,.int .i64 0,.string ⟨#[]⟩,.int .i64 0,.bool false,.bool false,.int .i64 0,.int .i64 0,.int .i64 0] 240));obtain ⟨V,hV⟩ : ∃V9,V9=V.alloc (.cells #[.int .i64 0,.int .i64 0,.string ⟨#[]⟩,.int .i64 0,.int .i64 0,.string ⟨#[]⟩,.int .i64 0,.int .i64 0,.string ⟨#[]⟩,.int .i64 0,.bool false,.bool false,.int .i64 0,.int .i64 0,.int .i64 0] 240):=⟨_,rfl⟩;rw [← hV,← hg] at hk;rw [← hV] at HB;have HK:=hid hk;rw [← hV,← hg];clear hV hk hg) | fail);(first | refine hK9 _ _ (HB.out) ?_ | refine hK9 _ _ (fun _=>HB.out) ?_);clear hK9 K9;(try go_frame);try simp only [Z0v,Zme])
   | (refine Z33 ⟨?_,?_⟩) | fail)
  all_goals
   refine Z33 ?_;simp only [Z03];refine hKK _ _ ?_;clear hKK KK;(go_wp2_with fail);go_meet
   case rel=>exact ⟨rfl,HB.out,g,rfl,HG.out,HR.out⟩
 case rest=>
  obtain ⟨rfl,hB,g,rfl,hg,hr⟩:=hcut;have HB:=hid hB
  have hr2:wc.rangeAt g 1 [.int .i64 y.tr.elem.id.kind,.string y.tr.elem.id.text,.int .i64 y.tr.elem.id.n,.int .i64 y.tr.elem.attr.kind,.string y.tr.elem.attr.text,.int .i64 y.tr.elem.attr.n,.int .i64 y.tr.elem.value.kind,.string y.tr.elem.value.text,.int .i64 y.tr.elem.value.n,.bool y.tr.elem.acc,.bool y.tr.elem.goal,.int .i64 y.tr.elem.tag,.int .i64 y.tr.level,.int .i64 y.tr.cause]:=fun j v hv=>by
   have:=hr (j+1) v (by simpa using hv);rwa [show 0+(j+1)=1+j by omega] at this
  have HR:=hid hr2;have HT:=hid (show wc.there w.heap.size 0 (#[.int .i64 y.tr.elem.id.kind,.string y.tr.elem.id.text,.int .i64 y.tr.elem.id.n,.int .i64 y.tr.elem.attr.kind,.string y.tr.elem.attr.text,.int .i64 y.tr.elem.attr.n,.int .i64 y.tr.elem.value.kind,.string y.tr.elem.value.text,.int .i64 y.tr.elem.value.n,.bool y.tr.elem.acc,.bool y.tr.elem.goal,.int .i64 y.tr.elem.tag,.int .i64 y.tr.level,.int .i64 y.tr.cause]:Array Value).size from (HX0.out.new_ hB).there);clear hB hr hr2 s1;(go_wp2_with (first | (with_reducible refine wpList_load_mid rfl 64 _ rfl g 1 rfl _ _ HR.out Tryz.underlying64 rfl (by kernel_rfl) ?_) | (with_reducible refine wpList_store_mid rfl 64 _ _ rfl w.heap.size 0 #[.int .i64 y.tr.elem.id.kind,.string y.tr.elem.id.text,.int .i64 y.tr.elem.id.n,.int .i64 y.tr.elem.attr.kind,.string y.tr.elem.attr.text,.int .i64 y.tr.elem.attr.n,.int .i64 y.tr.elem.value.kind,.string y.tr.elem.value.text,.int .i64 y.tr.elem.value.n,.bool y.tr.elem.acc,.bool y.tr.elem.goal,.int .i64 y.tr.elem.tag,.int .i64 y.tr.level,.int .i64 y.tr.cause] rfl rfl HT.out (by kernel_rfl) (by kernel_rfl) ?_)));(try simp only [Exit.inBlock,Exit.then]);refine bodyPost_ret (v:=.tuple #[.agg #[.int .i64 y.tr.elem.id.kind,.string y.tr.elem.id.text,.int .i64 y.tr.elem.id.n,.int .i64 y.tr.elem.attr.kind,.string y.tr.elem.attr.text,.int .i64 y.tr.elem.attr.n,.int .i64 y.tr.elem.value.kind,.string y.tr.elem.value.text,.int .i64 y.tr.elem.value.n,.bool y.tr.elem.acc,.bool y.tr.elem.goal,.int .i64 y.tr.elem.tag,.int .i64 y.tr.level,.int .i64 y.tr.cause],.bool true]) ?_ rfl ⟨rfl,Below.setCells' _ _ (HB0.out.trans (HB.out.mono (by omega))) (by omega)⟩;exact Z1s (t:=4) (s:=5) (T:=64) rfl _ _ w.heap.size [.int .i64 y.tr.elem.id.kind,.string y.tr.elem.id.text,.int .i64 y.tr.elem.id.n,.int .i64 y.tr.elem.attr.kind,.string y.tr.elem.attr.text,.int .i64 y.tr.elem.attr.n,.int .i64 y.tr.elem.value.kind,.string y.tr.elem.value.text,.int .i64 y.tr.elem.value.n,.bool y.tr.elem.acc,.bool y.tr.elem.goal,.int .i64 y.tr.elem.tag,.int .i64 y.tr.level,.int .i64 y.tr.cause] _ rfl (Zmm wc w.heap.size 0 [.int .i64 y.tr.elem.id.kind,.string y.tr.elem.id.text,.int .i64 y.tr.elem.id.n,.int .i64 y.tr.elem.attr.kind,.string y.tr.elem.attr.text,.int .i64 y.tr.elem.attr.n,.int .i64 y.tr.elem.value.kind,.string y.tr.elem.value.text,.int .i64 y.tr.elem.value.n,.bool y.tr.elem.acc,.bool y.tr.elem.goal,.int .i64 y.tr.elem.tag,.int .i64 y.tr.level,.int .i64 y.tr.cause] HT.out) Tryz.underlying64 rfl (by kernel_rfl)
def Only (ts:List Nat) (w w':World):Prop:=∀(g:Nat) (t:TypeId) (cs:Array Value),t ∉ ts→Blk w g t cs→Blk w' g t cs
structure Mine (ts:List Nat) (K:Nat→Prop) (w w':World):Prop where
 only:Only ts w w'
 fr:Fr (fun k=>¬K k) w w'
section
variable {ts ts':List Nat} {K K' E:Nat→Prop} {a b c w w':World}
theorem Mine.trans (h:Mine ts K a b) (k:Mine ts K b c):Mine ts K a c:=⟨fun g t cs hn hb=>k.only g t cs hn (h.only g t cs hn hb),h.fr.trans k.fr⟩
theorem Mine.new_ (h:Below w.heap.size w w'):Mine ts K w w':=⟨fun _ _ _ _ hb=>hb.new_ h,Fr.of_new h⟩
theorem Mine.up (h:Mine ts K w w') (hs : ∀t,t∈ts→t∈ts'):Mine ts' K w w':=⟨fun g t cs hn hb=>h.only g t cs (fun hm=>hn (hs t hm)) hb,h.fr⟩
theorem Mine.cell {p:Addr} {t:TypeId} {cs:Array Value} (hb:Blk w p.block t cs) (ht:t∈ts) (hK : ¬K p.block) (u:Value):Mine ts K w (w.setCell p u):=
 ⟨fun g t' cs' hn hg=>hg.far (fun e=>by subst e;exact hg.ne_ hb (fun e=>hn (e ▸ ht)) rfl) u,(Fr.refl _ w).setCell (.inl hK) u⟩
theorem Z0j {e:TypeId} {size n:Nat} {v:Value} {xs:List Value} (h:w.ownsRow 0 e size v n xs) (ho:Only ts w w') (he:e ∉ ts):w'.ownsRow 0 e size v n xs:=
 ⟨h.1,h.2.imp id fun ⟨g,cap,cur,hv,h0,hg,hr⟩=>⟨g,cap,cur,hv,h0,ho g e cur he hg,hr⟩⟩
theorem Z1z.only {α:Type} {tSet tE size:Nat} {cells:α→List Value} {b:Nat} {sn:Bool} {A:Option Addr} {c:Nat} {l:List α} (h:Z1z tSet tE size cells w b sn A c l) (ho:Only ts w w') (h1:tSet ∉ ts) (h2:tE ∉ ts):Z1z tSet tE size cells w' b sn A c l:=
 ⟨ho _ _ _ h1 h.blk,Z0j h.row ho h2⟩
theorem Zir {α:Type} {tSet tE size:Nat} {cells:α→List Value} {b:Nat} {sn:Bool} {A:Option Addr} {c:Nat} {l:List α} {g:Nat} {t:TypeId} {cs:Array Value}
 (hS:Z1z tSet tE size cells w b sn A c l) (hB:Blk w g t cs) (h1:t≠tSet) (h2:t≠tE) : ¬Z1d b sn A g:=by
 rintro (rfl | ⟨_,a,ha,rfl⟩)
 · exact hB.ne_ hS.blk h1 rfl
 · have:=Z02 hS.row hB (Ne.symm h2)
   subst ha;exact this (by simp [Value.ownBlock])
theorem Mine.set_ {α:Type} {tSet tE size:Nat} {cells:α→List Value} {b:Nat} {sn:Bool} {A:Option Addr} {c:Nat} {l:List α} (hS:Z1z tSet tE size cells w b sn A c l) (hF:Fr (Z1d b sn A) w w') (hb : ¬K b) (hA:AIn A (fun k=>¬K k)):Mine [tSet,tE] K w w':=
 ⟨fun g t cs hn hg=>hg.fr hF (Zir hS hg (fun e=>hn (by simp [e])) (fun e=>hn (by simp [e]))),hF.mono (fun k _ hk=>by
  rcases hk with rfl | ⟨_,a,ha,rfl⟩
  · exact hb
  · exact hA a ha)⟩
def OSet {α:Type} (tSet tE size:Nat) (cells:α→List Value) (K:Nat→Prop) (w:World) (b:Nat) (l:List α):Prop:=
 ∃sn A c,Z1z tSet tE size cells w b sn A c l∧¬K b∧AIn A (fun k=>¬K k)
section
variable {α:Type} {tSet tE size:Nat} {cells:α→List Value} {bb:Nat} {l l':List α}
theorem OSet.mine (h:OSet tSet tE size cells K w bb l) (hm:Mine ts K w w') (h1:tSet ∉ ts) (h2:tE ∉ ts):OSet tSet tE size cells K w' bb l:=by
 obtain ⟨sn,A,c,g1,g2,g3⟩:=h;exact ⟨sn,A,c,g1.only hm.only h1 h2,g2,g3⟩
theorem OSet.theirs {M:Nat→Prop} (h:OSet tSet tE size cells K w bb l) (hF:Fr M w w') (hM : ∀k,M k→K k) (hK : ∀k,K' k→K k∨w.heap.size≤k):OSet tSet tE size cells K' w' bb l:=by
 obtain ⟨sn,A,c,g1,g2,g3⟩:=h;have hl:=g1.lt;have hr:=g1.row_lt;refine ⟨sn,A,c,g1.fr hF (fun h=>g2 (hM _ h)) (fun a ha h=>g3 a ha (hM _ h)),fun h=>(hK _ h).elim g2 (fun h=>by omega),fun a ha h=>(hK _ h).elim (g3 a ha) (fun h=>by have:=hr a ha;omega)⟩
theorem OSet.moved {sn:Bool} {A:Option Addr} {sn':Bool} {A':Option Addr} {c':Nat} (hl : ∀k,K k→k<w.heap.size) (h1:Z1z tSet tE size cells w' bb sn' A' c' l') (hM:Z2w w sn A sn' A') (hb : ¬K bb) (hA:AIn A (fun k=>¬K k)):OSet tSet tE size cells K w' bb l':=by
 refine ⟨sn',A',c',h1,hb,?_⟩;rcases hM with ⟨_,rfl⟩ | ⟨_,g,hg,rfl⟩
 · exact hA
 · intro a ha hk
   cases ha;have:=hl _ hk;dsimp only at this;omega
end
abbrev Zcm:=OSet (α:=Int) 231 170 1 Bnum.cells
abbrev OPgR:=OSet (α:=PgR) 276 226 7 PgR.cells
abbrev OPgT:=OSet (α:=PgT) 281 240 15 PgT.cells
abbrev OSym:=OSet (α:=Sym) 203 38 3 Sym.cells
theorem Zhs {sb:Nat} {l:List Int} (k:Int) (h:Zcm K w sb l) (hs:Srt Z0k l) (hl : ∀k,K k→k<w.heap.size) (hn:(l.length:Int)≤100000000) :
 Calls Tryz.prog 108 #[.pointer (some ⟨sb,0,none⟩),.int .i64 k] w fun e w'=>e = .returned (.bool (!has Z0k l k))∧Zcm K w' sb (put Z0k l k)∧Mine [231,170] K w w':=by
 obtain ⟨sn,A,c,g1,g2,g3⟩:=h;refine (Zem sb c sn A l k w g1 hs hn).mono ?_;rintro e w' ⟨he,sn',A',c',h1,hF,hM⟩;exact ⟨he,OSet.moved hl h1 hM g2 g3,Mine.set_ g1 hF g2 g3⟩
theorem Zjq {sb:Nat} {l:List Sym} (x:Sym) (h:OSym K w sb l) (hs:Srt Z0r l) (hl : ∀k,K k→k<w.heap.size) (hn:(l.length:Int)≤100000000) :
 Calls Tryz.prog 88 #[.pointer (some ⟨sb,0,none⟩),.agg #[.int .i64 x.kind,.string x.text,.int .i64 x.n]] w fun e w'=>e = .returned (.bool (!has Z0r l x))∧OSym K w' sb (put Z0r l x)∧Mine [203,38] K w w':=by
 obtain ⟨sn,A,c,g1,g2,g3⟩:=h;refine (Zhx sb c sn A l x w g1 hs hn).mono ?_;rintro e w' ⟨he,sn',A',c',h1,hF,hM⟩;exact ⟨he,OSet.moved hl h1 hM g2 g3,Mine.set_ g1 hF g2 g3⟩
def Z9x (K:Nat→Prop) (w:World) (bm bp:Nat) (m:List PgR):Prop:=Blk w bm 228 #[.pointer (some ⟨bp,0,none⟩)]∧¬K bm∧OPgR K w bp m
def Z7t (K:Nat→Prop) (w:World) (bm bp:Nat) (m:List PgT):Prop:=Blk w bm 242 #[.pointer (some ⟨bp,0,none⟩)]∧¬K bm∧OPgT K w bp m
theorem Z9x.mine {bm bp:Nat} {m:List PgR} (h:Z9x K w bm bp m) (hm:Mine ts K w w') (h0:228 ∉ ts) (h1:276 ∉ ts) (h2:226 ∉ ts):Z9x K w' bm bp m:=⟨hm.only _ _ _ h0 h.1,h.2.1,h.2.2.mine hm h1 h2⟩
theorem Z7t.mine {bm bp:Nat} {m:List PgT} (h:Z7t K w bm bp m) (hm:Mine ts K w w') (h0:242 ∉ ts) (h1:281 ∉ ts) (h2:240 ∉ ts):Z7t K w' bm bp m:=⟨hm.only _ _ _ h0 h.1,h.2.1,h.2.2.mine hm h1 h2⟩
theorem Z9x.theirs {M:Nat→Prop} {bm bp:Nat} {m:List PgR} (h:Z9x K w bm bp m) (hF:Fr M w w') (hM : ∀k,M k→K k) (hK : ∀k,K' k→K k∨w.heap.size≤k):Z9x K' w' bm bp m:=
 ⟨h.1.fr hF (fun hm=>h.2.1 (hM _ hm)),fun hk=>(hK _ hk).elim h.2.1 (fun hk=>by have:=h.1.lt;omega),h.2.2.theirs hF hM hK⟩
theorem Z7t.theirs {M:Nat→Prop} {bm bp:Nat} {m:List PgT} (h:Z7t K w bm bp m) (hF:Fr M w w') (hM : ∀k,M k→K k) (hK : ∀k,K' k→K k∨w.heap.size≤k):Z7t K' w' bm bp m:=
 ⟨h.1.fr hF (fun hm=>h.2.1 (hM _ hm)),fun hk=>(hK _ hk).elim h.2.1 (fun hk=>by have:=h.1.lt;omega),h.2.2.theirs hF hM hK⟩
theorem Zlw {bm bp:Nat} {m:List PgR} (x:PgR) (h:Z9x K w bm bp m) (hs:Srt Z14 m) (hl : ∀k,K k→k<w.heap.size) (hn:(m.length:Int)≤1000000) (hh:has Z14 m x=false) :
 Calls Tryz.prog 109 #[.pointer (some ⟨bm,0,none⟩),.int .i64 x.kk,.agg #[.int .i64 x.num,.int .i64 x.level,.slice x.elems.A x.elems.n x.elems.c,.slice x.holes.A x.holes.n x.holes.c,.slice x.aparts.A x.aparts.n x.aparts.c,.slice x.news.A x.news.n x.news.c]] w fun e w'=>e = .returned (.bool true)∧Z9x K w' bm bp (put Z14 m x)∧Mine [276,226] K w w':=by
 obtain ⟨hb,hbk,sn,A,c,g1,g2,g3⟩:=h;refine (Zgr bm bp c sn A m x w hb g1 hs hn hh).mono ?_;rintro e w' ⟨he,sn',A',c',h1,hF,hM⟩;have hm:=Mine.set_ g1 hF g2 g3;exact ⟨he,⟨hm.only _ _ _ (by decide) hb,hbk,OSet.moved hl h1 hM g2 g3⟩,hm⟩
theorem Zlx {bm bp:Nat} {m:List PgT} (x:PgT) (h:Z7t K w bm bp m) (hs:Srt Z0q m) (hl : ∀k,K k→k<w.heap.size) (hn:(m.length:Int)≤1000000) (hh:has Z0q m x=false) :
 Calls Tryz.prog 114 #[.pointer (some ⟨bm,0,none⟩),.int .i64 x.kk,.agg #[.int .i64 x.tr.elem.id.kind,.string x.tr.elem.id.text,.int .i64 x.tr.elem.id.n,.int .i64 x.tr.elem.attr.kind,.string x.tr.elem.attr.text,.int .i64 x.tr.elem.attr.n,.int .i64 x.tr.elem.value.kind,.string x.tr.elem.value.text,.int .i64 x.tr.elem.value.n,.bool x.tr.elem.acc,.bool x.tr.elem.goal,.int .i64 x.tr.elem.tag,.int .i64 x.tr.level,.int .i64 x.tr.cause]] w fun e w'=>e = .returned (.bool true)∧Z7t K w' bm bp (put Z0q m x)∧Mine [281,240] K w w':=by
 obtain ⟨hb,hbk,sn,A,c,g1,g2,g3⟩:=h;refine (Zgs bm bp c sn A m x w hb g1 hs hn hh).mono ?_;rintro e w' ⟨he,sn',A',c',h1,hF,hM⟩;have hm:=Mine.set_ g1 hF g2 g3;exact ⟨he,⟨hm.only _ _ _ (by decide) hb,hbk,OSet.moved hl h1 hM g2 g3⟩,hm⟩
theorem Zlv {bm bp:Nat} {m:List PgT} (k:Int) (h:Z7t K w bm bp m) (hs:Srt Z0q m) (hn:(m.length:Int)≤1000000) :
 Calls Tryz.prog 113 #[.pointer (some ⟨bm,0,none⟩),.int .i64 k] w fun e w'=>∃y:Z09,e = .returned (.tuple #[.agg #[.int .i64 y.elem.id.kind,.string y.elem.id.text,.int .i64 y.elem.id.n,.int .i64 y.elem.attr.kind,.string y.elem.attr.text,.int .i64 y.elem.attr.n,.int .i64 y.elem.value.kind,.string y.elem.value.text,.int .i64 y.elem.value.n,.bool y.elem.acc,.bool y.elem.goal,.int .i64 y.elem.tag,.int .i64 y.level,.int .i64 y.cause],.bool (has Z0q m (zPgT k))])∧Below w.heap.size w w':=by
 obtain ⟨hb,hbk,sn,A,c,g1,g2,g3⟩:=h
 cases hh:has Z0q m (zPgT k) with
 | false=>
   refine (Zb8 bm bp c sn A m k w hb g1 hs hn hh).mono ?_;rintro e w' ⟨he,hB⟩;exact ⟨(zPgT 0).tr,he,hB⟩
 | true=>
   obtain ⟨_,_,hk,_⟩:=Zgz Z4d hs hh;refine (Zb7 bm bp c sn A m k m[rank Z0q m (zPgT k)] w hb g1 hs hn hh (Zmc hk)).mono ?_;rintro e w' ⟨he,hB⟩;exact ⟨_,he,hB⟩
structure Prot (B:Nat) (G:(Nat→Prop)→List Int→World→Prop) (K E:Nat→Prop) (done:List Int) (w:World):Prop where
 g:G E done w
 sub : ∀k,E k→K k
 low : ∀k,k<B→K k
 lt : ∀k,K k→k<w.heap.size
def Z6g (n:Nat) (K E:Nat→Prop) (w:World) (bm bp:Nat) (R:List KR):Prop:=∃m,Z9x K w bm bp m∧Srt Z14 m∧Z36 (Zgh n (fun j=>K j∧¬E j) w) R m
theorem Z6g.mine {n bm bp:Nat} {R:List KR} (h:Z6g n K E w bm bp R) (hm:Mine ts K w w') (h0:228 ∉ ts) (h1:276 ∉ ts) (h2:226 ∉ ts):Z6g n K E w' bm bp R:=by
 obtain ⟨m,g1,g2,g3⟩:=h;exact ⟨m,g1.mine hm h0 h1 h2,g2,g3.imp fun a b hr=>hr.keep hm.fr.size (fun k hk hl=>⟨hk,hm.fr.block k hl (fun h=>h hk.1)⟩)⟩
def Z7u (K:Nat→Prop) (w:World) (v:Value) (todo:List Int):Prop:=QRow w 3 1 v todo.length (todo.flatMap Int.cells1)∧∀k,v.ownBlock=some k→k<w.heap.size∧¬K k
theorem QRow.only {e:TypeId} {size n:Nat} {v:Value} {xs:List Value} (h:QRow w e size v n xs) (ho:Only ts w w') (he:e ∉ ts) (_:0<size):QRow w' e size v n xs:=by
 obtain ⟨A,cap,rfl,h1,h2,h3,h4,h5⟩:=h;refine ⟨A,cap,rfl,h1,h2,h3,h4,fun b hb=>?_⟩;obtain ⟨g1,g2,g3⟩:=h5 b hb;refine ⟨g1,g2.imp id (fun ⟨cur,hc,hz⟩=>⟨cur,ho _ _ _ he hc,hz⟩),fun j u hu=>?_⟩;rcases g2 with g2 | ⟨cur,hc,hz⟩
 · have:xs = []:=List.eq_nil_of_length_eq_zero (by rw [h3];have:n=0:=by omega
                                                   rw [this];omega)
   subst this;simp at hu
 · have:=g3 j u hu
   rw [hc.cell] at this;rw [(ho _ _ _ he hc).cell];exact this
theorem Z7u.mine {v:Value} {todo:List Int} (h:Z7u K w v todo) (hm:Mine ts K w w') (h1:3 ∉ ts):Z7u K w' v todo:=⟨h.1.only hm.only h1 (by decide),fun k hk=>⟨Zma (h.2 k hk).1 hm.fr.size,(h.2 k hk).2⟩⟩
theorem Z7u.theirs {M:Nat→Prop} {v:Value} {todo:List Int} (h:Z7u K w v todo) (hF:Fr M w w') (hM : ∀k,M k→K k) (hK : ∀k,K' k→K k∨w.heap.size≤k):Z7u K' w' v todo:=
 ⟨h.1.keep hF (fun k hk hm=>(h.2 k hk).2 (hM k hm)) (fun k hk=>(h.2 k hk).1),fun k hk=>⟨Zma (h.2 k hk).1 hF.size,fun hq=>(hK k hq).elim (h.2 k hk).2 (fun hq=>by have:=(h.2 k hk).1;omega)⟩⟩
end
section
variable {ts:List Nat} {n B gf:Nat} {lb:Array Value} {look:Int→Z0d×Bool} {G:(Nat→Prop)→List Int→World→Prop} {K E:Nat→Prop} {done todo:List Int} {w w':World} {sb bm bp:Nat} {v:Value}
theorem Prot.mine (hf:Z4e n B gf lb look G) (h:Prot B G K E done w) (hm:Mine ts K w w'):Prot B G K E done w':=
 ⟨hf.steady h.g hm.fr (fun k hk=>⟨fun he=>hk (h.sub k he),Nat.le_of_not_lt fun hl=>hk (h.low k hl)⟩),h.sub,h.low,fun k hk=>Zma (h.lt k hk) hm.fr.size⟩
structure St1 (n B:Nat) (look:Int→Z0d×Bool) (G:(Nat→Prop)→List Int→World→Prop) (K E:Nat→Prop) (done todo:List Int) (sb bm bp:Nat) (v:Value) (w:World):Prop where
 p:Prot B G K E done w
 s:Zcm K w sb (puts Z0k [] done)
 m:Z6g n K E w bm bp (Z30 look done)
 q:Z7u K w v todo
theorem St1.new_ (hf:Z4e n B gf lb look G) (h:St1 n B look G K E done todo sb bm bp v w) (hb:Below w.heap.size w w'):St1 n B look G K E done todo sb bm bp v w':=
 have hm:Mine [] K w w':=Mine.new_ hb
 ⟨h.p.mine hf hm,h.s.mine hm (by simp) (by simp),h.m.mine hm (by simp) (by simp) (by simp),h.q.mine hm (by simp)⟩
end
section
variable {n B gf:Nat} {lb:Array Value} {look:Int→Z0d×Bool} {G:(Nat→Prop)→List Int→World→Prop} {K E E':Nat→Prop} {done todo:List Int} {w w':World} {sb bm bp:Nat} {v:Value} {k:Int}
theorem Zdn {K:Nat→Prop} {w w':World} : ∀j,Plus K w w' j→K j∨w.heap.size≤j:=fun _ hj=>hj.imp id (fun h=>h.1)
theorem St1.seen (hf:Z4e n B gf lb look G) (h:St1 n B look G K E done todo sb bm bp v w) (hs:Zcm K w' sb (put Z0k (puts Z0k [] done) k)) (hm:Mine [231,170] K w w') :
 Prot B G K E done w'∧Zcm K w' sb (puts Z0k [] (done ++ [k]))∧Z6g n K E w' bm bp (Z30 look done)∧Z7u K w' v todo:=
 ⟨h.p.mine hf hm,by rw [Z2q];exact hs,h.m.mine hm (by decide) (by decide) (by decide),h.q.mine hm (by decide)⟩
theorem St1.found (hE : ∀j,E j→K j) (hp:Prot B G K E done w) (hs:Zcm K w sb (puts Z0k [] (done ++ [k]))) (hm:Z6g n K E w bm bp (Z30 look done)) (hq:Z7u K w v todo)
 (g1:G E' (done ++ [k]) w') (g2 : ∀j,E' j→Plus E w w' j) (g3:Fr E w w') :
 Prot B G (Plus K w w') E' (done ++ [k]) w'∧Zcm (Plus K w w') w' sb (puts Z0k [] (done ++ [k]))∧Z6g n (Plus K w w') E' w' bm bp (Z30 look done)∧Z7u (Plus K w w') w' v todo:=by
 refine ⟨⟨g1,fun j hj=>(g2 j hj).imp (hE j) id,fun j hj=>.inl (hp.low j hj),fun j hj=>?_⟩,hs.theirs g3 hE Zdn,?_,hq.theirs g3 hE Zdn⟩
 · rcases hj with hj | hj
   · exact Zma (hp.lt j hj) g3.size
   · exact hj.2
 · obtain ⟨m,h1,h2,h3⟩:=hm
   refine ⟨m,h1.theirs g3 hE Zdn,h2,h3.imp fun a b hr=>hr.keep g3.size (fun j hj hl=>⟨⟨.inl hj.1,fun he=>?_⟩,g3.block j hl hj.2⟩)⟩;rcases g2 j he with h | h
   · exact hj.2 h
   · omega
theorem Zg1 {R:List KR} {r:Z0d} {A1:Option Addr} {c1:Nat} {A2:Option Addr} {c2:Nat} {A3:Option Addr} {c3:Nat} {A4:Option Addr} {c4:Nat} (hm:Z6g n K E w bm bp R) (hl : ∀k,K k→k<w.heap.size) (hR:R.length≤100000) (hh:has Z5j R (k,r)=false)
 (hr:Z78 n (fun j=>K j∧¬E j) w r A1 c1 A2 c2 A3 c3 A4 c4) :
 Calls Tryz.prog 109 #[.pointer (some ⟨bm,0,none⟩),.int .i64 k,.agg #[.int .i64 r.num,.int .i64 r.level,.slice A1 r.elems.length c1,.slice A2 r.holes.length c2,.slice A3 r.aparts.length c3,.slice A4 r.news.length c4]] w fun e w'=>e = .returned (.bool true)∧Z6g n K E w' bm bp (put Z5j R (k,r))∧Mine [276,226] K w w':=by
 obtain ⟨m,h1,h2,h3⟩:=hm;have hrel:Zgh n (fun j=>K j∧¬E j) w (k,r) ⟨k,r.num,r.level,⟨A1,r.elems.length,c1⟩,⟨A2,r.holes.length,c2⟩,⟨A3,r.aparts.length,c3⟩,⟨A4,r.news.length,c4⟩⟩:=⟨rfl,rfl,rfl,rfl,rfl,rfl,rfl,hr⟩;obtain ⟨p1,p2⟩:=Z36.put (fun a b h=>h.1) h3 hrel;rw [hh] at p1;have hml:=h3.length;refine (Zlw ⟨k,r.num,r.level,⟨A1,r.elems.length,c1⟩,⟨A2,r.holes.length,c2⟩,⟨A3,r.aparts.length,c3⟩,⟨A4,r.news.length,c4⟩⟩ h1 h2 hl (by omega) p1.symm).mono ?_;rintro e w' ⟨he,g1,g2⟩;exact ⟨he,⟨_,g1,h2.put Z5n _,p2.imp fun a b hr=>hr.keep g2.fr.size (fun j hj hl=>⟨hj,g2.fr.block j hl (fun h=>h hj.1)⟩)⟩,g2⟩
end
end
section
open Go.RowKit Go.Shelf
attribute [local go_sem] Oper.semAt_some
def Z0w (lv:Int) (l:List Z09) (k:Nat):List Int:=((l.take k).filter fun e=>decide (lv≤e.level) && decide (0<e.cause)).map Z09.cause
theorem Z6u (lv:Int) (l:List Z09):Z0w lv l 0 = []:=by simp [Z0w]
theorem Z7q (lv:Int) (r:Z0d):Z0w lv r.elems r.elems.length=Z5l lv r:=by simp [Z0w,Z5l]
theorem Zc5 {lv:Int} {l:List Z09} {k:Nat} (hk:k<l.length) (h1:lv≤l[k].level) (h2:0<l[k].cause):Z0w lv l (k+1)=Z0w lv l k ++ [l[k].cause]:=by
 unfold Z0w;rw [← Z2d hk,List.filter_append,Znd];simp [h1,h2]
theorem Z8r {lv:Int} {l:List Z09} {k:Nat} (hk:k<l.length) (h : ¬(lv≤l[k].level∧0<l[k].cause)):Z0w lv l (k+1)=Z0w lv l k:=by
 unfold Z0w;rw [← Z2d hk,List.filter_append,Znd]
 have:(decide (lv≤l[k].level) && decide (0<l[k].cause))=false:=by
  simp only [Bool.and_eq_false_iff,decide_eq_false_iff_not];rcases Classical.em (lv≤l[k].level) with h3 | h3
  · exact .inr (fun h4=>h ⟨h3,h4⟩)
  · exact .inl h3
 simp [this]
end
section
open Go.RowKit
def pg (e:Z09):PgT:=⟨e.elem.tag,e⟩
def Z3b (lv:Int) (l:List Z09) (m:Nat):List Z09:=((l.take m).filter fun e=>decide (e.level<lv)).map bare
theorem Zd0 (lv:Int) (l:List Z09):Z3b lv l 0 = []:=by simp [Z3b]
theorem Zft (lv:Int) (r:Z0d):Z3b lv r.elems r.elems.length=lows lv r:=by simp [Z3b,lows]
theorem Zfv {lv:Int} {l:List Z09} {k:Nat} (hk:k<l.length) (h1:l[k].level<lv):Z3b lv l (k+1)=Z3b lv l k ++ [bare l[k]]:=by
 unfold Z3b;rw [← Z2d hk,List.filter_append,Znd];simp [h1]
theorem Zhf {lv:Int} {l:List Z09} {k:Nat} (hk:k<l.length) (h : ¬l[k].level<lv):Z3b lv l (k+1)=Z3b lv l k:=by
 unfold Z3b;rw [← Z2d hk,List.filter_append,Znd];simp [h]
theorem Zfu (lv:Int) (l:List Z09) (m:Nat):(Z3b lv l m).length≤l.length:=by
 unfold Z3b;rw [Znm];exact Zmk (List.length_filter_le _ _) (by simp;omega)
def gpg (lv:Int) (R:List KR):List PgT:=puts Z0q [] ((R.flatMap fun p=>lows lv p.2).map pg)
theorem Zib (lv:Int) (R:List KR):Srt Z0q (gpg lv R):=Srt.puts Z4d _ Srt.nil
theorem Zj3 (lv:Int) (R:List KR) (p:KR):gpg lv (R ++ [p])=puts Z0q (gpg lv R) ((lows lv p.2).map pg):=by
 unfold gpg puts;rw [Zmq,Znd,List.foldl_append];simp
theorem Z8g {α β:Type} (f:α→List β) (N:Nat) : ∀(l:List α),(∀x∈l,(f x).length≤N)→(l.flatMap f).length≤N*l.length
 | [],_=>by simp
 | x :: l,h=>by
   have h1:=h x (by simp);have h2:=Z8g f N l (fun y hy=>h y (by simp [hy]));rw [Zn7,Zmd,Zmp,Nat.mul_add];omega
theorem Zhd {lv:Int} {R:List KR} (h : ∀p∈R,p.2.elems.length≤1000):(gpg lv R).length≤1000*R.length:=by
 have h1:=Z12 Z4d ((R.flatMap fun p=>lows lv p.2).map pg) (l:=[]) Srt.nil
 have h2:=Z8g (fun p:KR=>lows lv p.2) 1000 R (fun p hp=>by
  have:=h p hp;unfold lows;rw [Znm]
  exact Zmk (List.length_filter_le _ _) this)
 simp only [Znc,Znm] at h1;unfold gpg;omega
theorem Zkk {α β:Type} (f:α→β) (p:β→Bool) (l:List α):(l.map f).any p=l.any fun x=>p (f x):=by induction l<;>simp_all
theorem Zla (l:List Z09) (e:Z09):put Z0q (l.map pg) (pg e)=(put Ze0 l e).map pg:=by
 (have h1:has Z0q (l.map pg) (pg e)=has Ze0 l e:=by unfold has;rw [Zkk];rfl);unfold put;rw [h1]
 split
 · rfl
 · unfold below Z43
   rw [List.filter_map,List.filter_map,Znd,List.map_cons];rfl
theorem Zka (lv:Int) (R:List KR):gpg lv R=(Z5k lv R).map pg:=by
 unfold gpg Z5k puts;generalize (R.flatMap fun p=>lows lv p.2)=L
 have : ∀(L:List Z09) (l:List Z09),(L.map pg).foldl (put Z0q) (l.map pg)=(L.foldl (put Ze0) l).map pg:=by
  intro L
  induction L with
  | nil=>intro l;rfl
  | cons e L ih=>intro l;rw [List.map_cons,List.foldl_cons,List.foldl_cons,Zla,ih]
 exact this L []
theorem Zd7 (R:List KR) (p:KR):Z2z (R ++ [p])=p.2.news.foldl once (Z2z R):=by
 unfold Z2z;rw [Zmq,List.foldl_append];simp
theorem Zbt {done l:List Sym} {k:Sym}:k∈puts Z0r l done↔k∈l∨k∈done:=by
 induction done generalizing l with
 | nil=>simp [puts]
 | cons x done ih=>
   have e:puts Z0r l (x :: done)=puts Z0r (put Z0r l x) done:=rfl;rw [e,ih,Zms]
   have hp:k∈put Z0r l x↔k∈l∨k=x:=by
    constructor
    · exact Zd2
    · intro h
      unfold put
      split
      · rename_i hh
        rcases h with h | h
        · exact h
        · obtain ⟨y,hy,e⟩:=Z4w.1 hh
          rw [h,← Z89.1 e];exact hy
      · rename_i hh
        simp only [Znh,Zms];rcases h with h | h
        · have:=Z38.1 (by simpa using hh) k h
          rcases Int.lt_trichotomy (Z0r k x) 0 with h2 | h2 | h2
          · exact .inl (Z3r.2 ⟨h,h2⟩)
          · exact absurd h2 this
          · exact .inr (.inr (Z3q.2 ⟨h,h2⟩))
        · exact .inr (.inl h)
   rw [hp];constructor
   · rintro ((h | h) | h)
     · exact .inl h
     · exact .inr (.inl h)
     · exact .inr (.inr h)
   · rintro (h | h | h)
     · exact .inl (.inl h)
     · exact .inl (.inr h)
     · exact .inr h
theorem Z8i (l:List Sym) (k:Sym):has Z0r (puts Z0r [] l) k=decide (k∈l):=by
 by_cases h:k∈l
 · rw [Zmb h]
   exact Z4w.2 ⟨k,Zbt.2 (.inr h),Z89.2 rfl⟩
 · rw [Zm9 h,Z38]
   intro y hy e;rcases Zbt.1 hy with h2 | h2
   · cases h2
   · exact h (by rw [← Z89.1 e];exact h2)
theorem Zej (L l:List Sym):(L.foldl once l).length≤l.length+L.length:=by
 induction L generalizing l with
 | nil=>simp
 | cons s L ih=>
   rw [List.foldl_cons];have:=ih (once l s);(have h2:(once l s).length≤l.length+1:=by unfold once;split<;>simp);simp only [Zmp];omega
theorem Zjc {R:List KR} (h : ∀p∈R,p.2.news.length≤1000):(Z2z R).length≤1000*R.length:=by
 have h1:=Zej (R.flatMap fun p=>p.2.news) [];have h2:=Z8g (fun p:KR=>p.2.news) 1000 R h;unfold Z2z;simp only [Znc] at h1;omega
def Zf5 {α:Type} (r:RepT α):Prop:=∀{D:Nat→Prop} {w:World} {a:α} {cs:List Value},r.rep D w a cs→r.rep (fun k=>D k∧Z1v w k) w a cs
theorem RowR.solid {α:Type} {r:RepT α} (hs:Zf5 r) (h0:0<r.size) {D:Nat→Prop} {w:World} {A:Option Addr} {c:Nat} {l:List α} (h:RowR r D w A c l):RowR r (fun k=>D k∧Z1v w k) w A c l:=by
 refine ⟨h.1,h.2.1,fun hl=>?_⟩;obtain ⟨b,off,h1,h2,h3,h4⟩:=h.2.2 hl;refine ⟨b,off,h1,⟨h2,?_⟩,h3,fun k hk=>?_⟩
 · obtain ⟨cs,g1,g2⟩:=h4 0 hl
   have hlen:=r.len g1;have:=g2 0 cs[0] (Zmc (by omega));exact Zgu this
 · obtain ⟨cs,g1,g2⟩:=h4 k hk
   exact ⟨cs,hs g1,g2⟩
theorem Z9q {α:Type} (size:Nat) (cells:α→List Value) (h : ∀a,(cells a).length=size):Zf5 (RepT.flat size cells h):=fun h=>h
theorem Z5u:Zf5 Z01:=by
 rintro D w a cs ⟨A1,c1,h0,h1⟩;exact ⟨A1,c1,h0,h1.solid (Z9q _ _ _) (by decide)⟩
theorem Zdu {n:Nat} (ih:Zf5 (Z05 n)):Zf5 (Z05 (n+1)):=by
 rintro D w a cs ⟨A1,c1,A2,c2,A3,c3,h0,h1,h2,h3⟩;exact ⟨A1,c1,A2,c2,A3,c3,h0,h1.solid Z5u (by decide),h2.solid Z5u (by decide),h3.solid ih (by rw [Z1y];decide)⟩
theorem Zgb (n:Nat):Zf5 (Z05 n):=by
 induction n with
 | zero=>intro D w a cs h;exact h.elim
 | succ n ih=>exact Zdu ih
end
end Go.Proofs.YtfidcfjcmlgkbaaGreat
