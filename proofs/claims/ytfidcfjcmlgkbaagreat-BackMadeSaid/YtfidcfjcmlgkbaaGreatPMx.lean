/-
  Texts put together: BkAllPgT, BkGetPgT, BkState, BkWalkP, BkPlain2, BkState2, BkState3, BkWalk.
-/
import Derived.Test.YtfidcfjcmlgkbaaGreatPMw
namespace Go.Proofs.YtfidcfjcmlgkbaaGreat
open Lib (hid)
set_option maxRecDepth 100000
set_option maxHeartbeats 32000000
set_option linter.unusedSimpArgs false
section
open Go.RowKit Go.Shelf
attribute [local go_sem] Oper.semAt_some
def Zav (x:PgT):Array Value:=#[.int .i64 x.kk,.agg #[.int .i64 x.tr.elem.id.kind,.string x.tr.elem.id.text,.int .i64 x.tr.elem.id.n,.int .i64 x.tr.elem.attr.kind,.string x.tr.elem.attr.text,.int .i64 x.tr.elem.attr.n,.int .i64 x.tr.elem.value.kind,.string x.tr.elem.value.text,.int .i64 x.tr.elem.value.n,.bool x.tr.elem.acc,.bool x.tr.elem.goal,.int .i64 x.tr.elem.tag,.int .i64 x.tr.level,.int .i64 x.tr.cause]]
theorem Zfr (kb c:Nat) (sn:Bool) (A:Option Addr) (bm bp:Nat) (l:List PgT) (W:World) (hbox:W.cell? ⟨kb,0,none⟩=some (.pointer (some ⟨bm,0,none⟩))) (hB:Blk W bm 242 #[.pointer (some ⟨bp,0,none⟩)]) (hS:Z2l W bp sn A c l) :
 Zgt Tryz.prog 161 #[.pointer (some ⟨kb,0,none⟩)] Zav l W (Z1k bp) (Z10 A):=by
 intro lo J Jx hJ hJx h0 hY;have hbsl:=hS.lt;have hkb:=Znx W _ hbox;have hAl:=hS.row_lt;have s1:=(hB.cell 0).trans rfl;have hbl:=hB.lt;have HJ:=hid hJ;have HJx:=hid hJx;have H0:=hid h0;have HY:=hid hY;have HS:=hid hS;have HA:=hid hAl;clear hJ hJx h0 hY hS hB hAl;refine callsIn_of_wp_marks Tryz.func161 rfl trivial ?_;simp only [Tryz.ntmps161,Zoy,Zo4,Zon,Nat.reduceAdd,Nat.reduceSub,Zos,Zot,Zox,Zov,Zo3,Zog];(gi_wp2_with fail);refine ⟨trivial,rfl,?_⟩;obtain ⟨W0,hW0⟩:∃W0,W0=W.alloc (.cells #[.func (.yield lo) #[] #[]] 183):=⟨_,rfl⟩;(have hb0:Below W.heap.size W W0:=by rw [hW0];exact (Znk _ _).alloc (Znl _) _);(have hY0:Blk W0 W.heap.size 183 #[.func (.yield lo) #[] #[]]:=by rw [hW0];exact Blk.new _ _ _);rw [←hW0];clear hW0;refine (callsIn_wide.2 (Zi5 bp W0)).mono ?_;rintro e w3 ⟨rfl,hb3,hbox3⟩;have hz0:=hY0.lt;have hz3:=hb3.size;have hY3:=(hY0.new_ hb3);have hB3:Below W.heap.size W w3:=hb0.trans (hb3.mono hb0.size);have hSQ:=Zed W0.heap.size bp _ _ _ l w3 hbox3 (HS.out.new_ hB3);have HSQ:=hid hSQ;have HY3:=hid hY3;have HB3:=hid hB3;clear hb0 hY0 hb3 hbox3 hSQ hY3 hB3 s1;(gi_wp2_with fail);obtain ⟨I,hI⟩:∃I:World→List PgT→World→Prop,I=fun F p X=>(Z1k bp W F∧F.heap.size≤X.heap.size∧W.heap.size<F.heap.size)∧J F p X∧X.cell? ⟨W.heap.size,0,none⟩=some (.func (.yield lo) #[] #[]):=⟨_,rfl⟩;obtain ⟨Ix,hIx⟩:∃Ix:World→Code→List PgT→World→Prop,Ix=fun F c p X=>c = .ret∧Z1k bp W F∧Jx F p X:=⟨_,rfl⟩;refine Z5i (w:=w3) (by rfl) HSQ.out.enter HSQ.out.p.iter (fun x=>by rfl) HSQ.out.trans HSQ.out.keep (fun W W1 h=>Z3g (HSQ.out.mods W W1 h)) I Ix ?_ ?_ ?_ ?_ ?_ ?_
 · subst hI
   rintro F p X Y ⟨g0,g1,g2⟩ hp;exact ⟨⟨g0.1,Zo2 g0.2.1 hp.size,g0.2.2⟩,HJ.out F p X Y g1 (hp.mono (by omega)),Z6z g2 hp⟩
 · subst hIx
   rintro F c p X Y ⟨g0,g1,g2⟩ hp;exact ⟨g0,g1,HJx.out F p X Y g2 (hp.mono (by omega))⟩
 · intro X F hX hs
   subst hI;have hs2:=hs.from_ (HB3.out.trans (hX.mono (by omega)));have hs3:=hs.size;have hx3:=hX.size;refine ⟨⟨hs2,Znl _,by omega⟩,H0.out F hs2,?_⟩;have hy:=HY3.out.new_ hX;exact ((hs.fr.cell (p:=⟨W.heap.size,0,none⟩) hy.lt (fun e=>by dsimp only at e;omega)).trans ((hy.cell 0).trans rfl))
 · intro F lo2 pre x post X hx hlo hIW
   have HX:=hid hx;clear hx;rw [hI] at hIW;obtain ⟨⟨hst,hfx,hwf⟩,hJ1,hyc⟩:=hIW;have HI:=hid hI;have HIx:=hid hIx;have HST:=hid hst;have HJ1:=hid hJ1;have hyl:=Znx X _ hyc;clear hI hIx hst hJ1;simp only [Zc3,Array.zip];(gi_wp2_with fail);have hJ2:=HJ.out F pre X _ HJ1.out ((Priv.refl W.heap.size X).alloc (.cells #[.int .i64 x.kk,.int .i64 x.tr.elem.id.kind,.string x.tr.elem.id.text,.int .i64 x.tr.elem.id.n,.int .i64 x.tr.elem.attr.kind,.string x.tr.elem.attr.text,.int .i64 x.tr.elem.attr.n,.int .i64 x.tr.elem.value.kind,.string x.tr.elem.value.text,.int .i64 x.tr.elem.value.n,.bool x.tr.elem.acc,.bool x.tr.elem.goal,.int .i64 x.tr.elem.tag,.int .i64 x.tr.level,.int .i64 x.tr.cause] 240));have hb9:Below X.heap.size X (X.alloc (.cells #[.int .i64 x.kk,.int .i64 x.tr.elem.id.kind,.string x.tr.elem.id.text,.int .i64 x.tr.elem.id.n,.int .i64 x.tr.elem.attr.kind,.string x.tr.elem.attr.text,.int .i64 x.tr.elem.attr.n,.int .i64 x.tr.elem.value.kind,.string x.tr.elem.value.text,.int .i64 x.tr.elem.value.n,.bool x.tr.elem.acc,.bool x.tr.elem.goal,.int .i64 x.tr.elem.tag,.int .i64 x.tr.level,.int .i64 x.tr.cause] 240)):=(Znk _ _).alloc (Znl _) _;have hyc2:=(hb9.cell (p:=⟨W.heap.size,0,none⟩) hyl).trans hyc;have hx9:Blk (X.alloc (.cells #[.int .i64 x.kk,.int .i64 x.tr.elem.id.kind,.string x.tr.elem.id.text,.int .i64 x.tr.elem.id.n,.int .i64 x.tr.elem.attr.kind,.string x.tr.elem.attr.text,.int .i64 x.tr.elem.attr.n,.int .i64 x.tr.elem.value.kind,.string x.tr.elem.value.text,.int .i64 x.tr.elem.value.n,.bool x.tr.elem.acc,.bool x.tr.elem.goal,.int .i64 x.tr.elem.tag,.int .i64 x.tr.level,.int .i64 x.tr.cause] 240)) X.heap.size 240 #[.int .i64 x.kk,.int .i64 x.tr.elem.id.kind,.string x.tr.elem.id.text,.int .i64 x.tr.elem.id.n,.int .i64 x.tr.elem.attr.kind,.string x.tr.elem.attr.text,.int .i64 x.tr.elem.attr.n,.int .i64 x.tr.elem.value.kind,.string x.tr.elem.value.text,.int .i64 x.tr.elem.value.n,.bool x.tr.elem.acc,.bool x.tr.elem.goal,.int .i64 x.tr.elem.tag,.int .i64 x.tr.level,.int .i64 x.tr.cause]:=Blk.new _ _ _;(have hx3:w3.heap.size≤X.heap.size∨X.heap.size<w3.heap.size:=by omega);have hrk9:Z10 A X (X.alloc (.cells #[.int .i64 x.kk,.int .i64 x.tr.elem.id.kind,.string x.tr.elem.id.text,.int .i64 x.tr.elem.id.n,.int .i64 x.tr.elem.attr.kind,.string x.tr.elem.attr.text,.int .i64 x.tr.elem.attr.n,.int .i64 x.tr.elem.value.kind,.string x.tr.elem.value.text,.int .i64 x.tr.elem.value.n,.bool x.tr.elem.acc,.bool x.tr.elem.goal,.int .i64 x.tr.elem.tag,.int .i64 x.tr.level,.int .i64 x.tr.cause] 240)):=Z10.of_priv HA.out (((Priv.refl W.heap.size X).alloc _));refine ⟨Kept.new_ hb9 hfx,fun X2 hp2 hz2 _ _=>?_⟩;have hJ3:=HJ.out F pre _ X2 hJ2 (hp2.mono (by omega));have hyc3:=Z6z hyc2 hp2;have hx2:=hx9.priv hp2;have x0:X2.cell? ⟨X.heap.size,0,none⟩=some (.int .i64 x.kk):=(hx2.cell 0).trans rfl;have x1:X2.cell? ⟨X.heap.size,1,none⟩=some (.int .i64 x.tr.elem.id.kind):=(hx2.cell 1).trans rfl;have x2:X2.cell? ⟨X.heap.size,2,none⟩=some (.string x.tr.elem.id.text):=(hx2.cell 2).trans rfl;have x3:X2.cell? ⟨X.heap.size,3,none⟩=some (.int .i64 x.tr.elem.id.n):=(hx2.cell 3).trans rfl;have x4:X2.cell? ⟨X.heap.size,4,none⟩=some (.int .i64 x.tr.elem.attr.kind):=(hx2.cell 4).trans rfl;have x5:X2.cell? ⟨X.heap.size,5,none⟩=some (.string x.tr.elem.attr.text):=(hx2.cell 5).trans rfl;have x6:X2.cell? ⟨X.heap.size,6,none⟩=some (.int .i64 x.tr.elem.attr.n):=(hx2.cell 6).trans rfl;have x7:X2.cell? ⟨X.heap.size,7,none⟩=some (.int .i64 x.tr.elem.value.kind):=(hx2.cell 7).trans rfl;have x8:X2.cell? ⟨X.heap.size,8,none⟩=some (.string x.tr.elem.value.text):=(hx2.cell 8).trans rfl;have x9:X2.cell? ⟨X.heap.size,9,none⟩=some (.int .i64 x.tr.elem.value.n):=(hx2.cell 9).trans rfl;have x10:X2.cell? ⟨X.heap.size,10,none⟩=some (.bool x.tr.elem.acc):=(hx2.cell 10).trans rfl;have x11:X2.cell? ⟨X.heap.size,11,none⟩=some (.bool x.tr.elem.goal):=(hx2.cell 11).trans rfl;have x12:X2.cell? ⟨X.heap.size,12,none⟩=some (.int .i64 x.tr.elem.tag):=(hx2.cell 12).trans rfl;have x13:X2.cell? ⟨X.heap.size,13,none⟩=some (.int .i64 x.tr.level):=(hx2.cell 13).trans rfl;have x14:X2.cell? ⟨X.heap.size,14,none⟩=some (.int .i64 x.tr.cause):=(hx2.cell 14).trans rfl;have hrk2:Z10 A X X2:=hrk9.trans (Z10.of_priv HA.out (hp2.mono (B:=W.heap.size) (by omega)));have HRK:=hid hrk2;(have hfx2:F.heap.size≤X2.heap.size:=by omega);have hxl2:=hx2.lt
   obtain ⟨fn,tmps,assign,body,hy,hR⟩:=HY.out F pre x post X2 HST.out HX.out hJ3;dsimp only [Zav] at hy;have HRR:=hid hR;have hyl2:=Znx X2 _ hyc3;have HYC3:=hid hyc3;clear hR hJ2 hb9 hyc2 hx9 hx3 hrk9 hp2 hJ3 hx2 hrk2 hyc;(gi_wp2_with fail);refine ⟨rfl,HRR.out.mono ?_⟩;rintro e W3 (⟨rfl,hJ3,hk3,hkept⟩|⟨rfl,hJx3,hkept⟩)
   · have HJ3:=hid hJ3
     have HK3:=hid hk3;have HKE:=hid hkept;clear hJ3 hk3 hkept hy x0 x1 x2 x3 x4 x5 x6 x7 x8 x9 x10 x11 x12 x13 x14 hyc3;gi_wp2;have hI:=HI.out;subst hI;refine ⟨HKE.out.up (by omega),HRK.out.trans HK3.out,⟨HST.out,Zo2 hfx2 HK3.out.1,hwf⟩,HJ3.out,?_⟩;exact (World.cell?_of_block (a:=⟨W.heap.size,0,none⟩) (HKE.out.own _ (Znl _) hwf)).trans HYC3.out
   · have HJ3:=hid hJx3
     have HKE:=hid hkept;clear hJx3 hkept hy x0 x1 x2 x3 x4 x5 x6 x7 x8 x9 x10 x11 x12 x13 x14 hyc3;gi_wp2;have hIx:=HIx.out;subst hIx;exact ⟨HKE.out.up (by omega),rfl,HST.out,HJ3.out⟩
 · intro F D X hD hIW hK
   subst hI;obtain ⟨⟨hst,_,_⟩,hJ1,_⟩:=hIW;have HST:=hid hst;have HJ1:=hid hJ1;have HK:=hid hK;clear hst hJ1 hK hIx;(gi_wp2_with fail);refine ⟨by simp,.inl ⟨_,_,rfl,run_takeDeferred HK.out,?_⟩⟩;have hpv:Priv W.heap.size X (X.putObj D (.deferred none)):=(Priv.refl _ _).putObj (by omega) HK.out rfl _;exact ⟨_,results_none rfl _ _ _,⟨_,rfl⟩,F,HST.out,.inl (HJ.out F _ _ _ HJ1.out hpv)⟩
 · intro F D c pre post X hD hx hIW hK
   subst hIx;obtain ⟨rfl,hst,hJ1⟩:=hIW;have HST:=hid hst;have HJ1:=hid hJ1;have HK:=hid hK;have HX:=hid hx;clear hst hJ1 hK hI hx;(gi_wp2_with fail);refine ⟨by simp,.inl ⟨_,_,rfl,run_takeDeferred HK.out,?_⟩⟩;have hpv:Priv W.heap.size X (X.putObj D (.deferred none)):=(Priv.refl _ _).putObj (by omega) HK.out rfl _;exact ⟨_,results_none rfl _ _ _,⟨_,rfl⟩,F,HST.out,.inr ⟨pre,post,HX.out,HJx.out F _ _ _ HJ1.out hpv⟩⟩
theorem Zj1 (kb c:Nat) (sn:Bool) (A:Option Addr) (bm bp:Nat) (l:List PgT) (w:World) (hbox:w.cell? ⟨kb,0,none⟩=some (.pointer (some ⟨bm,0,none⟩))) (hB:Blk w bm 242 #[.pointer (some ⟨bp,0,none⟩)]) (hS:Z2l w bp sn A c l) :
 SeqP 161 #[.pointer (some ⟨kb,0,none⟩)] Zav l w (Z1k bp) (Z10 A):=
 ⟨by intro args w;kernel_rfl,fun W hW=>Zfr kb c sn A bm bp l W ((hW.cell (Znx _ _ hbox)).trans hbox) (hB.new_ hW) (hS.new_ hW),fun _ _ _=>Z10.trans,fun _ _=>Z10.of_priv hS.row_lt,fun _ _=>Z10.of_below hS.row_lt,fun _ _ h=>h.fr.mono (fun k _ hk=>by subst hk;exact hS.lt)⟩
end
section
open Go.RowKit
theorem Zbv (bm bp cc:Nat) (sn:Bool) (A:Option Addr) (m:List PgT) (k:Int) (w:World) (hM:Blk w bm 242 #[.pointer (some ⟨bp,0,none⟩)]) (hS:Z2l w bp sn A cc m) (hs:Srt Z0t m) (hl:(m.length:Int)≤1000000) (hh:has Z0t m (zPgT k)=false) :
 Calls Tryz.prog 113 #[.pointer (some ⟨bm,0,none⟩),.int .i64 k] w fun e w'=>e = .returned (.tuple #[.agg #[.int .i64 0,.string ⟨#[]⟩,.int .i64 0,.int .i64 0,.string ⟨#[]⟩,.int .i64 0,.int .i64 0,.string ⟨#[]⟩,.int .i64 0,.bool false,.bool false,.int .i64 0,.int .i64 0,.int .i64 0],.bool false])∧Below w.heap.size w w':=by
 have s0:=hM.c1;have hml:=hM.lt;have HS:=hid hS;have HO:=hid hs;have HM:=hid hM;have HH:=hid hh;clear hS hs hM hh;go_enter Tryz.func113,Tryz.ntmps113;(go_upto_region 4 with (fail));obtain ⟨W0,hW0⟩:∃W0,W0=w.alloc (.cells #[.int .i64 0,.string ⟨#[]⟩,.int .i64 0,.int .i64 0,.string ⟨#[]⟩,.int .i64 0,.int .i64 0,.string ⟨#[]⟩,.int .i64 0,.bool false,.bool false,.int .i64 0,.int .i64 0,.int .i64 0] 64):=⟨_,rfl⟩;(have hB0:Below w.heap.size w W0:=by rw [hW0];exact (Znk _ _).alloc (Znl _) _);(have hbx:Blk W0 w.heap.size 64 #[.int .i64 0,.string ⟨#[]⟩,.int .i64 0,.int .i64 0,.string ⟨#[]⟩,.int .i64 0,.int .i64 0,.string ⟨#[]⟩,.int .i64 0,.bool false,.bool false,.int .i64 0,.int .i64 0,.int .i64 0]:=by rw [hW0];exact Blk.new _ _ _);have hz0:w.heap.size<W0.heap.size:=hbx.lt;rw [←hW0];clear hW0;have s1:=(hB0.cell (p:=⟨bm,0,none⟩) hml).trans s0;clear s0;have HS0:=hid (HS.out.new_ hB0);have HX0:=hid hbx;have HB0:=hid hB0;(have hml0:bm<W0.heap.size:=by omega);clear hB0 hbx HS HM
 go_cut [7,8] from 11 (fun p b wc=>b = .bool false∧Below W0.heap.size W0 wc∧∃g,p = .pointer (some ⟨g,0,none⟩)∧W0.heap.size≤g∧wc.rangeAt g 0 [.int .i64 0,.int .i64 0,.string ⟨#[]⟩,.int .i64 0,.int .i64 0,.string ⟨#[]⟩,.int .i64 0,.int .i64 0,.string ⟨#[]⟩,.int .i64 0,.bool false,.bool false,.int .i64 0,.int .i64 0,.int .i64 0])
 case first=>
  refine Z40 (fun w9=>Below W0.heap.size W0 w9) [0,1,2,3,4,7,8,9,12] [3] (.fork [(0,0),(1,0),(2,0),(3,1),(4,0)] 5 (.fork [] 6 (.fin [(7,0),(8,0),(9,0),(10,2),(11,2),(12,0)]) 10 (.fin [(6,2),(7,0),(8,0),(9,0),(11,2),(12,0)])) 10 (.fin [(5,2),(6,2),(7,0),(8,0),(9,0),(11,2),(12,0)])) (by kernel_rfl) (by kernel_rfl) (by kernel_rfl) (fun KK hKK=>?_);simp only [wpPl,Z0w,Znz,Znt,Znv,Znr,Zns,Zo1];have HB:=hid (Znk W0.heap.size W0).drew;obtain ⟨V,hV⟩:∃V,V=W0.drew:=⟨_,rfl⟩;rw [←hV] at HB ⊢;clear hV
  repeat' (first
   | ((first|(refine Z9y ?_ (Or.inl ⟨by rfl,fun w9=>?_⟩) ?_;rotate_left 1;go_simp;with_reducible rfl)|(refine Z9x ?_ (HB.out) (Or.inl ⟨by rfl,fun w9 hw9=>?_⟩) ?_;rotate_left 1;obtain ⟨hc9,hf9⟩:=Z1e hw9;go_simp;with_reducible rfl)|refine Z9y undef (Or.inr ⟨by rfl,rfl⟩) ?_|refine Z9x undef (HB.out) (Or.inr ⟨by rfl,rfl⟩) ?_);go_frame)
   | ((first|refine Z6f (fun K9 hK9=>?_)|refine Z51 rfl (fun K9 hK9=>?_));refine Z1p rfl 240 _ _ rfl g 0 #[.int .i64 0,.int .i64 0,.string ⟨#[]⟩,.int .i64 0,.int .i64 0,.string ⟨#[]⟩,.int .i64 0,.int .i64 0,.string ⟨#[]⟩,.int .i64 0,.bool false,.bool false,.int .i64 0,.int .i64 0,.int .i64 0] rfl rfl (show _ from HK.out.there) (by kernel_rfl) (by kernel_rfl) ?_;show K9 _ (V.setCells g 0 [.int .i64 0,.int .i64 0,.string ⟨#[]⟩,.int .i64 0,.int .i64 0,.string ⟨#[]⟩,.int .i64 0,.int .i64 0,.string ⟨#[]⟩,.int .i64 0,.bool false,.bool false,.int .i64 0,.int .i64 0,.int .i64 0]);have HR:=hid (Znw V g 0 [.int .i64 0,.int .i64 0,.string ⟨#[]⟩,.int .i64 0,.int .i64 0,.string ⟨#[]⟩,.int .i64 0,.int .i64 0,.string ⟨#[]⟩,.int .i64 0,.bool false,.bool false,.int .i64 0,.int .i64 0,.int .i64 0] (show _ from HK.out.there));have HB:=hid (Below.setCells' [.int .i64 0,.int .i64 0,.string ⟨#[]⟩,.int .i64 0,.int .i64 0,.string ⟨#[]⟩,.int .i64 0,.int .i64 0,.string ⟨#[]⟩,.int .i64 0,.bool false,.bool false,.int .i64 0,.int .i64 0,.int .i64 0] 0 HB.out HG.out);obtain ⟨V,hV⟩:∃V9,V9=V.setCells g 0 [.int .i64 0,.int .i64 0,.string ⟨#[]⟩,.int .i64 0,.int .i64 0,.string ⟨#[]⟩,.int .i64 0,.int .i64 0,.string ⟨#[]⟩,.int .i64 0,.bool false,.bool false,.int .i64 0,.int .i64 0,.int .i64 0]:=⟨_,rfl⟩;rw [←hV] at HR HB;rw [←hV];have HL:=hid (show g<V.heap.size from Znx _ _ (HR.out 0 _ rfl));clear hV;(first|refine hK9 _ _ (HB.out) ?_|refine hK9 _ _ (fun _=>HB.out) ?_);clear hK9 K9;(try go_frame);try simp only [Z0w,Znt])
   | ((first|refine Z6f (fun K9 hK9=>?_)|refine Z51 rfl (fun K9 hK9=>?_));go_simp;(first
     | (refine (Zar k _).mono ?_;rintro e V ⟨rfl,hb⟩;have HB:=hid (HB.out.trans (hb.mono HB.out.size));(try have HK:=hid (HK.out.new_ hb));clear hb)
     | (refine (Za4 bp cc sn A m (zPgT k) _ (HS0.out.new_ (HB.out)) HO.out (by omega) HH.out).mono ?_;rintro e V ⟨rfl,hb⟩;have HB:=hid (HB.out.trans (hb.mono HB.out.size));(try have HK:=hid (HK.out.new_ hb));clear hb)
     | (obtain ⟨g,hg⟩:∃g,g=V.heap.size:=⟨_,rfl⟩;have hk:=Blk.new V 240 #[.int .i64 0,.int .i64 0,.string ⟨#[]⟩,.int .i64 0,.int .i64 0,.string ⟨#[]⟩,.int .i64 0,.int .i64 0,.string ⟨#[]⟩,.int .i64 0,.bool false,.bool false,.int .i64 0,.int .i64 0,.int .i64 0];have HG:=hid (show W0.heap.size≤g by rw [hg];exact HB.out.size);have HB:=hid (HB.out.alloc HB.out.size (.cells #[.int .i64 0,.int .i64 0,.string ⟨#[]⟩,.int .i64 0,.int .i64 0,.string ⟨#[]⟩,.int .i64 0,.int .i64 0,.string ⟨#[]⟩,.int .i64 0,.bool false,.bool false,.int .i64 0,.int .i64 0,.int .i64 0] 240));obtain ⟨V,hV⟩:∃V9,V9=V.alloc (.cells #[.int .i64 0,.int .i64 0,.string ⟨#[]⟩,.int .i64 0,.int .i64 0,.string ⟨#[]⟩,.int .i64 0,.int .i64 0,.string ⟨#[]⟩,.int .i64 0,.bool false,.bool false,.int .i64 0,.int .i64 0,.int .i64 0] 240):=⟨_,rfl⟩;rw [←hV,←hg] at hk;rw [←hV] at HB;have HK:=hid hk;rw [←hV,←hg];clear hV hk hg)|fail);(first|refine hK9 _ _ (HB.out) ?_|refine hK9 _ _ (fun _=>HB.out) ?_);clear hK9 K9;(try go_frame);try simp only [Z0w,Znt])
   | (refine Z52 ⟨?_,?_⟩)|fail)
  all_goals
   refine Z52 ?_;simp only [Z04];refine hKK _ _ ?_;clear hKK KK;(go_wp2_with fail);go_meet
   case rel=>exact ⟨rfl,HB.out,g,rfl,HG.out,HR.out⟩
 case rest=>
  obtain ⟨rfl,hB,g,rfl,hg,hr⟩:=hcut;have HB:=hid hB
  have hr2:wc.rangeAt g 1 [.int .i64 0,.string ⟨#[]⟩,.int .i64 0,.int .i64 0,.string ⟨#[]⟩,.int .i64 0,.int .i64 0,.string ⟨#[]⟩,.int .i64 0,.bool false,.bool false,.int .i64 0,.int .i64 0,.int .i64 0]:=fun j v hv=>by
   have:=hr (j+1) v (by simpa using hv);rwa [show 0+(j+1)=1+j by omega] at this
  have HR:=hid hr2;have HT:=hid (show wc.there w.heap.size 0 (#[.int .i64 0,.string ⟨#[]⟩,.int .i64 0,.int .i64 0,.string ⟨#[]⟩,.int .i64 0,.int .i64 0,.string ⟨#[]⟩,.int .i64 0,.bool false,.bool false,.int .i64 0,.int .i64 0,.int .i64 0]:Array Value).size from (HX0.out.new_ hB).there);clear hB hr hr2 s1;(go_wp2_with (first|(with_reducible refine wpList_load_mid rfl 64 _ rfl g 1 rfl _ _ HR.out Tryz.underlying64 rfl (by kernel_rfl) ?_)|(with_reducible refine wpList_store_mid rfl 64 _ _ rfl w.heap.size 0 #[.int .i64 0,.string ⟨#[]⟩,.int .i64 0,.int .i64 0,.string ⟨#[]⟩,.int .i64 0,.int .i64 0,.string ⟨#[]⟩,.int .i64 0,.bool false,.bool false,.int .i64 0,.int .i64 0,.int .i64 0] rfl rfl HT.out (by kernel_rfl) (by kernel_rfl) ?_)));(try simp only [Exit.inBlock,Exit.then]);refine bodyPost_ret (v:=.tuple #[.agg #[.int .i64 0,.string ⟨#[]⟩,.int .i64 0,.int .i64 0,.string ⟨#[]⟩,.int .i64 0,.int .i64 0,.string ⟨#[]⟩,.int .i64 0,.bool false,.bool false,.int .i64 0,.int .i64 0,.int .i64 0],.bool false]) ?_ rfl ⟨rfl,Below.setCells' _ _ (HB0.out.trans (HB.out.mono (by omega))) (by omega)⟩;exact Z1x (t:=4) (s:=5) (T:=64) rfl _ _ w.heap.size [.int .i64 0,.string ⟨#[]⟩,.int .i64 0,.int .i64 0,.string ⟨#[]⟩,.int .i64 0,.int .i64 0,.string ⟨#[]⟩,.int .i64 0,.bool false,.bool false,.int .i64 0,.int .i64 0,.int .i64 0] _ rfl (Znw wc w.heap.size 0 [.int .i64 0,.string ⟨#[]⟩,.int .i64 0,.int .i64 0,.string ⟨#[]⟩,.int .i64 0,.int .i64 0,.string ⟨#[]⟩,.int .i64 0,.bool false,.bool false,.int .i64 0,.int .i64 0,.int .i64 0] HT.out) Tryz.underlying64 rfl (by kernel_rfl)
theorem Zbu (bm bp cc:Nat) (sn:Bool) (A:Option Addr) (m:List PgT) (k:Int) (y:PgT) (w:World) (hM:Blk w bm 242 #[.pointer (some ⟨bp,0,none⟩)]) (hS:Z2l w bp sn A cc m) (hs:Srt Z0t m) (hl:(m.length:Int)≤1000000) (hh:has Z0t m (zPgT k)=true) (hy:m[rank Z0t m (zPgT k)]? = some y) :
 Calls Tryz.prog 113 #[.pointer (some ⟨bm,0,none⟩),.int .i64 k] w fun e w'=>e = .returned (.tuple #[.agg #[.int .i64 y.tr.elem.id.kind,.string y.tr.elem.id.text,.int .i64 y.tr.elem.id.n,.int .i64 y.tr.elem.attr.kind,.string y.tr.elem.attr.text,.int .i64 y.tr.elem.attr.n,.int .i64 y.tr.elem.value.kind,.string y.tr.elem.value.text,.int .i64 y.tr.elem.value.n,.bool y.tr.elem.acc,.bool y.tr.elem.goal,.int .i64 y.tr.elem.tag,.int .i64 y.tr.level,.int .i64 y.tr.cause],.bool true])∧Below w.heap.size w w':=by
 have s0:=hM.c1;have hml:=hM.lt;have HS:=hid hS;have HO:=hid hs;have HM:=hid hM;have HH:=hid hh;have HY:=hid hy;clear hy;clear hS hs hM hh;go_enter Tryz.func113,Tryz.ntmps113;(go_upto_region 4 with (fail));obtain ⟨W0,hW0⟩:∃W0,W0=w.alloc (.cells #[.int .i64 0,.string ⟨#[]⟩,.int .i64 0,.int .i64 0,.string ⟨#[]⟩,.int .i64 0,.int .i64 0,.string ⟨#[]⟩,.int .i64 0,.bool false,.bool false,.int .i64 0,.int .i64 0,.int .i64 0] 64):=⟨_,rfl⟩;(have hB0:Below w.heap.size w W0:=by rw [hW0];exact (Znk _ _).alloc (Znl _) _);(have hbx:Blk W0 w.heap.size 64 #[.int .i64 0,.string ⟨#[]⟩,.int .i64 0,.int .i64 0,.string ⟨#[]⟩,.int .i64 0,.int .i64 0,.string ⟨#[]⟩,.int .i64 0,.bool false,.bool false,.int .i64 0,.int .i64 0,.int .i64 0]:=by rw [hW0];exact Blk.new _ _ _);have hz0:w.heap.size<W0.heap.size:=hbx.lt;rw [←hW0];clear hW0;have s1:=(hB0.cell (p:=⟨bm,0,none⟩) hml).trans s0;clear s0;have HS0:=hid (HS.out.new_ hB0);have HX0:=hid hbx;have HB0:=hid hB0;(have hml0:bm<W0.heap.size:=by omega);clear hB0 hbx HS HM
 go_cut [7,8] from 11 (fun p b wc=>b = .bool true∧Below W0.heap.size W0 wc∧∃g,p = .pointer (some ⟨g,0,none⟩)∧W0.heap.size≤g∧wc.rangeAt g 0 [.int .i64 y.kk,.int .i64 y.tr.elem.id.kind,.string y.tr.elem.id.text,.int .i64 y.tr.elem.id.n,.int .i64 y.tr.elem.attr.kind,.string y.tr.elem.attr.text,.int .i64 y.tr.elem.attr.n,.int .i64 y.tr.elem.value.kind,.string y.tr.elem.value.text,.int .i64 y.tr.elem.value.n,.bool y.tr.elem.acc,.bool y.tr.elem.goal,.int .i64 y.tr.elem.tag,.int .i64 y.tr.level,.int .i64 y.tr.cause])
 case first=>
  refine Z40 (fun w9=>Below W0.heap.size W0 w9) [0,1,2,3,4,7,8,9,12] [3] (.fork [(0,0),(1,0),(2,0),(3,1),(4,0)] 5 (.fork [] 6 (.fin [(7,0),(8,0),(9,0),(10,2),(11,2),(12,0)]) 10 (.fin [(6,2),(7,0),(8,0),(9,0),(11,2),(12,0)])) 10 (.fin [(5,2),(6,2),(7,0),(8,0),(9,0),(11,2),(12,0)])) (by kernel_rfl) (by kernel_rfl) (by kernel_rfl) (fun KK hKK=>?_);simp only [wpPl,Z0w,Znz,Znt,Znv,Znr,Zns,Zo1];have HB:=hid (Znk W0.heap.size W0).drew;obtain ⟨V,hV⟩:∃V,V=W0.drew:=⟨_,rfl⟩;rw [←hV] at HB ⊢;clear hV
  repeat' (first
   | ((first|(refine Z9y ?_ (Or.inl ⟨by rfl,fun w9=>?_⟩) ?_;rotate_left 1;go_simp;with_reducible rfl)|(refine Z9x ?_ (HB.out) (Or.inl ⟨by rfl,fun w9 hw9=>?_⟩) ?_;rotate_left 1;obtain ⟨hc9,hf9⟩:=Z1e hw9;go_simp;with_reducible rfl)|refine Z9y undef (Or.inr ⟨by rfl,rfl⟩) ?_|refine Z9x undef (HB.out) (Or.inr ⟨by rfl,rfl⟩) ?_);go_frame)
   | ((first|refine Z6f (fun K9 hK9=>?_)|refine Z51 rfl (fun K9 hK9=>?_));refine Z1p rfl 240 _ _ rfl g 0 #[.int .i64 y.kk,.int .i64 y.tr.elem.id.kind,.string y.tr.elem.id.text,.int .i64 y.tr.elem.id.n,.int .i64 y.tr.elem.attr.kind,.string y.tr.elem.attr.text,.int .i64 y.tr.elem.attr.n,.int .i64 y.tr.elem.value.kind,.string y.tr.elem.value.text,.int .i64 y.tr.elem.value.n,.bool y.tr.elem.acc,.bool y.tr.elem.goal,.int .i64 y.tr.elem.tag,.int .i64 y.tr.level,.int .i64 y.tr.cause] rfl rfl (show _ from HK.out.there) (by kernel_rfl) (by kernel_rfl) ?_;show K9 _ (V.setCells g 0 [.int .i64 y.kk,.int .i64 y.tr.elem.id.kind,.string y.tr.elem.id.text,.int .i64 y.tr.elem.id.n,.int .i64 y.tr.elem.attr.kind,.string y.tr.elem.attr.text,.int .i64 y.tr.elem.attr.n,.int .i64 y.tr.elem.value.kind,.string y.tr.elem.value.text,.int .i64 y.tr.elem.value.n,.bool y.tr.elem.acc,.bool y.tr.elem.goal,.int .i64 y.tr.elem.tag,.int .i64 y.tr.level,.int .i64 y.tr.cause]);have HR:=hid (Znw V g 0 [.int .i64 y.kk,.int .i64 y.tr.elem.id.kind,.string y.tr.elem.id.text,.int .i64 y.tr.elem.id.n,.int .i64 y.tr.elem.attr.kind,.string y.tr.elem.attr.text,.int .i64 y.tr.elem.attr.n,.int .i64 y.tr.elem.value.kind,.string y.tr.elem.value.text,.int .i64 y.tr.elem.value.n,.bool y.tr.elem.acc,.bool y.tr.elem.goal,.int .i64 y.tr.elem.tag,.int .i64 y.tr.level,.int .i64 y.tr.cause] (show _ from HK.out.there));have HB:=hid (Below.setCells' [.int .i64 y.kk,.int .i64 y.tr.elem.id.kind,.string y.tr.elem.id.text,.int .i64 y.tr.elem.id.n,.int .i64 y.tr.elem.attr.kind,.string y.tr.elem.attr.text,.int .i64 y.tr.elem.attr.n,.int .i64 y.tr.elem.value.kind,.string y.tr.elem.value.text,.int .i64 y.tr.elem.value.n,.bool y.tr.elem.acc,.bool y.tr.elem.goal,.int .i64 y.tr.elem.tag,.int .i64 y.tr.level,.int .i64 y.tr.cause] 0 HB.out HG.out);obtain ⟨V,hV⟩:∃V9,V9=V.setCells g 0 [.int .i64 y.kk,.int .i64 y.tr.elem.id.kind,.string y.tr.elem.id.text,.int .i64 y.tr.elem.id.n,.int .i64 y.tr.elem.attr.kind,.string y.tr.elem.attr.text,.int .i64 y.tr.elem.attr.n,.int .i64 y.tr.elem.value.kind,.string y.tr.elem.value.text,.int .i64 y.tr.elem.value.n,.bool y.tr.elem.acc,.bool y.tr.elem.goal,.int .i64 y.tr.elem.tag,.int .i64 y.tr.level,.int .i64 y.tr.cause]:=⟨_,rfl⟩;rw [←hV] at HR HB;rw [←hV];have HL:=hid (show g<V.heap.size from Znx _ _ (HR.out 0 _ rfl));clear hV;(first|refine hK9 _ _ (HB.out) ?_|refine hK9 _ _ (fun _=>HB.out) ?_);clear hK9 K9;(try go_frame);try simp only [Z0w,Znt])
   | ((first|refine Z6f (fun K9 hK9=>?_)|refine Z51 rfl (fun K9 hK9=>?_));go_simp;(first
     | (refine (Zar k _).mono ?_;rintro e V ⟨rfl,hb⟩;have HB:=hid (HB.out.trans (hb.mono HB.out.size));(try have HK:=hid (HK.out.new_ hb));clear hb)
     | (refine (Zfy bp cc sn A m (zPgT k) y _ (HS0.out.new_ (HB.out)) HO.out (by omega) HH.out HY.out).mono ?_;rintro e V ⟨rfl,hb⟩;have HB:=hid (HB.out.trans (hb.mono HB.out.size));(try have HK:=hid (HK.out.new_ hb));clear hb)
     | (obtain ⟨g,hg⟩:∃g,g=V.heap.size:=⟨_,rfl⟩;have hk:=Blk.new V 240 #[.int .i64 0,.int .i64 0,.string ⟨#[]⟩,.int .i64 0,.int .i64 0,.string ⟨#[]⟩,.int .i64 0,.int .i64 0,.string ⟨#[]⟩,.int .i64 0,.bool false,.bool false,.int .i64 0,.int .i64 0,.int .i64 0];have HG:=hid (show W0.heap.size≤g by rw [hg];exact HB.out.size);have HB:=hid (HB.out.alloc HB.out.size (.cells #[.int .i64 0,.int .i64 0,.string ⟨#[]⟩,.int .i64 0,.int .i64 0,.string ⟨#[]⟩,.int .i64 0,.int .i64 0,.string ⟨#[]⟩,.int .i64 0,.bool false,.bool false,.int .i64 0,.int .i64 0,.int .i64 0] 240));obtain ⟨V,hV⟩:∃V9,V9=V.alloc (.cells #[.int .i64 0,.int .i64 0,.string ⟨#[]⟩,.int .i64 0,.int .i64 0,.string ⟨#[]⟩,.int .i64 0,.int .i64 0,.string ⟨#[]⟩,.int .i64 0,.bool false,.bool false,.int .i64 0,.int .i64 0,.int .i64 0] 240):=⟨_,rfl⟩;rw [←hV,←hg] at hk;rw [←hV] at HB;have HK:=hid hk;rw [←hV,←hg];clear hV hk hg)|fail);(first|refine hK9 _ _ (HB.out) ?_|refine hK9 _ _ (fun _=>HB.out) ?_);clear hK9 K9;(try go_frame);try simp only [Z0w,Znt])
   | (refine Z52 ⟨?_,?_⟩)|fail)
  all_goals
   refine Z52 ?_;simp only [Z04];refine hKK _ _ ?_;clear hKK KK;(go_wp2_with fail);go_meet
   case rel=>exact ⟨rfl,HB.out,g,rfl,HG.out,HR.out⟩
 case rest=>
  obtain ⟨rfl,hB,g,rfl,hg,hr⟩:=hcut;have HB:=hid hB
  have hr2:wc.rangeAt g 1 [.int .i64 y.tr.elem.id.kind,.string y.tr.elem.id.text,.int .i64 y.tr.elem.id.n,.int .i64 y.tr.elem.attr.kind,.string y.tr.elem.attr.text,.int .i64 y.tr.elem.attr.n,.int .i64 y.tr.elem.value.kind,.string y.tr.elem.value.text,.int .i64 y.tr.elem.value.n,.bool y.tr.elem.acc,.bool y.tr.elem.goal,.int .i64 y.tr.elem.tag,.int .i64 y.tr.level,.int .i64 y.tr.cause]:=fun j v hv=>by
   have:=hr (j+1) v (by simpa using hv);rwa [show 0+(j+1)=1+j by omega] at this
  have HR:=hid hr2;have HT:=hid (show wc.there w.heap.size 0 (#[.int .i64 y.tr.elem.id.kind,.string y.tr.elem.id.text,.int .i64 y.tr.elem.id.n,.int .i64 y.tr.elem.attr.kind,.string y.tr.elem.attr.text,.int .i64 y.tr.elem.attr.n,.int .i64 y.tr.elem.value.kind,.string y.tr.elem.value.text,.int .i64 y.tr.elem.value.n,.bool y.tr.elem.acc,.bool y.tr.elem.goal,.int .i64 y.tr.elem.tag,.int .i64 y.tr.level,.int .i64 y.tr.cause]:Array Value).size from (HX0.out.new_ hB).there);clear hB hr hr2 s1;(go_wp2_with (first|(with_reducible refine wpList_load_mid rfl 64 _ rfl g 1 rfl _ _ HR.out Tryz.underlying64 rfl (by kernel_rfl) ?_)|(with_reducible refine wpList_store_mid rfl 64 _ _ rfl w.heap.size 0 #[.int .i64 y.tr.elem.id.kind,.string y.tr.elem.id.text,.int .i64 y.tr.elem.id.n,.int .i64 y.tr.elem.attr.kind,.string y.tr.elem.attr.text,.int .i64 y.tr.elem.attr.n,.int .i64 y.tr.elem.value.kind,.string y.tr.elem.value.text,.int .i64 y.tr.elem.value.n,.bool y.tr.elem.acc,.bool y.tr.elem.goal,.int .i64 y.tr.elem.tag,.int .i64 y.tr.level,.int .i64 y.tr.cause] rfl rfl HT.out (by kernel_rfl) (by kernel_rfl) ?_)));(try simp only [Exit.inBlock,Exit.then]);refine bodyPost_ret (v:=.tuple #[.agg #[.int .i64 y.tr.elem.id.kind,.string y.tr.elem.id.text,.int .i64 y.tr.elem.id.n,.int .i64 y.tr.elem.attr.kind,.string y.tr.elem.attr.text,.int .i64 y.tr.elem.attr.n,.int .i64 y.tr.elem.value.kind,.string y.tr.elem.value.text,.int .i64 y.tr.elem.value.n,.bool y.tr.elem.acc,.bool y.tr.elem.goal,.int .i64 y.tr.elem.tag,.int .i64 y.tr.level,.int .i64 y.tr.cause],.bool true]) ?_ rfl ⟨rfl,Below.setCells' _ _ (HB0.out.trans (HB.out.mono (by omega))) (by omega)⟩;exact Z1x (t:=4) (s:=5) (T:=64) rfl _ _ w.heap.size [.int .i64 y.tr.elem.id.kind,.string y.tr.elem.id.text,.int .i64 y.tr.elem.id.n,.int .i64 y.tr.elem.attr.kind,.string y.tr.elem.attr.text,.int .i64 y.tr.elem.attr.n,.int .i64 y.tr.elem.value.kind,.string y.tr.elem.value.text,.int .i64 y.tr.elem.value.n,.bool y.tr.elem.acc,.bool y.tr.elem.goal,.int .i64 y.tr.elem.tag,.int .i64 y.tr.level,.int .i64 y.tr.cause] _ rfl (Znw wc w.heap.size 0 [.int .i64 y.tr.elem.id.kind,.string y.tr.elem.id.text,.int .i64 y.tr.elem.id.n,.int .i64 y.tr.elem.attr.kind,.string y.tr.elem.attr.text,.int .i64 y.tr.elem.attr.n,.int .i64 y.tr.elem.value.kind,.string y.tr.elem.value.text,.int .i64 y.tr.elem.value.n,.bool y.tr.elem.acc,.bool y.tr.elem.goal,.int .i64 y.tr.elem.tag,.int .i64 y.tr.level,.int .i64 y.tr.cause] HT.out) Tryz.underlying64 rfl (by kernel_rfl)
def Only (ts:List Nat) (w w':World):Prop:=∀(g:Nat) (t:TypeId) (cs:Array Value),t ∉ ts→Blk w g t cs→Blk w' g t cs
structure Mine (ts:List Nat) (K:Nat→Prop) (w w':World):Prop where
 only:Only ts w w'
 fr:Fr (fun k=>¬K k) w w'
section
variable {ts ts':List Nat}{K K' E:Nat→Prop}{a b c w w':World}
theorem Mine.trans (h:Mine ts K a b) (k:Mine ts K b c):Mine ts K a c:=⟨fun g t cs hn hb=>k.only g t cs hn (h.only g t cs hn hb),h.fr.trans k.fr⟩
theorem Mine.new_ (h:Below w.heap.size w w'):Mine ts K w w':=⟨fun _ _ _ _ hb=>hb.new_ h,Fr.of_new h⟩
theorem Mine.up (h:Mine ts K w w') (hs :∀t,t∈ts→t∈ts'):Mine ts' K w w':=⟨fun g t cs hn hb=>h.only g t cs (fun hm=>hn (hs t hm)) hb,h.fr⟩
theorem Mine.cell {p:Addr}{t:TypeId}{cs:Array Value}(hb:Blk w p.block t cs) (ht:t∈ts) (hK :¬K p.block) (u:Value):Mine ts K w (w.setCell p u):=
 ⟨fun g t' cs' hn hg=>hg.far (fun e=>by subst e;exact hg.ne_ hb (fun e=>hn (e ▸ ht)) rfl) u,(Fr.refl _ w).setCell (.inl hK) u⟩
theorem Z1b {e:TypeId}{size n:Nat}{v:Value}{xs:List Value}(h:w.ownsRow 0 e size v n xs) (ho:Only ts w w') (he:e ∉ ts):w'.ownsRow 0 e size v n xs:=
 ⟨h.1,h.2.imp id fun ⟨g,cap,cur,hv,h0,hg,hr⟩=>⟨g,cap,cur,hv,h0,ho g e cur he hg,hr⟩⟩
theorem Z25.only {α:Type}{tSet tE size:Nat}{cells:α→List Value}{b:Nat}{sn:Bool}{A:Option Addr}{c:Nat}{l:List α}(h:Z25 tSet tE size cells w b sn A c l) (ho:Only ts w w') (h1:tSet ∉ ts) (h2:tE ∉ ts):Z25 tSet tE size cells w' b sn A c l:=
 ⟨ho _ _ _ h1 h.blk,Z1b h.row ho h2⟩
theorem Zjh {α:Type}{tSet tE size:Nat}{cells:α→List Value}{b:Nat}{sn:Bool}{A:Option Addr}{c:Nat}{l:List α}{g:Nat}{t:TypeId}{cs:Array Value}
 (hS:Z25 tSet tE size cells w b sn A c l) (hB:Blk w g t cs) (h1:t≠tSet) (h2:t≠tE):¬Z1f b sn A g:=by
 rintro (rfl|⟨_,a,ha,rfl⟩)
 · exact hB.ne_ hS.blk h1 rfl
 · have:=Z02 hS.row hB (Ne.symm h2)
   subst ha;exact this (by simp [Value.ownBlock])
theorem Mine.set_ {α:Type}{tSet tE size:Nat}{cells:α→List Value}{b:Nat}{sn:Bool}{A:Option Addr}{c:Nat}{l:List α}(hS:Z25 tSet tE size cells w b sn A c l) (hF:Fr (Z1f b sn A) w w') (hb :¬K b) (hA:AIn A (fun k=>¬K k)):Mine [tSet,tE] K w w':=
 ⟨fun g t cs hn hg=>hg.fr hF (Zjh hS hg (fun e=>hn (by simp [e])) (fun e=>hn (by simp [e]))),hF.mono (fun k _ hk=>by
  rcases hk with rfl|⟨_,a,ha,rfl⟩
  · exact hb
  · exact hA a ha)⟩
def OSet {α:Type}(tSet tE size:Nat) (cells:α→List Value) (K:Nat→Prop) (w:World) (b:Nat) (l:List α):Prop:=
 ∃sn A c,Z25 tSet tE size cells w b sn A c l∧¬K b∧AIn A (fun k=>¬K k)
section
variable {α:Type}{tSet tE size:Nat}{cells:α→List Value}{bb:Nat}{l l':List α}
theorem OSet.mine (h:OSet tSet tE size cells K w bb l) (hm:Mine ts K w w') (h1:tSet ∉ ts) (h2:tE ∉ ts):OSet tSet tE size cells K w' bb l:=by
 obtain ⟨sn,A,c,g1,g2,g3⟩:=h;exact ⟨sn,A,c,g1.only hm.only h1 h2,g2,g3⟩
theorem OSet.theirs {M:Nat→Prop}(h:OSet tSet tE size cells K w bb l) (hF:Fr M w w') (hM :∀k,M k→K k) (hK :∀k,K' k→K k∨w.heap.size≤k):OSet tSet tE size cells K' w' bb l:=by
 obtain ⟨sn,A,c,g1,g2,g3⟩:=h;have hl:=g1.lt;have hr:=g1.row_lt;refine ⟨sn,A,c,g1.fr hF (fun h=>g2 (hM _ h)) (fun a ha h=>g3 a ha (hM _ h)),fun h=>(hK _ h).elim g2 (fun h=>by omega),fun a ha h=>(hK _ h).elim (g3 a ha) (fun h=>by have:=hr a ha;omega)⟩
theorem OSet.moved {sn:Bool}{A:Option Addr}{sn':Bool}{A':Option Addr}{c':Nat}(hl :∀k,K k→k<w.heap.size) (h1:Z25 tSet tE size cells w' bb sn' A' c' l') (hM:Z32 w sn A sn' A') (hb :¬K bb) (hA:AIn A (fun k=>¬K k)):OSet tSet tE size cells K w' bb l':=by
 refine ⟨sn',A',c',h1,hb,?_⟩;rcases hM with ⟨_,rfl⟩|⟨_,g,hg,rfl⟩
 · exact hA
 · intro a ha hk
   cases ha;have:=hl _ hk;dsimp only at this;omega
end
abbrev Zd6:=OSet (α:=Int) 231 170 1 Bnum.cells
abbrev OPgR:=OSet (α:=PgR) 276 226 7 PgR.cells
abbrev OPgT:=OSet (α:=PgT) 281 240 15 PgT.cells
abbrev OSym:=OSet (α:=Sym) 203 38 3 Sym.cells
theorem Zie {sb:Nat}{l:List Int}(k:Int) (h:Zd6 K w sb l) (hs:Srt Z0q l) (hl :∀k,K k→k<w.heap.size) (hn:(l.length:Int)≤100000000) :
 Calls Tryz.prog 108 #[.pointer (some ⟨sb,0,none⟩),.int .i64 k] w fun e w'=>e = .returned (.bool (!has Z0q l k))∧Zd6 K w' sb (put Z0q l k)∧Mine [231,170] K w w':=by
 obtain ⟨sn,A,c,g1,g2,g3⟩:=h;refine (Zf6 sb c sn A l k w g1 hs hn).mono ?_;rintro e w' ⟨he,sn',A',c',h1,hF,hM⟩;exact ⟨he,OSet.moved hl h1 hM g2 g3,Mine.set_ g1 hF g2 g3⟩
def Zan (K:Nat→Prop) (w:World) (bm bp:Nat) (m:List PgR):Prop:=Blk w bm 228 #[.pointer (some ⟨bp,0,none⟩)]∧¬K bm∧OPgR K w bp m
def Z8g (K:Nat→Prop) (w:World) (bm bp:Nat) (m:List PgT):Prop:=Blk w bm 242 #[.pointer (some ⟨bp,0,none⟩)]∧¬K bm∧OPgT K w bp m
theorem Zan.mine {bm bp:Nat}{m:List PgR}(h:Zan K w bm bp m) (hm:Mine ts K w w') (h0:228 ∉ ts) (h1:276 ∉ ts) (h2:226 ∉ ts):Zan K w' bm bp m:=⟨hm.only _ _ _ h0 h.1,h.2.1,h.2.2.mine hm h1 h2⟩
theorem Z8g.mine {bm bp:Nat}{m:List PgT}(h:Z8g K w bm bp m) (hm:Mine ts K w w') (h0:242 ∉ ts) (h1:281 ∉ ts) (h2:240 ∉ ts):Z8g K w' bm bp m:=⟨hm.only _ _ _ h0 h.1,h.2.1,h.2.2.mine hm h1 h2⟩
theorem Zan.theirs {M:Nat→Prop}{bm bp:Nat}{m:List PgR}(h:Zan K w bm bp m) (hF:Fr M w w') (hM :∀k,M k→K k) (hK :∀k,K' k→K k∨w.heap.size≤k):Zan K' w' bm bp m:=
 ⟨h.1.fr hF (fun hm=>h.2.1 (hM _ hm)),fun hk=>(hK _ hk).elim h.2.1 (fun hk=>by have:=h.1.lt;omega),h.2.2.theirs hF hM hK⟩
theorem Z8g.theirs {M:Nat→Prop}{bm bp:Nat}{m:List PgT}(h:Z8g K w bm bp m) (hF:Fr M w w') (hM :∀k,M k→K k) (hK :∀k,K' k→K k∨w.heap.size≤k):Z8g K' w' bm bp m:=
 ⟨h.1.fr hF (fun hm=>h.2.1 (hM _ hm)),fun hk=>(hK _ hk).elim h.2.1 (fun hk=>by have:=h.1.lt;omega),h.2.2.theirs hF hM hK⟩
theorem Zn8 {bm bp:Nat}{m:List PgR}(x:PgR) (h:Zan K w bm bp m) (hs:Srt Z19 m) (hl :∀k,K k→k<w.heap.size) (hn:(m.length:Int)≤1000000) (hh:has Z19 m x=false) :
 Calls Tryz.prog 109 #[.pointer (some ⟨bm,0,none⟩),.int .i64 x.kk,.agg #[.int .i64 x.num,.int .i64 x.level,.slice x.elems.A x.elems.n x.elems.c,.slice x.holes.A x.holes.n x.holes.c,.slice x.aparts.A x.aparts.n x.aparts.c,.slice x.news.A x.news.n x.news.c]] w fun e w'=>e = .returned (.bool true)∧Zan K w' bm bp (put Z19 m x)∧Mine [276,226] K w w':=by
 obtain ⟨hb,hbk,sn,A,c,g1,g2,g3⟩:=h;refine (Zh4 bm bp c sn A m x w hb g1 hs hn hh).mono ?_;rintro e w' ⟨he,sn',A',c',h1,hF,hM⟩;have hm:=Mine.set_ g1 hF g2 g3;exact ⟨he,⟨hm.only _ _ _ (by decide) hb,hbk,OSet.moved hl h1 hM g2 g3⟩,hm⟩
theorem Zn9 {bm bp:Nat}{m:List PgT}(x:PgT) (h:Z8g K w bm bp m) (hs:Srt Z0t m) (hl :∀k,K k→k<w.heap.size) (hn:(m.length:Int)≤1000000) (hh:has Z0t m x=false) :
 Calls Tryz.prog 114 #[.pointer (some ⟨bm,0,none⟩),.int .i64 x.kk,.agg #[.int .i64 x.tr.elem.id.kind,.string x.tr.elem.id.text,.int .i64 x.tr.elem.id.n,.int .i64 x.tr.elem.attr.kind,.string x.tr.elem.attr.text,.int .i64 x.tr.elem.attr.n,.int .i64 x.tr.elem.value.kind,.string x.tr.elem.value.text,.int .i64 x.tr.elem.value.n,.bool x.tr.elem.acc,.bool x.tr.elem.goal,.int .i64 x.tr.elem.tag,.int .i64 x.tr.level,.int .i64 x.tr.cause]] w fun e w'=>e = .returned (.bool true)∧Z8g K w' bm bp (put Z0t m x)∧Mine [281,240] K w w':=by
 obtain ⟨hb,hbk,sn,A,c,g1,g2,g3⟩:=h;refine (Zh5 bm bp c sn A m x w hb g1 hs hn hh).mono ?_;rintro e w' ⟨he,sn',A',c',h1,hF,hM⟩;have hm:=Mine.set_ g1 hF g2 g3;exact ⟨he,⟨hm.only _ _ _ (by decide) hb,hbk,OSet.moved hl h1 hM g2 g3⟩,hm⟩
theorem Zn7 {bm bp:Nat}{m:List PgT}(k:Int) (h:Z8g K w bm bp m) (hs:Srt Z0t m) (hn:(m.length:Int)≤1000000) :
 Calls Tryz.prog 113 #[.pointer (some ⟨bm,0,none⟩),.int .i64 k] w fun e w'=>∃y:Z07,e = .returned (.tuple #[.agg #[.int .i64 y.elem.id.kind,.string y.elem.id.text,.int .i64 y.elem.id.n,.int .i64 y.elem.attr.kind,.string y.elem.attr.text,.int .i64 y.elem.attr.n,.int .i64 y.elem.value.kind,.string y.elem.value.text,.int .i64 y.elem.value.n,.bool y.elem.acc,.bool y.elem.goal,.int .i64 y.elem.tag,.int .i64 y.level,.int .i64 y.cause],.bool (has Z0t m (zPgT k))])∧Below w.heap.size w w':=by
 obtain ⟨hb,hbk,sn,A,c,g1,g2,g3⟩:=h
 cases hh:has Z0t m (zPgT k) with
 | false=>
   refine (Zbv bm bp c sn A m k w hb g1 hs hn hh).mono ?_;rintro e w' ⟨he,hB⟩;exact ⟨(zPgT 0).tr,he,hB⟩
 | true=>
   obtain ⟨_,_,hk,_⟩:=Zhe Z4q hs hh;refine (Zbu bm bp c sn A m k m[rank Z0t m (zPgT k)] w hb g1 hs hn hh (Znq hk)).mono ?_;rintro e w' ⟨he,hB⟩;exact ⟨_,he,hB⟩
structure Prot (B:Nat) (G:(Nat→Prop)→List Int→World→Prop) (K E:Nat→Prop) (done:List Int) (w:World):Prop where
 g:G E done w
 sub :∀k,E k→K k
 low :∀k,k<B→K k
 lt :∀k,K k→k<w.heap.size
def Z6w (n:Nat) (K E:Nat→Prop) (w:World) (bm bp:Nat) (R:List KR):Prop:=∃m,Zan K w bm bp m∧Srt Z19 m∧Z3c (Zgv n (fun j=>K j∧¬E j) w) R m
theorem Z6w.mine {n bm bp:Nat}{R:List KR}(h:Z6w n K E w bm bp R) (hm:Mine ts K w w') (h0:228 ∉ ts) (h1:276 ∉ ts) (h2:226 ∉ ts):Z6w n K E w' bm bp R:=by
 obtain ⟨m,g1,g2,g3⟩:=h;exact ⟨m,g1.mine hm h0 h1 h2,g2,g3.imp fun a b hr=>hr.keep hm.fr.size (fun k hk hl=>⟨hk,hm.fr.block k hl (fun h=>h hk.1)⟩)⟩
def Z8h (K:Nat→Prop) (w:World) (v:Value) (todo:List Int):Prop:=QRow w 3 1 v todo.length (todo.flatMap Int.cells1)∧∀k,v.ownBlock=some k→k<w.heap.size∧¬K k
theorem QRow.only {e:TypeId}{size n:Nat}{v:Value}{xs:List Value}(h:QRow w e size v n xs) (ho:Only ts w w') (he:e ∉ ts) (_:0<size):QRow w' e size v n xs:=by
 obtain ⟨A,cap,rfl,h1,h2,h3,h4,h5⟩:=h;refine ⟨A,cap,rfl,h1,h2,h3,h4,fun b hb=>?_⟩;obtain ⟨g1,g2,g3⟩:=h5 b hb;refine ⟨g1,g2.imp id (fun ⟨cur,hc,hz⟩=>⟨cur,ho _ _ _ he hc,hz⟩),fun j u hu=>?_⟩;rcases g2 with g2|⟨cur,hc,hz⟩
 · have:xs = []:=List.eq_nil_of_length_eq_zero (by rw [h3];have:n=0:=by omega
                                                   rw [this];omega)
   subst this;simp at hu
 · have:=g3 j u hu
   rw [hc.cell] at this;rw [(ho _ _ _ he hc).cell];exact this
theorem Z8h.mine {v:Value}{todo:List Int}(h:Z8h K w v todo) (hm:Mine ts K w w') (h1:3 ∉ ts):Z8h K w' v todo:=⟨h.1.only hm.only h1 (by decide),fun k hk=>⟨Znn (h.2 k hk).1 hm.fr.size,(h.2 k hk).2⟩⟩
theorem Z8h.theirs {M:Nat→Prop}{v:Value}{todo:List Int}(h:Z8h K w v todo) (hF:Fr M w w') (hM :∀k,M k→K k) (hK :∀k,K' k→K k∨w.heap.size≤k):Z8h K' w' v todo:=
 ⟨h.1.keep hF (fun k hk hm=>(h.2 k hk).2 (hM k hm)) (fun k hk=>(h.2 k hk).1),fun k hk=>⟨Znn (h.2 k hk).1 hF.size,fun hq=>(hK k hq).elim (h.2 k hk).2 (fun hq=>by have:=(h.2 k hk).1;omega)⟩⟩
end
section
variable {ts:List Nat}{n B gf:Nat}{lb:Array Value}{look:Int→Z0e×Bool}{G:(Nat→Prop)→List Int→World→Prop}{K E:Nat→Prop}{done todo:List Int}{w w':World}{sb bm bp:Nat}{v:Value}
theorem Prot.mine (hf:Z4r n B gf lb look G) (h:Prot B G K E done w) (hm:Mine ts K w w'):Prot B G K E done w':=
 ⟨hf.steady h.g hm.fr (fun k hk=>⟨fun he=>hk (h.sub k he),Nat.le_of_not_lt fun hl=>hk (h.low k hl)⟩),h.sub,h.low,fun k hk=>Znn (h.lt k hk) hm.fr.size⟩
structure St1 (n B:Nat) (look:Int→Z0e×Bool) (G:(Nat→Prop)→List Int→World→Prop) (K E:Nat→Prop) (done todo:List Int) (sb bm bp:Nat) (v:Value) (w:World):Prop where
 p:Prot B G K E done w
 s:Zd6 K w sb (puts Z0q [] done)
 m:Z6w n K E w bm bp (Z37 look done)
 q:Z8h K w v todo
theorem St1.new_ (hf:Z4r n B gf lb look G) (h:St1 n B look G K E done todo sb bm bp v w) (hb:Below w.heap.size w w'):St1 n B look G K E done todo sb bm bp v w':=
 have hm:Mine [] K w w':=Mine.new_ hb
 ⟨h.p.mine hf hm,h.s.mine hm (by simp) (by simp),h.m.mine hm (by simp) (by simp) (by simp),h.q.mine hm (by simp)⟩
end
section
variable {n B gf:Nat}{lb:Array Value}{look:Int→Z0e×Bool}{G:(Nat→Prop)→List Int→World→Prop}{K E E':Nat→Prop}{done todo:List Int}{w w':World}{sb bm bp:Nat}{v:Value}{k:Int}
theorem Ze6 {K:Nat→Prop}{w w':World} :∀j,Plus K w w' j→K j∨w.heap.size≤j:=fun _ hj=>hj.imp id (fun h=>h.1)
theorem St1.seen (hf:Z4r n B gf lb look G) (h:St1 n B look G K E done todo sb bm bp v w) (hs:Zd6 K w' sb (put Z0q (puts Z0q [] done) k)) (hm:Mine [231,170] K w w') :
 Prot B G K E done w'∧Zd6 K w' sb (puts Z0q [] (done ++ [k]))∧Z6w n K E w' bm bp (Z37 look done)∧Z8h K w' v todo:=
 ⟨h.p.mine hf hm,by rw [Z36];exact hs,h.m.mine hm (by decide) (by decide) (by decide),h.q.mine hm (by decide)⟩
theorem St1.found (hE :∀j,E j→K j) (hp:Prot B G K E done w) (hs:Zd6 K w sb (puts Z0q [] (done ++ [k]))) (hm:Z6w n K E w bm bp (Z37 look done)) (hq:Z8h K w v todo)
 (g1:G E' (done ++ [k]) w') (g2 :∀j,E' j→Plus E w w' j) (g3:Fr E w w') :
 Prot B G (Plus K w w') E' (done ++ [k]) w'∧Zd6 (Plus K w w') w' sb (puts Z0q [] (done ++ [k]))∧Z6w n (Plus K w w') E' w' bm bp (Z37 look done)∧Z8h (Plus K w w') w' v todo:=by
 refine ⟨⟨g1,fun j hj=>(g2 j hj).imp (hE j) id,fun j hj=>.inl (hp.low j hj),fun j hj=>?_⟩,hs.theirs g3 hE Ze6,?_,hq.theirs g3 hE Ze6⟩
 · rcases hj with hj|hj
   · exact Znn (hp.lt j hj) g3.size
   · exact hj.2
 · obtain ⟨m,h1,h2,h3⟩:=hm
   refine ⟨m,h1.theirs g3 hE Ze6,h2,h3.imp fun a b hr=>hr.keep g3.size (fun j hj hl=>⟨⟨.inl hj.1,fun he=>?_⟩,g3.block j hl hj.2⟩)⟩;rcases g2 j he with h|h
   · exact hj.2 h
   · omega
theorem Zgf {R:List KR}{r:Z0e}{A1:Option Addr}{c1:Nat}{A2:Option Addr}{c2:Nat}{A3:Option Addr}{c3:Nat}{A4:Option Addr}{c4:Nat}(hm:Z6w n K E w bm bp R) (hl :∀k,K k→k<w.heap.size) (hR:R.length≤100000) (hh:has Z5w R (k,r)=false)
 (hr:Z5q n (fun j=>K j∧¬E j) w r A1 c1 A2 c2 A3 c3 A4 c4) :
 Calls Tryz.prog 109 #[.pointer (some ⟨bm,0,none⟩),.int .i64 k,.agg #[.int .i64 r.num,.int .i64 r.level,.slice A1 r.elems.length c1,.slice A2 r.holes.length c2,.slice A3 r.aparts.length c3,.slice A4 r.news.length c4]] w fun e w'=>e = .returned (.bool true)∧Z6w n K E w' bm bp (put Z5w R (k,r))∧Mine [276,226] K w w':=by
 obtain ⟨m,h1,h2,h3⟩:=hm;have hrel:Zgv n (fun j=>K j∧¬E j) w (k,r) ⟨k,r.num,r.level,⟨A1,r.elems.length,c1⟩,⟨A2,r.holes.length,c2⟩,⟨A3,r.aparts.length,c3⟩,⟨A4,r.news.length,c4⟩⟩:=⟨rfl,rfl,rfl,rfl,rfl,rfl,rfl,hr⟩;obtain ⟨p1,p2⟩:=Z3c.put (fun a b h=>h.1) h3 hrel;rw [hh] at p1;have hml:=h3.length;refine (Zn8 ⟨k,r.num,r.level,⟨A1,r.elems.length,c1⟩,⟨A2,r.holes.length,c2⟩,⟨A3,r.aparts.length,c3⟩,⟨A4,r.news.length,c4⟩⟩ h1 h2 hl (by omega) p1.symm).mono ?_;rintro e w' ⟨he,g1,g2⟩;exact ⟨he,⟨_,g1,h2.put Z63 _,p2.imp fun a b hr=>hr.keep g2.fr.size (fun j hj hl=>⟨hj,g2.fr.block j hl (fun h=>h hj.1)⟩)⟩,g2⟩
end
end
section
open Go.RowKit Go.Shelf
attribute [local go_sem] Oper.semAt_some
def Z0x (lv:Int) (l:List Z07) (k:Nat):List Int:=((l.take k).filter fun e=>decide (lv≤e.level) && decide (0<e.cause)).map Z07.cause
theorem Z78 (lv:Int) (l:List Z07):Z0x lv l 0 = []:=by simp [Z0x]
theorem Z8a (lv:Int) (r:Z0e):Z0x lv r.elems r.elems.length=Z60 lv r:=by simp [Z0x,Z60]
theorem Zcq {lv:Int}{l:List Z07}{k:Nat}(hk:k<l.length) (h1:lv≤l[k].level) (h2:0<l[k].cause):Z0x lv l (k+1)=Z0x lv l k ++ [l[k].cause]:=by
 unfold Z0x;rw [←Z2b hk,List.filter_append,Zop];simp [h1,h2]
theorem Z9a {lv:Int}{l:List Z07}{k:Nat}(hk:k<l.length) (h :¬(lv≤l[k].level∧0<l[k].cause)):Z0x lv l (k+1)=Z0x lv l k:=by
 unfold Z0x;rw [←Z2b hk,List.filter_append,Zop]
 have:(decide (lv≤l[k].level) && decide (0<l[k].cause))=false:=by
  simp only [Bool.and_eq_false_iff,decide_eq_false_iff_not];rcases Classical.em (lv≤l[k].level) with h3|h3
  · exact .inr (fun h4=>h ⟨h3,h4⟩)
  · exact .inl h3
 simp [this]
end
section
open Go.RowKit
def pg (e:Z07):PgT:=⟨e.elem.tag,e⟩
def Z3h (lv:Int) (l:List Z07) (m:Nat):List Z07:=((l.take m).filter fun e=>decide (e.level<lv)).map bare
theorem Zdk (lv:Int) (l:List Z07):Z3h lv l 0 = []:=by simp [Z3h]
theorem Zg5 (lv:Int) (r:Z0e):Z3h lv r.elems r.elems.length=lows lv r:=by simp [Z3h,lows]
theorem Zg7 {lv:Int}{l:List Z07}{k:Nat}(hk:k<l.length) (h1:l[k].level<lv):Z3h lv l (k+1)=Z3h lv l k ++ [bare l[k]]:=by
 unfold Z3h;rw [←Z2b hk,List.filter_append,Zop];simp [h1]
theorem Zhx {lv:Int}{l:List Z07}{k:Nat}(hk:k<l.length) (h :¬l[k].level<lv):Z3h lv l (k+1)=Z3h lv l k:=by
 unfold Z3h;rw [←Z2b hk,List.filter_append,Zop];simp [h]
theorem Zg6 (lv:Int) (l:List Z07) (m:Nat):(Z3h lv l m).length≤l.length:=by
 unfold Z3h;rw [Zp1];exact Zo2 (List.length_filter_le _ _) (by simp;omega)
def gpg (lv:Int) (R:List KR):List PgT:=puts Z0t [] ((R.flatMap fun p=>lows lv p.2).map pg)
theorem Zj2 (lv:Int) (R:List KR):Srt Z0t (gpg lv R):=Srt.puts Z4q _ Srt.nil
theorem Zjr (lv:Int) (R:List KR) (p:KR):gpg lv (R ++ [p])=puts Z0t (gpg lv R) ((lows lv p.2).map pg):=by
 unfold gpg puts;rw [Zny,Zop,List.foldl_append];simp
theorem Zax {α β:Type}(f:α→List β) (N:Nat):∀(l:List α),(∀x∈l,(f x).length≤N)→(l.flatMap f).length≤N*l.length
 | [],_=>by simp
 | x :: l,h=>by
   have h1:=h x (by simp);have h2:=Zax f N l (fun y hy=>h y (by simp [hy]));rw [Zoo,Znp,Zo4,Nat.mul_add];omega
theorem Zhv {lv:Int}{R:List KR}(h :∀p∈R,p.2.elems.length≤1000):(gpg lv R).length≤1000*R.length:=by
 have h1:=Z1d Z4q ((R.flatMap fun p=>lows lv p.2).map pg) (l:=[]) Srt.nil
 have h2:=Zax (fun p:KR=>lows lv p.2) 1000 R (fun p hp=>by
  have:=h p hp;unfold lows;rw [Zp1]
  exact Zo2 (List.length_filter_le _ _) this)
 simp only [Zon,Zp1] at h1;unfold gpg;omega
theorem Zlo {α β:Type}(f:α→β) (p:β→Bool) (l:List α):(l.map f).any p=l.any fun x=>p (f x):=by induction l<;>simp_all
theorem Zmi (l:List Z07) (e:Z07):put Z0t (l.map pg) (pg e)=(put Zen l e).map pg:=by
 (have h1:has Z0t (l.map pg) (pg e)=has Zen l e:=by unfold has;rw [Zlo];rfl);unfold put;rw [h1]
 split
 · rfl
 · unfold below Z4f
   rw [List.filter_map,List.filter_map,Zop,List.map_cons];rfl
theorem Zlc (lv:Int) (R:List KR):gpg lv R=(Z5y lv R).map pg:=by
 unfold gpg Z5y puts;generalize (R.flatMap fun p=>lows lv p.2)=L
 have :∀(L:List Z07) (l:List Z07),(L.map pg).foldl (put Z0t) (l.map pg)=(L.foldl (put Zen) l).map pg:=by
  intro L
  induction L with
  | nil=>intro l;rfl
  | cons e L ih=>intro l;rw [List.map_cons,List.foldl_cons,List.foldl_cons,Zmi,ih]
 exact this L []
theorem Zdt (R:List KR) (p:KR):Z35 (R ++ [p])=p.2.news.foldl once (Z35 R):=by
 unfold Z35;rw [Zny,List.foldl_append];simp
theorem Zkm (L l:List Sym):(L.foldl once l).length≤l.length+L.length:=by
 induction L generalizing l with
 | nil=>simp
 | cons s L ih=>
   rw [List.foldl_cons];have:=ih (once l s);(have h2:(once l s).length≤l.length+1:=by unfold once;split<;>simp);simp only [Zo4];omega
theorem Zk0 {R:List KR}(h :∀p∈R,p.2.news.length≤1000):(Z35 R).length≤1000*R.length:=by
 have h1:=Zkm (R.flatMap fun p=>p.2.news) [];have h2:=Zax (fun p:KR=>p.2.news) 1000 R h;unfold Z35;simp only [Zon] at h1;omega
section
variable {B:Nat}{K K' C:Nat→Prop}{w w':World}
theorem OSet.priv {α:Type}{tSet tE size:Nat}{cells:α→List Value}{b:Nat}{l:List α}(h:OSet tSet tE size cells K w b l) (hp:Priv B w w'):OSet tSet tE size cells K w' b l:=by
 obtain ⟨sn,A,c,g1,g2,g3⟩:=h;exact ⟨sn,A,c,g1.priv hp,g2,g3⟩
theorem OSet.cls {α:Type}{tSet tE size:Nat}{cells:α→List Value}{b:Nat}{l:List α}(h:OSet tSet tE size cells K w b l) (hk :∀k,Z3d w k→K' k→K k):OSet tSet tE size cells K' w b l:=by
 obtain ⟨sn,A,c,g1,g2,g3⟩:=h;refine ⟨sn,A,c,g1,fun h=>g2 (hk _ g1.blk.at_ h),fun a ha h=>g3 a ha (hk _ ?_ h)⟩;subst ha;rcases Z0h g1.row with ⟨hv,_⟩|⟨g,cap,hv,_,_,⟨cur,hc,_⟩,_⟩
 · cases hv
 · injection hv with hv
   injection hv with hv;subst hv;exact ⟨cur,tE,(0,0),hc⟩
theorem OwnC.priv {α:Type}{r:RepT α}{e:TypeId}{v:Value}{l:List α}(h:OwnC r e C w v l) (hp:Priv B w w') (hC :∀k,C k→k<B∨Z3d w k):OwnC r e C w' v l:=by
 obtain ⟨css,h1,h2,h3⟩:=h;exact ⟨css,Z2u h1 hp,h2.imp fun a cs hr=>r.keep hp.size (fun k hk hl=>⟨hk,hp.block k hl (hC k hk)⟩) hr,h3⟩
theorem Z4n {e:TypeId}{size n:Nat}{v:Value}{xs:List Value}(h:w.ownsRow 0 e size v n xs):∀k,v.ownBlock=some k→Z3d w k:=by
 intro k hk;rcases h.2 with ⟨rfl,_⟩|⟨g,cap,cur,rfl,_,hg,_⟩
 · cases hk
 · simp only [Value.ownBlock,Option.some.injEq] at hk
   subst hk;exact ⟨cur,e,(0,0),hg⟩
end
structure SR (n B:Nat) (K C:Nat→Prop) (w:World) (gt gm gp ns:Nat) (vis lost:Int) (es:List Z07) (gs:List PgT) (hs:List Z4y) (ap:List Z09) (nw:List Sym) (v0 v1 v2 v3:Value):Prop where
 blk:Blk w gt 123 #[v0,v1,v2,v3,.int .i64 vis,.int .i64 lost]
 o0:w.ownsRow 0 64 14 v0 es.length (es.flatMap Z07.cells)
 n0 :∀k,v0.ownBlock=some k→¬K k
 o1:OwnC (Z14 n) 78 C w v1 hs
 n1 :∀k,v1.ownBlock=some k→¬K k
 o2:w.ownsRow 0 195 7 v2 ap.length (ap.flatMap Z09.cells)
 n2 :∀k,v2.ownBlock=some k→¬K k
 o3:w.ownsRow 0 38 3 v3 nw.length (nw.flatMap Sym.cells)
 n3 :∀k,v3.ownBlock=some k→¬K k
 set_:OSym (fun k=>K k∨v3.ownBlock=some k) w ns (puts Z1h [] nw)
 map_:Z8g K w gm gp gs
 srt:Srt Z0t gs
 nog :¬K gt
 sub :∀k,C k→K k
 lt :∀k,K k→k<w.heap.size
 cel :∀k,C k→k<B∨Z3d w k
section
variable {n B:Nat}{K K' C:Nat→Prop}{w w':World}{gt gm gp ns:Nat}{vis lost:Int}{es:List Z07}{gs:List PgT}{hs:List Z4y}{ap:List Z09}{nw:List Sym}{v0 v1 v2 v3:Value}
theorem SR.mine {ts:List Nat}(h:SR n B K C w gt gm gp ns vis lost es gs hs ap nw v0 v1 v2 v3) (hm:Mine ts K w w') (h3:123 ∉ ts) (h4:64 ∉ ts) (h5:78 ∉ ts) (h6:195 ∉ ts) (h7:38 ∉ ts) (h8:203 ∉ ts) (h9:242 ∉ ts) (h10:281 ∉ ts) (h11:240 ∉ ts) :
 SR n B K C w' gt gm gp ns vis lost es gs hs ap nw v0 v1 v2 v3:=by
 obtain ⟨css,q1,q2,q3⟩:=h.o1;have hc :∀k,C k→k<w.heap.size→w'.heap[k]? = w.heap[k]?:=fun k hk hl=>hm.fr.block k hl (fun hn=>hn (h.sub k hk));refine ⟨hm.only _ _ _ h3 h.blk,Z1b h.o0 hm.only h4,h.n0,⟨css,Z1b q1 hm.only h5,q2.imp fun a cs hr=>(Z14 n).keep hm.fr.size (fun k hk hl=>⟨hk,hc k hk hl⟩) hr,q3⟩,h.n1,Z1b h.o2 hm.only h6,h.n2,Z1b h.o3 hm.only h7,h.n3,?_,h.map_.mine hm h9 h10 h11,h.srt,h.nog,h.sub,fun k hk=>Znn (h.lt k hk) hm.fr.size,fun k hk=>(h.cel k hk).imp id (fun ⟨c,t,f,hh⟩=>⟨c,t,f,(hc k hk (Zo0.1 hh).1).trans hh⟩)⟩;obtain ⟨sn,A,c,g1,g2,g3⟩:=h.set_;exact ⟨sn,A,c,g1.only hm.only h8 h7,g2,g3⟩
theorem SR.new_ (h:SR n B K C w gt gm gp ns vis lost es gs hs ap nw v0 v1 v2 v3) (hb:Below w.heap.size w w'):SR n B K C w' gt gm gp ns vis lost es gs hs ap nw v0 v1 v2 v3:=
 h.mine (ts:=[]) (Mine.new_ hb) (by simp) (by simp) (by simp) (by simp) (by simp) (by simp) (by simp) (by simp) (by simp)
theorem SR.priv (h:SR n B K C w gt gm gp ns vis lost es gs hs ap nw v0 v1 v2 v3) (hp:Priv B w w'):SR n B K C w' gt gm gp ns vis lost es gs hs ap nw v0 v1 v2 v3:=
 ⟨h.blk.priv hp,Z2u h.o0 hp,h.n0,h.o1.priv hp h.cel,h.n1,Z2u h.o2 hp,h.n2,Z2u h.o3 hp,h.n3,h.set_.priv hp,⟨h.map_.1.priv hp,h.map_.2.1,h.map_.2.2.priv hp⟩,h.srt,h.nog,h.sub,fun k hk=>Znn (h.lt k hk) hp.size,fun k hk=>(h.cel k hk).imp id (fun ⟨c,t,f,hh⟩=>⟨c,t,f,(hp.block k (Zo0.1 hh).1 (.inr ⟨c,t,f,hh⟩)).trans hh⟩)⟩
theorem SR.cls (h:SR n B K C w gt gm gp ns vis lost es gs hs ap nw v0 v1 v2 v3) (hk :∀k,Z3d w k→K' k→K k) (hC :∀k,C k→K' k) (hl :∀k,K' k→k<w.heap.size):SR n B K' C w gt gm gp ns vis lost es gs hs ap nw v0 v1 v2 v3:=by
 obtain ⟨css,q1,q2,q3⟩:=h.o1
 exact ⟨h.blk,h.o0,fun k e hK=>h.n0 k e (hk k (Z4n h.o0 k e) hK),h.o1,fun k e hK=>h.n1 k e (hk k (Z4n q1 k e) hK),h.o2,fun k e hK=>h.n2 k e (hk k (Z4n h.o2 k e) hK),h.o3,fun k e hK=>h.n3 k e (hk k (Z4n h.o3 k e) hK),
  h.set_.cls (fun k hc hK=>hK.imp (hk k hc) id),⟨h.map_.1,fun hK=>h.map_.2.1 (hk _ h.map_.1.at_ hK),h.map_.2.2.cls hk⟩,h.srt,fun hK=>h.nog (hk _ h.blk.at_ hK),hC,hl,h.cel⟩
theorem SR.frB {M:Nat→Prop}(h:SR n B K C w gt gm gp ns vis lost es gs hs ap nw v0 v1 v2 v3) (hF:Fr M w w') (hM :∀k,M k→K k∧¬C k):SR n B K C w' gt gm gp ns vis lost es gs hs ap nw v0 v1 v2 v3:=by
 have hc :∀k,C k→¬M k:=fun k hk hm=>(hM k hm).2 hk;obtain ⟨sn,A,c,g1,g2,g3⟩:=h.set_
 refine ⟨h.blk.fr hF (fun hm=>h.nog (hM _ hm).1),Z15 h.o0 hF (fun k e hm=>h.n0 k e (hM k hm).1),h.n0,h.o1.fr hF hc (fun k e hm=>h.n1 k e (hM k hm).1),h.n1,Z15 h.o2 hF (fun k e hm=>h.n2 k e (hM k hm).1),h.n2,Z15 h.o3 hF (fun k e hm=>h.n3 k e (hM k hm).1),h.n3,
  ⟨sn,A,c,g1.fr hF (fun hm=>g2 (.inl (hM _ hm).1)) (fun a ha hm=>g3 a ha (.inl (hM _ hm).1)),g2,g3⟩,h.map_.theirs hF (fun k hm=>(hM k hm).1) (fun k hk=>.inl hk),h.srt,h.nog,h.sub,fun k hk=>Znn (h.lt k hk) hF.size,fun k hk=>(h.cel k hk).imp id (fun ⟨c,t,f,hh⟩=>⟨c,t,f,(hF.block k (Zo0.1 hh).1 (hc k hk)).trans hh⟩)⟩
theorem SR.ground {gs':List PgT}(h:SR n B K C w gt gm gp ns vis lost es gs hs ap nw v0 v1 v2 v3) (hm:Mine [281,240] K w w') (h1:Z8g K w' gm gp gs') (h2:Srt Z0t gs'):SR n B K C w' gt gm gp ns vis lost es gs' hs ap nw v0 v1 v2 v3:=by
 obtain ⟨css,q1,q2,q3⟩:=h.o1;have hc :∀k,C k→k<w.heap.size→w'.heap[k]? = w.heap[k]?:=fun k hk hl=>hm.fr.block k hl (fun hn=>hn (h.sub k hk));refine ⟨hm.only _ _ _ (by decide) h.blk,Z1b h.o0 hm.only (by decide),h.n0,⟨css,Z1b q1 hm.only (by decide),q2.imp fun a cs hr=>(Z14 n).keep hm.fr.size (fun k hk hl=>⟨hk,hc k hk hl⟩) hr,q3⟩,h.n1,Z1b h.o2 hm.only (by decide),h.n2,Z1b h.o3 hm.only (by decide),h.n3,?_,h1,h2,h.nog,h.sub,fun k hk=>Znn (h.lt k hk) hm.fr.size,fun k hk=>(h.cel k hk).imp id (fun ⟨c,t,f,hh⟩=>⟨c,t,f,(hc k hk (Zo0.1 hh).1).trans hh⟩)⟩;obtain ⟨sn,A,c,g1,g2,g3⟩:=h.set_;exact ⟨sn,A,c,g1.only hm.only (by decide) (by decide),g2,g3⟩
end
end
section
open Go.RowKit
section
variable {K:Nat→Prop}{w w':World}
theorem Zg0 {e:TypeId}{size n:Nat}{v:Value}{xs:List Value}(h:w.ownsRow 0 e size v n xs) (hg:w.grownBy w' v.ownBlock):Only [e] w w':=fun g t cs hn hb=>hb.grown hg (Z02 h hb (fun e=>hn (by simp [e])))
theorem Za9 {e:TypeId}{size n:Nat}{v:Value}{xs:List Value}(h:w.ownsRow 0 e size v n xs) (hg:w.grownBy w' v.ownBlock) (hK :∀k,v.ownBlock=some k→¬K k):Mine [e] K w w':=
 ⟨Zg0 h hg,(Fr.refl _ w).grown hg (fun k hk=>.inl (hK k hk))⟩
theorem Zif {v v':Value}(hl :∀k,K k→k<w.heap.size) (hK :∀k,v.ownBlock=some k→¬K k) (hat:v'.ownBlock=v.ownBlock∨v'.ownBlock=some w.heap.size):∀k,v'.ownBlock=some k→¬K k:=fun k hk=>by
 rcases hat with h|h
 · exact hK k (h ▸ hk)
 · rw [h] at hk
   injection hk with hk;intro hq;have:=hl k hq;omega
end
section
variable {n B:Nat}{K C:Nat→Prop}{w:World}{gt gm gp ns:Nat}{vis lost:Int}{es:List Z07}{gs:List PgT}{hs:List Z4y}{ap:List Z09}{nw:List Sym}{v0 v1 v2 v3:Value}
theorem SR.theirs {M K':Nat→Prop}{w':World}(h:SR n B K C w gt gm gp ns vis lost es gs hs ap nw v0 v1 v2 v3) (hF:Fr M w w') (hM :∀k,M k→K k∧¬C k) (hK :∀k,K' k→K k∨w.heap.size≤k) (hC :∀k,C k→K' k) (hl :∀k,K' k→k<w'.heap.size):SR n B K' C w' gt gm gp ns vis lost es gs hs ap nw v0 v1 v2 v3:=by
 have h2:=h.frB hF hM;have up :∀k,k<w.heap.size→K' k→K k:=fun k hk hq=>(hK k hq).elim id (fun hq=>by omega);obtain ⟨sn,A,c,g1,g2,g3⟩:=h.set_;obtain ⟨m1,m2,sn2,A2,c2,p1,p2,p3⟩:=h.map_
 have hs2:OSym (fun k=>K' k∨v3.ownBlock=some k) w' ns (puts Z1h [] nw):=
  ⟨sn,A,c,g1.fr hF (fun hm=>g2 (.inl (hM _ hm).1)) (fun a ha hm=>g3 a ha (.inl (hM _ hm).1)),fun hq=>g2 (hq.imp (up _ g1.lt) id),fun a ha hq=>g3 a ha (hq.imp (up _ (g1.row_lt a ha)) id)⟩
 have hm2:Z8g K' w' gm gp gs:=h.map_.theirs hF (fun k hm=>(hM k hm).1) hK;exact ⟨h2.blk,h2.o0,fun k e hq=>h.n0 k e (up k (Z77 h.o0 k e) hq),h2.o1,fun k e hq=>h.n1 k e (up k (h.o1.lt k e) hq),h2.o2,fun k e hq=>h.n2 k e (up k (Z77 h.o2 k e) hq),h2.o3,fun k e hq=>h.n3 k e (up k (Z77 h.o3 k e) hq),hs2,hm2,h.srt,fun hq=>h.nog (up _ h.blk.lt hq),hC,hl,h2.cel⟩
theorem SR.elem {es':List Z07}{v0':Value}{W W8:World}(h:SR n B K C w gt gm gp ns vis lost es gs hs ap nw v0 v1 v2 v3) (hb:Below w.heap.size w W) (hown:W8.ownsRow 0 64 14 v0' es'.length (es'.flatMap Z07.cells)) (hg:W.grownBy W8 v0.ownBlock) (hat:v0'.ownBlock=v0.ownBlock∨v0'.ownBlock=some W.heap.size) :
 SR n B K C (W8.setCell ⟨gt,0,none⟩ v0') gt gm gp ns vis lost es' gs hs ap nw v0' v1 v2 v3∧Fr (fun k=>¬K k) w (W8.setCell ⟨gt,0,none⟩ v0'):=by
 obtain ⟨W9,hW9⟩:∃W9,W9=W8.setCell ⟨gt,0,none⟩ v0':=⟨_,rfl⟩;have hm8:Mine [64] K w W8:=(Mine.new_ hb).trans (Za9 (h.new_ hb).o0 hg h.n0);have hb8:=hm8.only _ _ _ (by decide) h.blk;(have hm:Mine [64,123] K w W9:=by rw [hW9];exact (hm8.up (by simp)).trans (Mine.cell (p:=⟨gt,0,none⟩) hb8 (by simp) h.nog v0'));(have hb9:Blk W9 gt 123 #[v0',v1,v2,v3,.int .i64 vis,.int .i64 lost]:=by rw [hW9];exact hb8.set_ 0 _);(have ho9:W9.ownsRow 0 64 14 v0' es'.length (es'.flatMap Z07.cells):=by rw [hW9];exact ownsRow_setCell_other (a:=⟨gt,0,none⟩) hown (Z02 hown hb8 (by decide)) _);have hn9:=Zif (h.new_ hb).lt h.n0 hat;rw [←hW9];obtain ⟨css,q1,q2,q3⟩:=h.o1;obtain ⟨sn,A,c,g1,g2,g3⟩:=h.set_;have hc :∀k,C k→k<w.heap.size→W9.heap[k]? = w.heap[k]?:=fun k hk hl=>hm.fr.block k hl (fun hn=>hn (h.sub k hk))
 exact ⟨⟨hb9,
  ho9,
  hn9,
  ⟨css,Z1b q1 hm.only (by decide),q2.imp fun a cs hr=>(Z14 n).keep hm.fr.size (fun k hk hl=>⟨hk,hc k hk hl⟩) hr,q3⟩,
  h.n1,
  Z1b h.o2 hm.only (by decide),
  h.n2,
  Z1b h.o3 hm.only (by decide),
  h.n3,
  ⟨sn,A,c,g1.only hm.only (by decide) (by decide),g2,g3⟩,
  h.map_.mine hm (by decide) (by decide) (by decide),
  h.srt,
  h.nog,
  h.sub,
  fun k hk=>Znn (h.lt k hk) hm.fr.size,
  fun k hk=>(h.cel k hk).imp id (fun ⟨c,t,f,hh⟩=>⟨c,t,f,(hc k hk (Zo0.1 hh).1).trans hh⟩)⟩,hm.fr⟩
theorem SR.apart {ap':List Z09}{v2':Value}{W W8:World}(h:SR n B K C w gt gm gp ns vis lost es gs hs ap nw v0 v1 v2 v3) (hb:Below w.heap.size w W) (hown:W8.ownsRow 0 195 7 v2' ap'.length (ap'.flatMap Z09.cells)) (hg:W.grownBy W8 v2.ownBlock) (hat:v2'.ownBlock=v2.ownBlock∨v2'.ownBlock=some W.heap.size) :
 SR n B K C (W8.setCell ⟨gt,2,none⟩ v2') gt gm gp ns vis lost es gs hs ap' nw v0 v1 v2' v3∧Fr (fun k=>¬K k) w (W8.setCell ⟨gt,2,none⟩ v2'):=by
 obtain ⟨W9,hW9⟩:∃W9,W9=W8.setCell ⟨gt,2,none⟩ v2':=⟨_,rfl⟩;have hm8:Mine [195] K w W8:=(Mine.new_ hb).trans (Za9 (h.new_ hb).o2 hg h.n2);have hb8:=hm8.only _ _ _ (by decide) h.blk;(have hm:Mine [195,123] K w W9:=by rw [hW9];exact (hm8.up (by simp)).trans (Mine.cell (p:=⟨gt,2,none⟩) hb8 (by simp) h.nog v2'));(have hb9:Blk W9 gt 123 #[v0,v1,v2',v3,.int .i64 vis,.int .i64 lost]:=by rw [hW9];exact hb8.set_ 2 _);(have ho9:W9.ownsRow 0 195 7 v2' ap'.length (ap'.flatMap Z09.cells):=by rw [hW9];exact ownsRow_setCell_other (a:=⟨gt,2,none⟩) hown (Z02 hown hb8 (by decide)) _);have hn9:=Zif (h.new_ hb).lt h.n2 hat;rw [←hW9];obtain ⟨css,q1,q2,q3⟩:=h.o1;obtain ⟨sn,A,c,g1,g2,g3⟩:=h.set_;have hc :∀k,C k→k<w.heap.size→W9.heap[k]? = w.heap[k]?:=fun k hk hl=>hm.fr.block k hl (fun hn=>hn (h.sub k hk))
 exact ⟨⟨hb9,
  Z1b h.o0 hm.only (by decide),
  h.n0,
  ⟨css,Z1b q1 hm.only (by decide),q2.imp fun a cs hr=>(Z14 n).keep hm.fr.size (fun k hk hl=>⟨hk,hc k hk hl⟩) hr,q3⟩,
  h.n1,
  ho9,
  hn9,
  Z1b h.o3 hm.only (by decide),
  h.n3,
  ⟨sn,A,c,g1.only hm.only (by decide) (by decide),g2,g3⟩,
  h.map_.mine hm (by decide) (by decide) (by decide),
  h.srt,
  h.nog,
  h.sub,
  fun k hk=>Znn (h.lt k hk) hm.fr.size,
  fun k hk=>(h.cel k hk).imp id (fun ⟨c,t,f,hh⟩=>⟨c,t,f,(hc k hk (Zo0.1 hh).1).trans hh⟩)⟩,hm.fr⟩
end
end
section
open Go.RowKit Go.Shelf
attribute [local go_sem] Oper.semAt_some
def Z6x (n:Nat) (G:(Nat→Prop)→List Int→World→Prop) (look:Int→Z0e×Bool) (lv:Int) (E0:Nat→Prop) (done:List Int) (w:World) (e:Ending) (w':World):Prop:=
 ∃A1 c1 A2 c2 A3 c3 A4 c4 E',e = .returned (.agg #[.slice A1 (Z5p look lv done).elems.length c1,.slice A2 (Z5p look lv done).holes.length c2,.slice A3 (Z5p look lv done).aparts.length c3,.slice A4 (Z5p look lv done).news.length c4,.int .i64 ((Z5p look lv done).visited:Nat),.int .i64 ((Z5p look lv done).lost:Nat)])∧
  RowR Z0j (· < w'.heap.size) w' A1 c1 (Z5p look lv done).elems∧RowR (Z14 n) (· < w'.heap.size) w' A2 c2 (Z5p look lv done).holes∧RowR Z1o (· < w'.heap.size) w' A3 c3 (Z5p look lv done).aparts∧RowR Z24 (· < w'.heap.size) w' A4 c4 (Z5p look lv done).news∧
  G E' done w'∧(∀k,E' k→E0 k∨w.heap.size≤k)∧Fr E0 w w'
theorem Ze1 {α:Type}{w:World}{e size:Nat}{cells:α→List Value}(hs :∀a,(cells a).length=size){A:Option Addr}{c:Nat}{l:List α}(h:w.ownsRow 0 e size (.slice A l.length c) l.length (l.flatMap cells)):RowR (RepT.flat size cells hs) (· < w.heap.size) w A c l:=
 RowR.of_rd (Z0d hs h) (fun a ha=>Z77 h a.block (by subst ha;rfl))
end
end Go.Proofs.YtfidcfjcmlgkbaaGreat
