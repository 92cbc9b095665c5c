/-
  Texts put together: PutSym, NewSym, IterBase, Seq, IterSym, ListSym, Tab, RangeP, RangeO, Store, RangeO2, Open.
-/
import Derived.Test.YtfidcfjcmlgkbaaGreatPMb
import Derived.Test.YtfidcfjcmlgkbaaGreatRows
namespace Go.Proofs.YtfidcfjcmlgkbaaGreat
open Lib (hid)
set_option maxRecDepth 100000
set_option maxHeartbeats 32000000
set_option linter.unusedSimpArgs false
section
open Go.RowKit
def Z7n (w:World) (b:Nat) (sn:Bool) (A:Option Addr) (l:List Sym) (x:Sym) (e:Ending) (w':World):Prop:=
 e = .returned (.bool (!has Z1h l x))∧∃sn' A' c',Z5l w' b sn' A' c' (put Z1h l x)∧Fr (Z1f b sn A) w w'∧Z32 w sn A sn' A'
theorem Zbh (b c:Nat) (sn:Bool) (A:Option Addr) (l:List Sym) (x:Sym) (w:World) (hS:Z5l w b sn A c l) (hs:Srt Z1h l) (hl:(l.length:Int)≤100000000) (hh:has Z1h l x=true) :
 Calls Tryz.prog 88 #[.pointer (some ⟨b,0,none⟩),.agg #[.int .i64 x.kind,.string x.text,.int .i64 x.n]] w (Z7n w b sn A l x):=by
 have HS:=hid hS;have HO:=hid hs;clear hS hs;go_enter Tryz.func88,Tryz.ntmps88;(go_wp2_with fail);refine (Zep b c sn A l x _ (HS.out.new_ ((Znk _ _).alloc (Znl _) _)) HO.out (by omega)).mono ?_;rintro e w1 ⟨rfl,hb1⟩;(go_wp2_with fail);go_ret;refine ⟨by rw [hh];rfl,sn,A,c,?_,Fr.of_new (((Znk _ _).alloc (Znl _) _).trans (hb1.mono (by simp))),.inl ⟨rfl,rfl⟩⟩;rw [Z4z hh];exact HS.out.new_ (((Znk _ _).alloc (Znl _) _).trans (hb1.mono (by simp)))
theorem Ze9 (b c:Nat) (sn:Bool) (A:Option Addr) (l:List Sym) (x:Sym) (w:World) (hS:Z5l w b sn A c l) (hs:Srt Z1h l) (hl:(l.length:Int)≤100000000) (hh:has Z1h l x=false) :
 Calls Tryz.prog 88 #[.pointer (some ⟨b,0,none⟩),.agg #[.int .i64 x.kind,.string x.text,.int .i64 x.n]] w (Z7n w b sn A l x):=by
 obtain ⟨i0,hi,hz0,hz1,hz2⟩:=info_parts Zez;have HS:=hid hS;have HO:=hid hs;have hb:=hS.lt;clear hS hs;have hrk:=Z6p (cmp:=Z1h) l x;go_enter Tryz.func88,Tryz.ntmps88;(go_wp2_with fail);have hSa:=HS.out.new_ ((Znk w.heap.size w).alloc (Znl _) (.cells #[.int .i64 x.kind,.string x.text,.int .i64 x.n] 38));have HSa:=hid hSa;clear hSa;refine (Zep b c sn A l x _ HSa.out HO.out (by omega)).mono ?_;rintro e w1 ⟨rfl,hb1⟩;have HS1:=hid (HSa.out.new_ hb1);(have hsz1:w.heap.size+1≤w1.heap.size:=by have:=hb1.size;(try simp at this);omega);have y0:=(hb1.cell (p:=⟨w.heap.size,0,none⟩) (by simp)).trans ((Blk.new w 38 #[.int .i64 x.kind,.string x.text,.int .i64 x.n]).cell 0);have y1:=(hb1.cell (p:=⟨w.heap.size,1,none⟩) (by simp)).trans ((Blk.new w 38 #[.int .i64 x.kind,.string x.text,.int .i64 x.n]).cell 1);have y2:=(hb1.cell (p:=⟨w.heap.size,2,none⟩) (by simp)).trans ((Blk.new w 38 #[.int .i64 x.kind,.string x.text,.int .i64 x.n]).cell 2);have HB1:=hid hb1;clear hb1;(go_wp2_with fail);refine (Zmf b c sn A l _ HS1.out (by omega)).mono ?_;rintro e w2 ⟨rfl,A1,c1,hS2,hF2,hM2⟩;have hsz2:w1.heap.size≤w2.heap.size:=hF2.size;have x0:w2.cell? ⟨w.heap.size,0,none⟩=some (.int .i64 x.kind):=(hF2.cell (p:=⟨w.heap.size,0,none⟩) (by dsimp only;omega) (by dsimp only;omega)).trans y0;have x1:w2.cell? ⟨w.heap.size,1,none⟩=some (.string x.text):=(hF2.cell (p:=⟨w.heap.size,1,none⟩) (by dsimp only;omega) (by dsimp only;omega)).trans y1;have x2:w2.cell? ⟨w.heap.size,2,none⟩=some (.int .i64 x.n):=(hF2.cell (p:=⟨w.heap.size,2,none⟩) (by dsimp only;omega) (by dsimp only;omega)).trans y2;have s0:=hS2.cell0;have f0:=hS2.blk.frozen 0;(have hb2:b<w2.heap.size:=by omega);(have hk2:w.heap.size<w2.heap.size:=by omega);have HS2:=hid hS2;have HF2:=hid hF2;have HM2:=hid hM2;clear hS2 hF2 hM2 y0 y1 y2;(go_wp2_with fail);refine Z0c (fun w9=>Below w2.heap.size w2 w9) [(0,0),(1,0),(2,0),(3,0),(4,1),(5,1),(6,2),(7,2),(8,0),(9,0),(10,2)] (by kernel_rfl) (by kernel_rfl) (fun KK hKK=>?_);simp only [Z0w,Znz,Znt,Znv,Znr,Zns,Zo1];(repeat ((first|(refine Z0m ?_ (Or.inl ⟨by rfl,fun w9=>?_⟩) ?_;rotate_left 1;go_simp;with_reducible rfl)|(refine Z0k ?_ (((Znk _ _).drew)) (Or.inl ⟨by rfl,fun w9 hw9=>?_⟩) ?_;rotate_left 1;obtain ⟨hc9,hf9⟩:=Z1e hw9;go_simp;with_reducible rfl)|refine Z0m undef (Or.inr ⟨by rfl,rfl⟩) ?_|refine Z0k undef (((Znk _ _).drew)) (Or.inr ⟨by rfl,rfl⟩) ?_);go_frame));refine Z2j (fun K9 hK9=>?_);go_simp
 refine hK9 _ _ (((Znk _ _).drew).alloc (Znl _) _) ?_;clear hK9 K9;refine Z1y (by kernel_rfl) (fun K9 hK9=>?_)
 refine Z0f _ (by rfl) _ _ _ (by rfl) 38 i0 _ 3 32 Tryz.underlying27 hi hz0 hz1 hz2 rfl (by omega) _ l.length (l.flatMap Sym.cells) (by rfl) (Z05 HS2.out.row (((Znk _ _).drew).alloc (Znl _) _)) (some ⟨w2.heap.size,0,none⟩) 1 1 (Sym.cells x) (by rfl) (by rfl)
  (fun _=>⟨_,rfl,Zo7 (heap_alloc_new _ _)⟩) (Sym.one x) (by unfold maxLen;omega) (by omega) ?_
 intro v2 w3 hown hgr hnil hat;refine hK9 _ _ ?_;clear hK9 K9
 obtain ⟨g,c2,rfl⟩:∃g c2,v2 = .slice (some ⟨g,0,none⟩) (l.length+1) c2:=by
  rcases Z0h hown with ⟨_,h0,_⟩|⟨g,c2,h,_⟩
  · omega
  · exact ⟨g,c2,h⟩
 have HXN:(Value.slice A1 l.length c1).ownBlock≠some w.heap.size:=by
  intro h;rcases HM2.out with ⟨hsn,hA⟩|⟨_,g2,hg2,hA⟩
  · rcases A1 with _|a1
    · cases h
    · have h1:=HS.out.row_lt _ hA.symm
      simp only [Value.ownBlock,Option.some.injEq] at h;omega
  · subst hA
    simp only [Value.ownBlock,Option.some.injEq] at h;omega
 have HB3':=(HS2.out.blk.drew.alloc (.cells #[.int .i64 x.kind,.string x.text,.int .i64 x.n] 38)).grown hgr (Z02 HS2.out.row HS2.out.blk (by decide));have c0:=(HB3'.cell 0).trans rfl;have z0:=HB3'.frozen 0;have HB3:=hid HB3';have HOWN:=hid hown;have HGR:=hid hgr;clear HB3' hown hgr;(repeat ((first|(refine Z0m ?_ (Or.inl ⟨by rfl,fun w9=>?_⟩) ?_;rotate_left 1;go_simp;with_reducible rfl)|(refine Z0k ?_ (((Znk _ _).drew).alloc (Znl _) _) (Or.inl ⟨by rfl,fun w9 hw9=>?_⟩) ?_;rotate_left 1;obtain ⟨hc9,hf9⟩:=Z1e hw9;go_simp;with_reducible rfl)|refine Z0m undef (Or.inr ⟨by rfl,rfl⟩) ?_|refine Z0k undef (((Znk _ _).drew).alloc (Znl _) _) (Or.inr ⟨by rfl,rfl⟩) ?_);go_frame));refine Z1y (by kernel_rfl) (fun K9 hK9=>?_);go_simp;refine hK9 _ _ ?_;clear hK9 K9;refine Z16 ?_;simp only [Z04];refine hKK _ _ ?_;clear hKK KK;have hlg:((l.length+1:Nat):Int)=(l.length:Int)+1:=by omega
 have hG:(Z1f b sn A g∨w.heap.size≤g)∧Z32 w sn A false (some ⟨g,0,none⟩)∧g≠w.heap.size∧g≠b:=by
  rcases hat with h|h
  · rcases A1 with _|a1
    · simp [Value.ownBlock] at h
    · obtain ⟨A',c',hv,_,_,hz⟩:=Z0v HS2.out.row
      injection hv with hv _ _;obtain ⟨g',rfl⟩:=hz a1 hv.symm;(have hgg:g'=g:=by simpa [Value.ownBlock] using h.symm);subst hgg;have hne:g'≠b:=HS2.out.row_ne (by decide) _ rfl;rcases HM2.out with ⟨hsn,hA⟩|⟨_,g2,hg2,hA⟩
      · have h1:=HS.out.row_lt _ hA.symm
        exact ⟨.inl (.inr ⟨hsn.symm,_,hA.symm,rfl⟩),.inl ⟨hsn,hA⟩,by dsimp only at h1;omega,hne⟩
      · injection hA with hA
        injection hA with hA;subst hA;exact ⟨.inr (by omega),.inr ⟨rfl,_,by omega,rfl⟩,by omega,hne⟩
  · have hgg:g=w2.heap.size+1:=by simpa [Value.ownBlock] using h
    subst hgg;exact ⟨.inr (by omega),.inr ⟨rfl,_,by omega,rfl⟩,by omega,by omega⟩
 obtain ⟨hgM,hgMv,hgk1,hgb⟩:=hG;obtain ⟨w4,hw4⟩:∃w4,w4=w3.setCell ⟨b,0,none⟩ (.slice (some ⟨g,0,none⟩) (l.length+1) c2):=⟨_,rfl⟩;have hB4:Blk w4 b 203 #[.slice (some ⟨g,0,none⟩) (l.length+1) c2,.bool false]:=by rw [hw4];exact HB3.out.set_ 0 _
 have hR4:w4.ownsRow 0 38 3 (.slice (some ⟨g,0,none⟩) (l.length+1) c2) (l.length+1) ((Z0s l x l.length).flatMap Sym.cells):=by
  rw [hw4,Z2y];refine ownsRow_setCell_other (a:=⟨b,0,none⟩) ?_ (by simpa [Value.ownBlock] using hgb) _;rw [Zny,List.flatMap_singleton];exact HOWN.out
 have hF4:Fr (Z1f b sn A) w w4:=by
  rw [hw4];have h1:Fr (Z1f b sn A) w w1:=Fr.of_new (((Znk _ _).alloc (Znl _) _).trans (HB1.out.mono (by simp)));have h2:Fr (Z1f b sn A) w w2:=h1.trans (HF2.out.mono (fun k _ h=>.inl h));refine ((h2.drew.alloc _).grown HGR.out (fun k hk=>?_)).setCell (p:=⟨b,0,none⟩) (.inl (.inl rfl)) _;rcases A1 with _|a1
  · cases hk
  · simp only [Value.ownBlock,Option.some.injEq] at hk
    subst hk;rcases HM2.out with ⟨hsn,hA⟩|⟨_,g',hg',hA⟩
    · left;right;exact ⟨hsn.symm,a1,hA.symm,rfl⟩
    · injection hA with hA
      subst hA;right;dsimp only;omega
 have z0:w4.cell? ⟨w.heap.size,0,none⟩=some (.int .i64 x.kind):=by
  rw [hw4,World.cell?_setCell_other _ _ _ _ (by intro h;injection h;omega)];refine HGR.out.cell ((World.cell?_alloc_lt w2.drew _ ⟨w.heap.size,0,none⟩ hk2).trans x0) ?_;intro h;exact HXN (by simpa using h.symm)
 have z1:w4.cell? ⟨w.heap.size,1,none⟩=some (.string x.text):=by
  rw [hw4,World.cell?_setCell_other _ _ _ _ (by intro h;injection h;omega)];refine HGR.out.cell ((World.cell?_alloc_lt w2.drew _ ⟨w.heap.size,1,none⟩ hk2).trans x1) ?_;intro h;exact HXN (by simpa using h.symm)
 have z2:w4.cell? ⟨w.heap.size,2,none⟩=some (.int .i64 x.n):=by
  rw [hw4,World.cell?_setCell_other _ _ _ _ (by intro h;injection h;omega)];refine HGR.out.cell ((World.cell?_alloc_lt w2.drew _ ⟨w.heap.size,2,none⟩ hk2).trans x2) ?_;intro h;exact HXN (by simpa using h.symm)
 (have hk4:w.heap.size<w4.heap.size:=by rw [hw4];have:=HGR.out.size;simp at this ⊢;omega);rw [←hw4];have HgM:=hid hgM;have HgMv:=hid hgMv;have HB4:=hid hB4;have HR4:=hid hR4;have HF4:=hid hF4;have s4:=hB4.cell 0;have s4':w4.cell? ⟨b,0,none⟩=some (.slice (some ⟨g,0,none⟩) (l.length+1) c2):=s4;clear s4 hw4 hB4 hR4 hF4 hat hgM hgMv hnil x0 x1 x2 s0 f0;go_wp2_with fail
 go_loopw [7] (fun s wr=>∃i:Nat,s = .int .i64 i∧rank Z1h l x≤i∧i≤l.length∧wr.ownsRow 0 38 3 (.slice (some ⟨g,0,none⟩) (l.length+1) c2) (l.length+1) ((Z0s l x i).flatMap Sym.cells)∧Fr (· = g) w4 wr) (fun s wr=>(intOf s).toNat)
 case atStart=>exact ⟨l.length,by go_num,hrk,Znl _,HR4.out,Fr.refl _ _⟩
 case round=>
  obtain ⟨i,rfl,hi1,hi2,hown,hfr⟩:=hrel;have hgw:g<wr.heap.size:=(hown.lt g rfl).2;have r0:wr.cell? ⟨b,0,none⟩=some (.slice (some ⟨g,0,none⟩) (l.length+1) c2):=(hfr.cell (p:=⟨b,0,none⟩) HB4.out.lt (fun h=>hgb h.symm)).trans s4';have fz :∀o,wr.frozen? ⟨g,o,none⟩=false:=fun o=>hown.frozenAt o;have HOW:=hid hown;have HFR:=hid hfr;clear hown hfr;by_cases hlt:rank Z1h l x<i
  · obtain ⟨j,rfl⟩:∃j,i=j+1:=⟨i - 1,by omega⟩
    (have hj:j<l.length:=by omega);have hrd:=Z0d (A:=some ⟨g,0,none⟩) (c:=c2) (l:=Z0s l x (j+1)) Sym.cells_length (by rw [Z0g l x hi2];exact HOW.out);obtain ⟨g',o',hgo,_,hcell⟩:=hrd.at_ (k:=j) (by rw [Z0g l x hi2];omega);injection hgo with hgo;injection hgo with hg1 hg2;subst hg1;subst hg2;rw [Z3a l x hj] at hcell;(have q0:wr.cell? ⟨g,j*3,none⟩=some (.int .i64 l[j].kind):=by simpa using hcell 0 _ rfl);(have q1:wr.cell? ⟨g,j*3+1,none⟩=some (.string l[j].text):=by simpa using hcell 1 _ rfl);have q2:wr.cell? ⟨g,j*3+2,none⟩=some (.int .i64 l[j].n):=by simpa using hcell 2 _ rfl
    have rmj:Room wr g 38 (c2*3)∧l.length+1≤c2:=by
     rcases Z0h HOW.out with ⟨hv,_⟩|⟨g',cap,hv,hn,_,hr,_⟩
     · cases hv
     · injection hv with hA _ hc
       injection hA with hA;injection hA with hA;subst hA;subst hc;exact ⟨hr,hn⟩
    obtain ⟨hrm,hcap⟩:=rmj;obtain ⟨u0,t0⟩:=hrm.cell (i:=(j+1)*3) (by omega);obtain ⟨u1,t1⟩:=hrm.cell (i:=(j+1)*3+1) (by omega);obtain ⟨u2,t2⟩:=hrm.cell (i:=(j+1)*3+2) (by omega);(have b0:(0:Int)≤(j:Int)+1:=by omega);(have b1:(0:Int)≤(j:Int):=by omega);(have b4:(j:Int)<(l.length:Int):=by omega);(have b2:(j:Int)<(l.length:Int)+1:=by omega);(have b3:(j:Int)+1<(l.length:Int)+1:=by omega);have w1:IntKind.i64.wrap ((j:Int))=(j:Int):=Znu _ (by omega);(have w2:IntKind.i64.wrap ((j:Int)+1 - 1)=(j:Int):=by rw [Znu _ (by omega)];omega);clear hcell hrd hrm;obtain ⟨y,hy⟩:∃y,y=l[j]:=⟨_,rfl⟩;rw [←hy] at q0 q1 q2;have HY:=hid hy;have hbw:b<wr.heap.size:=Znx wr _ r0;clear hy;(go_wp2_with fail);refine Z0c (fun w9=>Below wr.heap.size wr w9) [(0,0),(1,0),(2,0),(3,1),(4,0),(5,0),(6,0),(7,0),(8,1),(9,0),(10,0),(11,0),(12,1),(13,0),(14,2)] (by kernel_rfl) (by kernel_rfl) (fun KK hKK=>?_);simp only [Z0w,Znz,Znt,Znv,Znr,Zns,Zo1];(repeat ((first|(refine Z0m ?_ (Or.inl ⟨by rfl,fun w9=>?_⟩) ?_;rotate_left 1;go_simp;with_reducible rfl)|(refine Z0k ?_ (((Znk _ _).drew)) (Or.inl ⟨by rfl,fun w9 hw9=>?_⟩) ?_;rotate_left 1;obtain ⟨hc9,hf9⟩:=Z1e hw9;go_simp;with_reducible rfl)|refine Z0m undef (Or.inr ⟨by rfl,rfl⟩) ?_|refine Z0k undef (((Znk _ _).drew)) (Or.inr ⟨by rfl,rfl⟩) ?_);go_frame));refine Z1y (by kernel_rfl) (fun K9 hK9=>?_);go_simp;refine hK9 _ _ ?_;clear hK9 K9;refine Z16 ?_;simp only [Z04];refine hKK _ _ ?_;clear hKK KK;(go_wp2_with fail);go_roundw
    case rel=>
     refine ⟨j,by go_num,by omega,by omega,?_,Fr.drew ((((HFR.out).setCell (p:=⟨g,(j+1)*3,none⟩) (.inl rfl) (_)).setCell (p:=⟨g,(j+1)*3+1,none⟩) (.inl rfl) (_)).setCell (p:=⟨g,(j+1)*3+2,none⟩) (.inl rfl) (_))⟩;have hst:=((((((HOW.out).stored ((j+1)*3) (.int .i64 y.kind)).1).stored ((j+1)*3+1) (.string y.text)).1).stored ((j+1)*3+2) (.int .i64 y.n)).1
     have he:setAll ((Z0s l x (j+1)).flatMap Sym.cells) ((j+1)*3) (Sym.cells y)=(Z0s l x j).flatMap Sym.cells:=by
      rw [Z8p Sym.cells_length (by omega) _ (j+1) (by rw [Z0g l x hi2];omega),HY.out,Z3b l x hj]
     rw [←he];exact hst
    case measure=>simp [intOf]<;>omega
  · obtain rfl:i=rank Z1h l x:=by omega
    have rmj:Room wr g 38 (c2*3)∧l.length+1≤c2:=by
     rcases Z0h HOW.out with ⟨hv,_⟩|⟨g',cap,hv,hn,_,hr,_⟩
     · cases hv
     · injection hv with hA _ hc
       injection hA with hA;injection hA with hA;subst hA;subst hc;exact ⟨hr,hn⟩
    obtain ⟨hrm,hcap⟩:=rmj;obtain ⟨k,hk⟩:∃k,k=rank Z1h l x:=⟨_,rfl⟩;rw [←hk] at hi2 hlt ⊢;obtain ⟨u0,t0⟩:=hrm.cell (i:=k*3) (by omega);obtain ⟨u1,t1⟩:=hrm.cell (i:=k*3+1) (by omega);obtain ⟨u2,t2⟩:=hrm.cell (i:=k*3+2) (by omega);have x0:=(HFR.out.cell (p:=⟨w.heap.size,0,none⟩) hk4 (fun h=>hgk1 h.symm)).trans z0;have x1:=(HFR.out.cell (p:=⟨w.heap.size,1,none⟩) hk4 (fun h=>hgk1 h.symm)).trans z1;have x2:=(HFR.out.cell (p:=⟨w.heap.size,2,none⟩) hk4 (fun h=>hgk1 h.symm)).trans z2;(have b1:(0:Int)≤(k:Int):=by omega);(have b2:(k:Int)<(l.length:Int)+1:=by omega);have HK:=hid hk;(have hkw:w.heap.size<wr.heap.size:=by have:=HFR.out.size;omega);have hbw:b<wr.heap.size:=Znx wr _ r0;clear hrm hk z0 z1 z2;(go_wp2_with fail);refine Z0c (fun w9=>Below wr.heap.size wr w9) [(0,0),(1,0),(2,0),(3,1),(4,0),(5,1),(6,0),(7,2)] (by kernel_rfl) (by kernel_rfl) (fun KK hKK=>?_);simp only [Z0w,Znz,Znt,Znv,Znr,Zns,Zo1];(repeat ((first|(refine Z0m ?_ (Or.inl ⟨by rfl,fun w9=>?_⟩) ?_;rotate_left 1;go_simp;with_reducible rfl)|(refine Z0k ?_ (((Znk _ _).drew)) (Or.inl ⟨by rfl,fun w9 hw9=>?_⟩) ?_;rotate_left 1;obtain ⟨hc9,hf9⟩:=Z1e hw9;go_simp;with_reducible rfl)|refine Z0m undef (Or.inr ⟨by rfl,rfl⟩) ?_|refine Z0k undef (((Znk _ _).drew)) (Or.inr ⟨by rfl,rfl⟩) ?_);go_frame));refine Z1y (by kernel_rfl) (fun K9 hK9=>?_);go_simp;refine hK9 _ _ ?_;clear hK9 K9;refine Z16 ?_;simp only [Z04];refine hKK _ _ ?_;clear hKK KK;(go_wp2_with fail);go_ret;have HOWk:=HOW.out;rw [←HK.out] at HOWk;have hst:=((((((HOWk).stored (k*3) (.int .i64 x.kind)).1).stored (k*3+1) (.string x.text)).1).stored (k*3+2) (.int .i64 x.n)).1
    have he:setAll ((Z0s l x k).flatMap Sym.cells) (k*3) (Sym.cells x)=(put Z1h l x).flatMap Sym.cells:=by
     rw [Z8p Sym.cells_length (by omega) _ k (by rw [Z0g l x hi2];omega),Z3t l x hi2,Z9b Z6e HO.out hh,HK.out]
    have hln:=Z3s Z6e HO.out hh;refine ⟨by rw [hh];rfl,false,some ⟨g,0,none⟩,c2,⟨?_,?_⟩,?_,?_⟩
    · rw [hln]
      exact (((HB4.out.fr HFR.out (fun h=>hgb h.symm)).far (p:=⟨g,k*3,none⟩) (fun h=>hgb h.symm) _).far (p:=⟨g,k*3+1,none⟩) (fun h=>hgb h.symm) _).far (p:=⟨g,k*3+2,none⟩) (fun h=>hgb h.symm) _
    · rw [hln,←he]
      exact hst
    · exact HF4.out.into (Fr.drew ((((HFR.out).setCell (p:=⟨g,k*3,none⟩) (.inl rfl) (_)).setCell (p:=⟨g,k*3+1,none⟩) (.inl rfl) (_)).setCell (p:=⟨g,k*3+2,none⟩) (.inl rfl) (_))) (fun k hk=>by subst hk;exact HgM.out)
    · exact HgMv.out
theorem Zmh (b c:Nat) (sn:Bool) (A:Option Addr) (l:List Sym) (x:Sym) (w:World) (hS:Z5l w b sn A c l) (hs:Srt Z1h l) (hl:(l.length:Int)≤100000000) :
 Calls Tryz.prog 88 #[.pointer (some ⟨b,0,none⟩),.agg #[.int .i64 x.kind,.string x.text,.int .i64 x.n]] w (Z7n w b sn A l x):=by
 cases hh:has Z1h l x
 · exact Ze9 b c sn A l x w hS hs hl hh
 · exact Zbh b c sn A l x w hS hs hl hh
def Zfm (w:World) (xs:List Sym) (e:Ending) (w':World):Prop:=
 ∃k,e = .returned (.pointer (some ⟨k,0,none⟩))∧w.heap.size≤k∧∃sn A c,Z5l w' k sn A c (puts Z1h [] xs)∧AIn A (w.heap.size≤·)∧Below w.heap.size w w'
theorem Zm8 (A:Option Addr) (c:Nat) (xs:List Sym) (w:World) (hrd:Z0z w 3 Sym.cells A c xs) (hl:(xs.length:Int)≤10000000) :
 Calls Tryz.prog 85 #[.slice A xs.length c] w (Zfm w xs):=by
 have HRD:=hid hrd;clear hrd;go_enter Tryz.func85,Tryz.ntmps85;(go_wp2_with fail);obtain ⟨W0,hW0⟩:∃W0,W0=w.alloc (.cells #[.slice none 0 0,.bool false] 203):=⟨_,rfl⟩;(have hb0:Below w.heap.size w W0:=by rw [hW0];exact (Znk _ _).alloc (Znl _) _);have hS0:Z5l W0 w.heap.size false none 0 []:=⟨by rw [hW0];exact Blk.new _ _ _,⟨by simp,.inl ⟨rfl,rfl⟩⟩⟩;rw [←hW0];clear hW0;have HB0:=hid hb0;have HS0:=hid hS0;clear hb0 hS0
 go_loopw [10] (fun s wr=>∃i:Nat,s = .int .i64 i∧i≤xs.length∧∃sn A' c',Z5l wr w.heap.size sn A' c' (puts Z1h [] (xs.take i))∧AIn A' (w.heap.size≤·)∧Below w.heap.size w wr) (fun s wr=>xs.length - (intOf s).toNat)
 case atStart=>exact ⟨0,rfl,Nat.zero_le _,false,none,0,HS0.out,AIn.none_ _,HB0.out⟩
 case round=>
  obtain ⟨i,rfl,hi,sn,A',c',hS,hA',hB⟩:=hrel;have HS:=hid hS;have HA:=hid hA';have HB:=hid hB;clear hS hA' hB;by_cases hlt:i<xs.length
  · obtain ⟨x,hx⟩:∃x,x=xs[i]:=⟨_,rfl⟩
    obtain ⟨g,off,rfl,hgs,hcell⟩:=(HRD.out.fr (Fr.of_new (M:=fun _=>False) HB.out) (fun _ _ h=>h)).at_ hlt;rw [←hx] at hcell;(have q0:wr.cell? ⟨g,off+i*3,none⟩=some (.int .i64 x.kind):=by simpa using hcell 0 _ rfl);(have q1:wr.cell? ⟨g,off+i*3+1,none⟩=some (.string x.text):=by simpa using hcell 1 _ rfl);(have q2:wr.cell? ⟨g,off+i*3+2,none⟩=some (.int .i64 x.n):=by simpa using hcell 2 _ rfl);(have b1:(0:Int)≤(i:Int):=by omega);(have b2:(i:Int)<(xs.length:Int):=by omega);have HX:=hid hx;clear hcell hx;(go_wp2_with fail);have hsr:=Srt.puts Z6e (xs.take i) (Srt.nil (cmp:=Z1h))
    have hlen:(((puts Z1h [] (xs.take i)).length:Nat):Int)≤100000000:=by
     have:=Z1d Z6e (xs.take i) (Srt.nil (cmp:=Z1h));simp at this;omega
    refine (Zmh w.heap.size c' sn A' _ x _ (HS.out.new_ ((Znk _ _).alloc (Znl _) _)) hsr hlen).mono ?_;rintro e w1 ⟨rfl,sn2,A2,c2,hS2,hF2,hM2⟩
    have hB1:Below w.heap.size w w1:=(HB.out.alloc HB.out.size _).trans (hF2.below (by have:=HB.out.size;(try simp);omega) (fun k hk hm=>by
     rcases hm with hm|⟨_,a,ha,hm⟩
     · omega
     · have:=HA.out a ha;omega))
    have hA2:AIn A2 (w.heap.size≤·):=by
     rcases hM2 with ⟨_,rfl⟩|⟨_,g2,hg2,rfl⟩
     · exact HA.out
     · intro a ha;cases ha;have:=HB.out.size;(try simp at hg2 ⊢);omega
    have HS2:=hid hS2;have HB1:=hid hB1;have HA2:=hid hA2;clear hS2 hB1 hA2 hF2 hM2 hsr hlen q0 q1 q2;(go_wp2_with fail);go_roundw
    case rel=>
     refine ⟨i+1,by go_num,by omega,sn2,A2,c2,?_,HA2.out,HB1.out⟩;rw [Zor,Znq hlt,←HX.out];simp only [Option.toList_some,Z36];exact HS2.out
    case measure=>simp [intOf]<;>omega
  · have hie:i=xs.length:=by omega
    subst hie;(go_wp2_with fail);go_ret;refine ⟨w.heap.size,rfl,Znl _,sn,A',c',?_,HA.out,HB.out⟩;have:=HS.out;rwa [Zo6] at this
end
section
open Go.RowKit Go.Shelf
def Z10 (A:Option Addr) (W W':World):Prop:=W.heap.size≤W'.heap.size∧∀a,A=some a→a.block<W.heap.size→W'.heap[a.block]? = W.heap[a.block]?
theorem Z10.trans {A:Option Addr}{X Y Z:World}(h:Z10 A X Y) (k:Z10 A Y Z):Z10 A X Z:=⟨Zo2 h.1 k.1,fun a e hl=>(k.2 a e (Znn hl h.1)).trans (h.2 a e hl)⟩
theorem Z10.of_priv {A:Option Addr}{B:Nat}{X Y:World}(hA:AIn A (· < B)) (h:Priv B X Y):Z10 A X Y:=⟨h.size,fun a e hl=>h.block _ hl (.inl (hA a e))⟩
theorem Z10.of_below {A:Option Addr}{B:Nat}{X Y:World}(hA:AIn A (· < B)) (h:Below B X Y):Z10 A X Y:=⟨h.size,fun a e _=>h.block _ (hA a e)⟩
theorem Z10.rd {α:Type}{size c:Nat}{cells:α→List Value}{A:Option Addr}{l:List α}{W W':World}(hk:Z10 A W W') (h:Z0z W size cells A c l):Z0z W' size cells A c l:=
 h.keep hk.1 (fun p hp ⟨a,ha,hb⟩=>World.cell?_of_block (by rw [←hb];exact hk.2 a ha (by rw [hb];exact hp)))
def Z1k (b:Nat) (X Y:World):Prop:=∃X1,Below X.heap.size X X1∧Y=X1.setCell ⟨b,1,none⟩ (.bool true)
theorem Z1k.fr {b:Nat}{W W1:World}(h:Z1k b W W1):Fr (· = b) W W1:=by
 obtain ⟨X1,hb,rfl⟩:=h;exact (Fr.of_new (M:=(· = b)) hb).setCell (p:=⟨b,1,none⟩) (.inl rfl) _
abbrev Zl9 {α:Type}(lo:Nat) (encs:α→Array Value) (xs:List α) (Kp:World→World→Prop) (J Jx:List α→World→Prop):Prop:=
 ∀pre x post W1,xs=pre++x :: post→J pre W1→YieldAt Fence.wide 0 Tryz.prog lo (encs x) W1 fun e W'=>
  (e = .returned (.bool true)∧J (pre ++ [x]) W'∧Kp W1 W')∨(e = .returned (.bool false)∧Jx (pre ++ [x]) W')
abbrev Told {α:Type}(xs:List α) (J Jx:List α→World→Prop) (e:Ending) (W':World):Prop:=(∃v,e = .returned v)∧(J xs W'∨∃pre post,xs=pre++post∧Jx pre W')
end
section
open Go.RowKit Go.Shelf
attribute [local go_sem] Oper.semAt_some
structure Seq {α:Type}(gf:Nat) (lb:Array Value) (encs:α→Array Value) (xs:List α) (w:World) (start Kp:World→World→Prop):Prop where
 enter :∀args w,(callFunc gf args).run Tryz.prog w = .ok (.enter gf args) w
 iter :∀W,Below w.heap.size w W→Iter Tryz.prog gf lb encs xs W start (fun X Y=>Kp X Y∧KeepsFrom W.heap.size X Y)
 trans :∀A B C,Kp A B→Kp B C→Kp A C
 keep :∀A B,Priv w.heap.size A B→Kp A B
 below :∀A B,Below w.heap.size A B→Kp A B
 mods :∀W W1,start W W1→Fr (· < w.heap.size) W W1
theorem Z3g {B:Nat}{X Y:World}(h:Fr (· < B) X Y):KeepsFrom B X Y:=⟨h.size,fun k _ hB hk _=>(h.block k (Zo0.1 hk).1 (by omega)).trans hk⟩
theorem Z68 (W:World) (base:Nat) (e:TypeId) (size:Nat):W.ownsRow base e size (.slice none 0 0) 0 []:=⟨by simp,.inl ⟨rfl,rfl⟩⟩
end
section
open Go.RowKit
theorem Zh6 {α:Type}{tSet tE size:Nat}{cells:α→List Value}{w:World}{b:Nat}{sn:Bool}{A:Option Addr}{c:Nat}{l:List α}{g:Nat}{t:TypeId}{cs:Array Value}
 (hS:Z25 tSet tE size cells w b sn A c l) (hB:Blk w g t cs) (h1:t≠tSet) (h2:t≠tE):¬Z1f b sn A g:=by
 rintro (rfl|⟨_,a,ha,rfl⟩)
 · exact hB.ne_ hS.blk h1 rfl
 · have:=Z02 hS.row hB (Ne.symm h2)
   subst ha;exact this (by simp [Value.ownBlock])
section
variable {D:Nat→Prop}{w w':World}{S:Nat→Option (List Sym)}{σ:Nat→St}  {σ2:Nat→St}
def Off {α:Type}(k:Nat) (S:Nat→Option (List α)) (σ:Nat→St):Prop:=∀b l,S b=some l→b≠k∧AIn (σ b).A (·≠k)
theorem Off.new_ {α:Type}{tSet tE size:Nat}{cells:α→List Value}{cmp:α→α→Int}{S:Nat→Option (List α)}(h:Sets tSet tE size cells cmp D w S σ){k:Nat}(hk:w.heap.size≤k):Off k S σ:=
 fun b l hb=>⟨by have:=h.lt hb;omega,fun a ha=>by have:=(h.at_ b l hb).row_lt a ha;omega⟩
theorem Off.moved {α:Type}{S:Nat→Option (List α)}{k b:Nat}{l l':List α}{st:St}(h:Off k S σ) (hb:S b=some l) (hM:Z32 w (σ b).sn (σ b).A st.sn st.A) (hk:k<w.heap.size):Off k (upd S b (some l')) (upd σ b st):=by
 intro b' m hm;by_cases e:b'=b
 · subst e
   refine ⟨(h b' l hb).1,?_⟩;rw [Z0r];rcases hM with ⟨_,hA⟩|⟨_,g,hg,hA⟩
   · rw [hA];exact (h b' l hb).2
   · rw [hA];intro a ha;cases ha;dsimp only;omega
 · rw [Z1q _ _ e] at hm ⊢
   exact h b' m hm
end
end
section
open Go.RowKit
variable {P:Program}
structure Kept (B:Nat) (F X Y:World):Prop where
 from_:KeepsFrom B X Y
 own :∀k,B≤k→k<F.heap.size→Y.heap[k]? = X.heap[k]?
section
variable {B C:Nat}{F X Y Z:World}
theorem Kept.trans (h:Kept B F X Y) (k:Kept B F Y Z):Kept B F X Z:=⟨h.1.trans k.1,fun i h1 h2=>(k.2 i h1 h2).trans (h.2 i h1 h2)⟩
theorem Kept.up (h:Kept B F X Y) (hB:B≤C):Kept C F X Y:=⟨KeepsFrom.up h.1 hB,fun i h1 h2=>h.2 i (by omega) h2⟩
theorem Kept.put_ {l:Nat}(h:Kept B F X Y) (hl:l<B) (o:Obj):Kept B F X (Y.putObj l o):=⟨KeepsFrom.put_ h.1 hl o,fun i h1 h2=>(Zob (by omega)).trans (h.2 i h1 h2)⟩
theorem Kept.new_ (h:Below X.heap.size X Y) (hs:F.heap.size≤X.heap.size):Kept B F X Y:=
 ⟨⟨h.size,fun k o _ hk _=>(h.block k (Zo0.1 hk).1).trans hk⟩,fun k _ hk=>h.block k (by omega)⟩
end
def Zgt {α:Type}(P:Program) (gf:Nat) (lb:Array Value) (encs:α→Array Value) (xs:List α) (W:World) (start Kp:World→World→Prop):Prop:=
 ∀(l:Nat) (J Jx:World→List α→World→Prop),(∀F p X Y,J F p X→Priv W.heap.size X Y→J F p Y)→(∀F p X Y,Jx F p X→Priv W.heap.size X Y→Jx F p Y)→
  (∀F,start W F→J F [] F)→
  (∀F pre x post W1,start W F→xs=pre++x :: post→J F pre W1→YieldAt Fence.wide 0 P l (encs x) W1 fun e W'=>
    (e = .returned (.bool true)∧J F (pre ++ [x]) W'∧Kp W1 W'∧Kept W.heap.size F W1 W')∨(e = .returned (.bool false)∧Jx F (pre ++ [x]) W'∧Kept W.heap.size F W1 W'))→
  CallsIn Fence.wide 0 P gf (#[.func (.yield l) #[] #[]]++lb) W fun e W'=>(∃v,e = .returned v)∧∃F,start W F∧(J F xs W'∨∃pre post,xs=pre++post∧Jx F pre W')
theorem Iter.p {α:Type}{gf:Nat}{lb:Array Value}{encs:α→Array Value}{xs:List α}{W:World}{start Kp:World→World→Prop}(h:Iter P gf lb encs xs W start (fun X Y=>Kp X Y∧KeepsFrom W.heap.size X Y)):Zgt P gf lb encs xs W start Kp:=by
 intro l J Jx h1 h2 h3 h4;refine (h l (fun p X=>∃F,start W F∧J F p X) (fun p X=>∃F,start W F∧Jx F p X) (fun p X Y ⟨F,a,b⟩ hp=>⟨F,a,h1 F p X Y b hp⟩) (fun p X Y ⟨F,a,b⟩ hp=>⟨F,a,h2 F p X Y b hp⟩) (fun F hF=>⟨F,hF,h3 F hF⟩) ?_).mono ?_
 · rintro pre x post W1 hx ⟨F,hF,hJ⟩
   obtain ⟨fn,tmps,assign,body,hy,hR⟩:=h4 F pre x post W1 hF hx hJ;refine ⟨fn,tmps,assign,body,hy,hR.mono ?_⟩;rintro e W' (⟨g1,g2,g3,g4⟩|⟨g1,g2,_⟩)
   · exact .inl ⟨g1,⟨F,hF,g2⟩,g3,g4.1⟩
   · exact .inr ⟨g1,F,hF,g2⟩
 · rintro e W' ⟨hv,(⟨F,hF,hJ⟩|⟨pre,post,hx,F,hF,hJ⟩)⟩
   · exact ⟨hv,F,hF,.inl hJ⟩
   · exact ⟨hv,F,hF,.inr ⟨pre,post,hx,hJ⟩⟩
def Znb {α:Type}(KpW:World→Prop) (B:Nat) (F:World) (I:World→List α→World→Prop) (Ix:World→Code→List α→World→Prop) (p:List α) (W:World):Exit→Act→World→Prop
 | .normal,_,W'=>Kept B F W W'∧KpW W'∧I F p W'
 | .ret,_,W'=>Kept B F W W'∧Ix F .ret p W'
 | .exit id,_,W'=>Kept B F W W'∧Ix F (.exit id) p W'
 | .goto t,_,W'=>Kept B F W W'∧Ix F (.goto t) p W'
 | .panic _,_,_=>False
 | .outgrown,_,_=>False
theorem Z5i {α:Type}{g:Operand}{ps:Array Tmp}{assign body:Code}{Q:Exit→Act→World→Prop}{a:Act}{w:World}{gf:Nat}{lb:Array Value}
 (hg:a.eval g = .func (.func gf) #[] lb) (eg :∀args w,(callFunc gf args).run P w = .ok (.enter gf args) w)
 {encs:α→Array Value}{xs:List α}{start Kp:World→World→Prop}(hseq :∀W,Below w.heap.size w W→Zgt P gf lb encs xs W start Kp)
 (hps :∀x,(encs x).size=ps.size) (hKt :∀A B C,Kp A B→Kp B C→Kp A C) (hKp :∀A B,Priv w.heap.size A B→Kp A B) (hst :∀W W1,start W W1→KeepsFrom w.heap.size W W1)
 (I:World→List α→World→Prop) (Ix:World→Code→List α→World→Prop) (hI :∀F p X Y,I F p X→Priv w.heap.size X Y→I F p Y) (hIx :∀F c p X Y,Ix F c p X→Priv w.heap.size X Y→Ix F c p Y)
 (h0 :∀W F,Below w.heap.size w W→start W F→I F [] F)
 (hround :∀(F:World) (l:Nat) (pre:List α) (x:α) (post:List α) (W:World),xs=pre++x :: post→w.heap.size≤l→I F pre W→
   assign.wpIn (Fence.wide.inRound l) 0 P (Exit.then (fun a1 W1=>Kept w.heap.size F W W1∧∀W2,Priv w.heap.size W1 W2→W2.heap.size=W1.heap.size→(∃r,W2.heap[l]? = some (.loop r))→
    body.wpIn (Fence.wide.inRound l) 0 P (Znb (Kp W) w.heap.size F I Ix (pre ++ [x]) W2) a1 W2) (fun _ _ _=>False))
    { tmps:=(ps.zip (encs x)).foldl (fun t (p,v)=>t.setIfInBounds p v) a.tmps,defers:=[] } W)
 (hdone :∀(F:World) (D:Nat) (W:World),w.heap.size≤D→I F xs W→W.heap[D]? = some (.deferred (some []))→Q .normal { a with defers:={ target:=.collected D,args:=#[] } :: a.defers } W)
 (hstop :∀(F:World) (D:Nat) (c:Code) (pre post:List α) (W:World),w.heap.size≤D→xs=pre++post→Ix F c pre W→W.heap[D]? = some (.deferred (some []))→c.wpIn Fence.wide 0 P Q { a with defers:={ target:=.collected D,args:=#[] } :: a.defers } W) :
 (Code.rangeFunc g ps assign body).wpIn Fence.wide 0 P Q a w:=by
 refine wpIn_rangeFunc ?_;intro fn hfn;obtain ⟨rec,hrec⟩:∃rec:LoopState→Option Code→Loop,rec=fun st pe=>{ state:=st,pending:=pe,fn,tmps:=a.tmps,params:=ps,assign,body,defers:=w.heap.size }:=⟨_,rfl⟩;obtain ⟨W1,hW1⟩:∃W1,(w.alloc (.deferred (some []))).alloc (.loop (rec .ready none))=W1:=⟨_,rfl⟩
 have hL1:W1.heap[w.heap.size+1]? = some (.loop (rec .ready none)):=by
  rw [←hW1];have:=Zp7 (w.alloc (.deferred (some []))) (.loop (rec .ready none));rwa [Zoj] at this
 have hK1:W1.heap[w.heap.size]? = some (.deferred (some [])):=by
  rw [←hW1];exact (Zp6 _ _ _ (by simp)).trans (Zp7 w _)
 have hb1:Below w.heap.size w W1:=by
  rw [←hW1];exact ((Znk _ w).alloc (Znl _) _).alloc (by simp) _
 have hz1:W1.heap.size=w.heap.size+2:=by rw [←hW1];simp
 refine ⟨w.heap.size+1,[{ target:=.collected w.heap.size,args:=#[] }],W1,{ target:=.fn (.func gf) lb,args:=#[.func (.yield (w.heap.size+1)) #[] #[]] },W1,gf,
  #[.func (.yield (w.heap.size+1)) #[] #[]]++lb,W1,?_,?_,fun _ _=>trivial,?_,fun h=>by simp [Fence.wide] at h,?_⟩
 · rw [←hW1,hrec];exact run_enterLoop_outer _ _ _ _ _
 · simp only [resolve,hg]
   simp [go_sem]
 · simp [invoke,go_sem,eg]
 · have keep :∀{X Y:World}{k:Nat}{o:Obj},Priv W1.heap.size X Y→X.heap[k]? = some o→k<W1.heap.size→Y.heap[k]? = some o:=fun hp hk hlt=>
    (hp.block _ (Zo0.1 hk).1 (.inl hlt)).trans hk
   refine (hseq W1 hb1 (w.heap.size+1)
    (fun F pre W=>(∃W0,Below w.heap.size w W0∧start W0 F)∧I F pre W∧W.heap[w.heap.size+1]? = some (.loop (rec .ready none))∧W.heap[w.heap.size]? = some (.deferred (some [])))
    (fun F pre W=>∃c,Ix F c pre W∧W.heap[w.heap.size+1]? = some (.loop (rec .done (some c)))∧W.heap[w.heap.size]? = some (.deferred (some [])))
    (fun F p X Y ⟨h0,h1,h2,h3⟩ hp=>⟨h0,hI F p X Y h1 (hp.mono (by omega)),keep hp h2 (by omega),keep hp h3 (by omega)⟩)
    (fun F p X Y ⟨c,h1,h2,h3⟩ hp=>⟨c,hIx F c p X Y h1 (hp.mono (by omega)),keep hp h2 (by omega),keep hp h3 (by omega)⟩)
    (fun W2 hs=>⟨⟨W1,hb1,hs⟩,h0 W1 W2 hb1 hs,(hst _ _ hs).same _ _ (by omega) hL1 rfl,(hst _ _ hs).same _ _ (by omega) hK1 rfl⟩) ?_).mono ?_
   · rintro F pre x post W hst0 hx ⟨hw0,hi,hl,hk⟩
     have hy:=run_yield (P:=P) (args:=encs x) hl (by rw [hrec];exact hps x);rw [hrec] at hy;refine ⟨fn,_,assign,body,hy,roundIn_of_wpIn hfn ?_⟩;refine wpIn_mono (hround F (w.heap.size+1) pre x post W hx (by omega) hi) ?_;rintro e a1 Wa hp
     cases e with
     | normal=>
       obtain ⟨hka,hbody⟩:=hp;have hla:=hka.1.same _ _ (by omega) hl rfl;have hkd:=hka.1.same _ _ (by omega) hk rfl;have hlt:w.heap.size+1<Wa.heap.size:=(Zo0.1 hla).1;have hbr:=run_beginRound (P:=P) hla (by rw [hrec]);refine ⟨_,hbr,?_⟩;have hl2:(Wa.putObj (w.heap.size+1) (.loop { rec .ready none with state:=.busy })).heap[w.heap.size+1]? = some (.loop { rec .ready none with state:=.busy }):=World.putObj_heap_same hlt;have hk2:(Wa.putObj (w.heap.size+1) (.loop { rec .ready none with state:=.busy })).heap[w.heap.size]? = some (.deferred (some [])):=(Zob (by omega)).trans hkd;refine wpIn_mono (hbody _ ((Priv.refl _ Wa).putObj (by omega) hla rfl _) (by simp) ⟨_,hl2⟩) ?_
       have fin :∀(jump:Option Code) (W3:World),Kept w.heap.size F (Wa.putObj (w.heap.size+1) (.loop { rec .ready none with state:=.busy })) W3→
        (Instr.endRound (w.heap.size+1) jump).run P W3 = .ok (.bool jump.isNone) (W3.putObj (w.heap.size+1) (.loop (rec (if jump.isNone then .ready else .done) jump)))∧
        Priv w.heap.size W3 (W3.putObj (w.heap.size+1) (.loop (rec (if jump.isNone then .ready else .done) jump)))∧
        (W3.putObj (w.heap.size+1) (.loop (rec (if jump.isNone then .ready else .done) jump))).heap[w.heap.size+1]? = some (.loop (rec (if jump.isNone then .ready else .done) jump))∧
        (W3.putObj (w.heap.size+1) (.loop (rec (if jump.isNone then .ready else .done) jump))).heap[w.heap.size]? = some (.deferred (some [])):=fun jump W3 hk3=>by
        have hl3:=hk3.1.same _ _ (by omega) hl2 rfl;have:=run_endRound (P:=P) jump hl3;rw [hrec] at this ⊢;exact ⟨this,(Priv.refl _ _).putObj (by omega) hl3 rfl _,World.putObj_heap_same (Zo0.1 hl3).1,(Zob (by omega)).trans (hk3.1.same _ _ (Znl _) hk2 rfl)⟩
       rintro e a3 W3 hp
       cases e with
       | normal=>
         obtain ⟨hk3,hkp3,hi3⟩:=hp;obtain ⟨hr,hpv,hl4,hk4⟩:=fin none W3 hk3;refine ⟨_,_,hr,.inl ⟨rfl,⟨hw0,hI _ _ _ _ hi3 hpv,hl4,hk4⟩,hKt _ _ _ hkp3 (hKp _ _ hpv),?_⟩⟩;exact (((hka.up (by omega)).put_ (by omega) _).trans (hk3.up (by omega))).put_ (by omega) _
       | ret=>
         obtain ⟨hk3,hi3⟩:=hp;obtain ⟨hr,hpv,hl4,hk4⟩:=fin (some .ret) W3 hk3;exact ⟨_,_,hr,.inr ⟨rfl,⟨.ret,hIx _ _ _ _ _ hi3 hpv,hl4,hk4⟩,(((hka.up (by omega)).put_ (by omega) _).trans (hk3.up (by omega))).put_ (by omega) _⟩⟩
       | exit id=>
         obtain ⟨hk3,hi3⟩:=hp;obtain ⟨hr,hpv,hl4,hk4⟩:=fin (some (.exit id)) W3 hk3;exact ⟨_,_,hr,.inr ⟨rfl,⟨.exit id,hIx _ _ _ _ _ hi3 hpv,hl4,hk4⟩,(((hka.up (by omega)).put_ (by omega) _).trans (hk3.up (by omega))).put_ (by omega) _⟩⟩
       | goto t=>
         obtain ⟨hk3,hi3⟩:=hp;obtain ⟨hr,hpv,hl4,hk4⟩:=fin (some (.goto t)) W3 hk3;exact ⟨_,_,hr,.inr ⟨rfl,⟨.goto t,hIx _ _ _ _ _ hi3 hpv,hl4,hk4⟩,(((hka.up (by omega)).put_ (by omega) _).trans (hk3.up (by omega))).put_ (by omega) _⟩⟩
       | panic ch=>exact hp.elim
       | outgrown=>exact hp.elim
     | exit id=>exact hp.elim
     | goto l=>exact hp.elim
     | ret=>exact hp.elim
     | panic ch=>exact hp.elim
     | outgrown=>exact hp.elim
   · rintro e W2 ⟨⟨v,rfl⟩,F,_,(⟨_,hi,hl,hk⟩|⟨pre,post,hS,c,hi,hl,hk⟩)⟩
     · exact ⟨none,_,by have:=run_endLoop (P:=P) hl (by rw [hrec];simp);rw [hrec] at this;exact this,hdone F _ _ (Znl _) (hI _ _ _ _ hi ((Priv.refl _ _).putObj (by omega) hl rfl _)) ((Zob (by omega)).trans hk)⟩
     · exact ⟨some c,_,by have:=run_endLoop (P:=P) hl (by rw [hrec];simp);rw [hrec] at this;exact this,hstop F _ c pre post _ (Znl _) hS (hIx _ c _ _ _ hi ((Priv.refl _ _).putObj (by omega) hl rfl _)) ((Zob (by omega)).trans hk)⟩
end
section
open Go.RowKit
variable {P:Program}
def Plus (D:Nat→Prop) (X Y:World):Nat→Prop:=fun k=>D k∨(X.heap.size≤k∧k<Y.heap.size)
def Zgs (B:Nat) (D:Nat→Prop):Nat→Prop:=fun k=>D k∧B≤k
theorem Plus.same {D:Nat→Prop}{X Y:World}(h:Y.heap.size=X.heap.size):Plus D X Y=D:=by
 funext k;apply propext;unfold Plus;constructor
 · rintro (h|h)
   · exact h
   · omega
 · exact .inl
def Z5k {α:Type}(B:Nat) (J:(Nat→Prop)→List α→World→Prop):Prop:=∀D p X Y,J D p X→Fr (Zgs B D) X Y→J (Plus D X Y) p Y
theorem Z5k.same {α:Type}{B:Nat}{J:(Nat→Prop)→List α→World→Prop}(h:Z5k B J){D:Nat→Prop}{p:List α}{X Y:World}(hJ:J D p X) (hF:Fr (Zgs B D) X Y) (hz:Y.heap.size=X.heap.size):J D p Y:=by
 have:=h D p X Y hJ hF;rwa [Plus.same hz] at this
def Zap {α:Type}(P:Program) (l:Nat) (encs:α→Array Value) (xs:List α) (J Jx:(Nat→Prop)→List α→World→Prop):Prop:=
 ∀D pre x post W1,xs=pre++x :: post→J D pre W1→YieldAt Fence.wide 0 P l (encs x) W1 fun e W'=>
  (e = .returned (.bool true)∧J D (pre ++ [x]) W'∧Fr (fun k=>¬D k) W1 W')∨(e = .returned (.bool false)∧Jx D (pre ++ [x]) W'∧Fr (fun k=>¬D k) W1 W')
def Zjf {α:Type}(xs:List α) (J Jx:(Nat→Prop)→List α→World→Prop) (W':World):Prop:=∃D,J D xs W'∨∃pre post,xs=pre++post∧Jx D pre W'
def Zlj {α:Type}(P:Program) (gf:Nat) (lb:Array Value) (encs:α→Array Value) (xs:List α) (W:World) (D:Nat→Prop):Prop:=
 ∀(l:Nat) (J Jx:(Nat→Prop)→List α→World→Prop),Z5k W.heap.size J→Z5k W.heap.size Jx→J D [] W→Zap P l encs xs J Jx→
  CallsIn Fence.wide 0 P gf (#[.func (.yield l) #[] #[]]++lb) W fun e W'=>(∃v,e = .returned v)∧Zjf xs J Jx W'
theorem Fr.putObj {M:Nat→Prop}{X Y:World}(h:Fr M X Y){l:Nat}(hl:M l∨X.heap.size≤l) (o:Obj):Fr M X (Y.putObj l o):=
 ⟨h.os,h.tape,h.output,by simpa using h.size,fun k hk hn=>(Zob (by
  rintro rfl;rcases hl with hl|hl
  · exact hn hl
  · omega)).trans (h.block k hk hn)⟩
def Zna {α:Type}(D:Nat→Prop) (I:(Nat→Prop)→List α→World→Prop) (Ix:Code→(Nat→Prop)→List α→World→Prop) (p:List α) (W:World):Exit→Act→World→Prop
 | .normal,_,W'=>Fr (fun k=>¬D k) W W'∧I D p W'
 | .ret,_,W'=>Fr (fun k=>¬D k) W W'∧Ix .ret D p W'
 | .exit id,_,W'=>Fr (fun k=>¬D k) W W'∧Ix (.exit id) D p W'
 | .goto t,_,W'=>Fr (fun k=>¬D k) W W'∧Ix (.goto t) D p W'
 | .panic _,_,_=>False
 | .outgrown,_,_=>False
theorem Zei {α:Type}{g:Operand}{ps:Array Tmp}{assign body:Code}{Q:Exit→Act→World→Prop}{a:Act}{w:World}{gf:Nat}{lb:Array Value}
 (hg:a.eval g = .func (.func gf) #[] lb) (eg :∀args w,(callFunc gf args).run P w = .ok (.enter gf args) w)
 {encs:α→Array Value}{xs:List α}{D:Nat→Prop}(hD :∀k,D k→k<w.heap.size) (hseq :∀W,Below w.heap.size w W→Zlj P gf lb encs xs W D)
 (hps :∀x,(encs x).size=ps.size)
 (I:(Nat→Prop)→List α→World→Prop) (Ix:Code→(Nat→Prop)→List α→World→Prop) (hI:Z5k w.heap.size I) (hIx :∀c,Z5k w.heap.size (Ix c))
 (h0:I D [] w)
 (hround :∀(D:Nat→Prop) (l:Nat) (pre:List α) (x:α) (post:List α) (W:World),xs=pre++x :: post→w.heap.size≤l→D l→I D pre W→
   assign.wpIn (Fence.wide.inRound l) 0 P (Exit.then (fun a1 W1=>Fr (fun k=>¬D k) W W1∧∀W2,Fr (· = l) W1 W2→W2.heap.size=W1.heap.size→(∃r,W2.heap[l]? = some (.loop r))→
    body.wpIn (Fence.wide.inRound l) 0 P (Zna D I Ix (pre ++ [x]) W2) a1 W2) (fun _ _ _=>False))
    { tmps:=(ps.zip (encs x)).foldl (fun t (p,v)=>t.setIfInBounds p v) a.tmps,defers:=[] } W)
 (hdone :∀(D:Nat→Prop) (d:Nat) (W:World),w.heap.size≤d→D d→I D xs W→W.heap[d]? = some (.deferred (some []))→Q .normal { a with defers:={ target:=.collected d,args:=#[] } :: a.defers } W)
 (hstop :∀(D:Nat→Prop) (d:Nat) (c:Code) (pre post:List α) (W:World),w.heap.size≤d→D d→xs=pre++post→Ix c D pre W→W.heap[d]? = some (.deferred (some []))→c.wpIn Fence.wide 0 P Q { a with defers:={ target:=.collected d,args:=#[] } :: a.defers } W) :
 (Code.rangeFunc g ps assign body).wpIn Fence.wide 0 P Q a w:=by
 refine wpIn_rangeFunc ?_;intro fn hfn;obtain ⟨rec,hrec⟩:∃rec:LoopState→Option Code→Loop,rec=fun st pe=>{ state:=st,pending:=pe,fn,tmps:=a.tmps,params:=ps,assign,body,defers:=w.heap.size }:=⟨_,rfl⟩;obtain ⟨W1,hW1⟩:∃W1,(w.alloc (.deferred (some []))).alloc (.loop (rec .ready none))=W1:=⟨_,rfl⟩
 have hL1:W1.heap[w.heap.size+1]? = some (.loop (rec .ready none)):=by
  rw [←hW1];have:=Zp7 (w.alloc (.deferred (some []))) (.loop (rec .ready none));rwa [Zoj] at this
 have hK1:W1.heap[w.heap.size]? = some (.deferred (some [])):=by
  rw [←hW1];exact (Zp6 _ _ _ (by simp)).trans (Zp7 w _)
 have hb1:Below w.heap.size w W1:=by
  rw [←hW1];exact ((Znk _ w).alloc (Znl _) _).alloc (by simp) _
 (have hz1:W1.heap.size=w.heap.size+2:=by rw [←hW1];simp);obtain ⟨U,hU⟩:∃U:(Nat→Prop)→Nat→Prop,U=fun D' k=>D' k∨(w.heap.size≤k∧k<w.heap.size+2):=⟨_,rfl⟩;(have u0 :∀D',U D' w.heap.size:=fun D'=>by rw [hU];exact .inr ⟨by omega,by omega⟩);(have u1 :∀D',U D' (w.heap.size+1):=fun D'=>by rw [hU];exact .inr ⟨by omega,by omega⟩);have us :∀D' k,D' k→U D' k:=fun D' k h=>by rw [hU];exact .inl h
 have up :∀D' (X Y:World),Plus (U D') X Y=U (Plus D' X Y):=fun D' X Y=>by
  funext k;apply propext;rw [hU];unfold Plus;dsimp only;constructor
  · rintro ((h|h)|h)
    · exact .inl (.inl h)
    · exact .inr h
    · exact .inl (.inr h)
  · rintro ((h|h)|h)
    · exact .inl (.inl h)
    · exact .inr h
    · exact .inl (.inr h)
 have hstart:I (U D) [] W1:=by
  have h9:=hI D [] w W1 h0 (Fr.of_new hb1);(have e:Plus D w W1=U D:=by funext k;rw [hU];unfold Plus;rw [hz1]);rwa [e] at h9
 refine ⟨w.heap.size+1,[{ target:=.collected w.heap.size,args:=#[] }],W1,{ target:=.fn (.func gf) lb,args:=#[.func (.yield (w.heap.size+1)) #[] #[]] },W1,gf,
  #[.func (.yield (w.heap.size+1)) #[] #[]]++lb,W1,?_,?_,fun _ _=>trivial,?_,fun h=>by simp [Fence.wide] at h,?_⟩
 · rw [←hW1,hrec];exact run_enterLoop_outer _ _ _ _ _
 · simp only [resolve,hg]
   simp [go_sem]
 · simp [invoke,go_sem,eg]
 · refine (hseq W1 hb1 (w.heap.size+1)
    (fun D' pre W=>I (U D') pre W∧¬D' w.heap.size∧¬D' (w.heap.size+1)∧W.heap[w.heap.size+1]? = some (.loop (rec .ready none))∧W.heap[w.heap.size]? = some (.deferred (some [])))
    (fun D' pre W=>¬D' w.heap.size∧¬D' (w.heap.size+1)∧∃c,Ix c (U D') pre W∧W.heap[w.heap.size+1]? = some (.loop (rec .done (some c)))∧W.heap[w.heap.size]? = some (.deferred (some [])))
    (fun D' p X Y ⟨h1,h2,h3,h4,h5⟩ hF=>?_) (fun D' p X Y ⟨h2,h3,c,h1,h4,h5⟩ hF=>?_)
    ⟨hstart,fun h=>by have:=hD _ h;omega,fun h=>by have:=hD _ h;omega,hL1,hK1⟩ ?_).mono ?_
   · have z4:=(Zo0.1 h4).1
     have z5:=(Zo0.1 h5).1;refine ⟨by rw [←up];exact hI _ _ _ _ h1 (hF.mono (fun k _ hk=>⟨us _ _ hk.1,by have:=hk.2;omega⟩)),?_,?_,(hF.block _ z4 (fun hk=>h3 hk.1)).trans h4,(hF.block _ z5 (fun hk=>h2 hk.1)).trans h5⟩
     · rintro (h|h)
       · exact h2 h
       · omega
     · rintro (h|h)
       · exact h3 h
       · omega
   · have z4:=(Zo0.1 h4).1
     have z5:=(Zo0.1 h5).1;refine ⟨?_,?_,c,by rw [←up];exact hIx c _ _ _ _ h1 (hF.mono (fun k _ hk=>⟨us _ _ hk.1,by have:=hk.2;omega⟩)),(hF.block _ z4 (fun hk=>h3 hk.1)).trans h4,(hF.block _ z5 (fun hk=>h2 hk.1)).trans h5⟩
     · rintro (h|h)
       · exact h2 h
       · omega
     · rintro (h|h)
       · exact h3 h
       · omega
   · rintro D' pre x post W hx ⟨hi,nd,nl,hl,hk⟩
     have hy:=run_yield (P:=P) (args:=encs x) hl (by rw [hrec];exact hps x);rw [hrec] at hy;refine ⟨fn,_,assign,body,hy,roundIn_of_wpIn hfn ?_⟩;refine wpIn_mono (hround (U D') (w.heap.size+1) pre x post W hx (by omega) (u1 _) hi) ?_;rintro e a1 Wa hp;have lu :∀{X Y:World},Fr (fun k=>¬U D' k) X Y→Fr (fun k=>¬D' k) X Y:=fun h=>h.mono (fun k _ hk hd=>hk (us _ _ hd))
     cases e with
     | normal=>
       obtain ⟨hfa,hbody⟩:=hp;have zl:=(Zo0.1 hl).1;have zk:=(Zo0.1 hk).1;have hla:=(hfa.block _ zl (fun hn=>hn (u1 _))).trans hl;have hkd:=(hfa.block _ zk (fun hn=>hn (u0 _))).trans hk;have hlt:w.heap.size+1<Wa.heap.size:=(Zo0.1 hla).1;have hbr:=run_beginRound (P:=P) hla (by rw [hrec]);refine ⟨_,hbr,?_⟩;have hl2:(Wa.putObj (w.heap.size+1) (.loop { rec .ready none with state:=.busy })).heap[w.heap.size+1]? = some (.loop { rec .ready none with state:=.busy }):=World.putObj_heap_same hlt;have hk2:(Wa.putObj (w.heap.size+1) (.loop { rec .ready none with state:=.busy })).heap[w.heap.size]? = some (.deferred (some [])):=(Zob (by omega)).trans hkd;have hfb:Fr (fun k=>¬D' k) W (Wa.putObj (w.heap.size+1) (.loop { rec .ready none with state:=.busy })):=(lu hfa).trans ((Fr.refl _ Wa).putObj (.inl nl) _);refine wpIn_mono (hbody _ ((Fr.refl (· = w.heap.size+1) Wa).putObj (.inl rfl) _) (by simp) ⟨_,hl2⟩) ?_
       have fin :∀(jump:Option Code) (W3:World),Fr (fun k=>¬U D' k) (Wa.putObj (w.heap.size+1) (.loop { rec .ready none with state:=.busy })) W3→
        (Instr.endRound (w.heap.size+1) jump).run P W3 = .ok (.bool jump.isNone) (W3.putObj (w.heap.size+1) (.loop (rec (if jump.isNone then .ready else .done) jump)))∧
        Fr (Zgs w.heap.size (U D')) W3 (W3.putObj (w.heap.size+1) (.loop (rec (if jump.isNone then .ready else .done) jump)))∧
        Fr (fun k=>¬D' k) W (W3.putObj (w.heap.size+1) (.loop (rec (if jump.isNone then .ready else .done) jump)))∧
        (W3.putObj (w.heap.size+1) (.loop (rec (if jump.isNone then .ready else .done) jump))).heap[w.heap.size+1]? = some (.loop (rec (if jump.isNone then .ready else .done) jump))∧
        (W3.putObj (w.heap.size+1) (.loop (rec (if jump.isNone then .ready else .done) jump))).heap[w.heap.size]? = some (.deferred (some [])):=fun jump W3 hk3=>by
        have hl3:=(hk3.block _ (by simpa using hlt) (fun hn=>hn (u1 _))).trans hl2;have hd3:=(hk3.block _ (by have:=hlt;simp;omega) (fun hn=>hn (u0 _))).trans hk2;have:=run_endRound (P:=P) jump hl3;rw [hrec] at this ⊢;exact ⟨this,(Fr.refl _ W3).putObj (.inl ⟨u1 _,by omega⟩) _,(hfb.trans (lu hk3)).trans ((Fr.refl _ W3).putObj (.inl nl) _),World.putObj_heap_same (Zo0.1 hl3).1,(Zob (by omega)).trans hd3⟩
       rintro e a3 W3 hp
       cases e with
       | normal=>
         obtain ⟨hk3,hi3⟩:=hp;obtain ⟨hr,hst,hfr,hl4,hk4⟩:=fin none W3 hk3;exact ⟨_,_,hr,.inl ⟨rfl,⟨hI.same hi3 hst (by simp),nd,nl,hl4,hk4⟩,hfr⟩⟩
       | ret=>
         obtain ⟨hk3,hi3⟩:=hp;obtain ⟨hr,hst,hfr,hl4,hk4⟩:=fin (some .ret) W3 hk3;exact ⟨_,_,hr,.inr ⟨rfl,⟨nd,nl,.ret,(hIx .ret).same hi3 hst (by simp),hl4,hk4⟩,hfr⟩⟩
       | exit id=>
         obtain ⟨hk3,hi3⟩:=hp;obtain ⟨hr,hst,hfr,hl4,hk4⟩:=fin (some (.exit id)) W3 hk3;exact ⟨_,_,hr,.inr ⟨rfl,⟨nd,nl,.exit id,(hIx (.exit id)).same hi3 hst (by simp),hl4,hk4⟩,hfr⟩⟩
       | goto t=>
         obtain ⟨hk3,hi3⟩:=hp;obtain ⟨hr,hst,hfr,hl4,hk4⟩:=fin (some (.goto t)) W3 hk3;exact ⟨_,_,hr,.inr ⟨rfl,⟨nd,nl,.goto t,(hIx (.goto t)).same hi3 hst (by simp),hl4,hk4⟩,hfr⟩⟩
       | panic ch=>exact hp.elim
       | outgrown=>exact hp.elim
     | exit id=>exact hp.elim
     | goto l=>exact hp.elim
     | ret=>exact hp.elim
     | panic ch=>exact hp.elim
     | outgrown=>exact hp.elim
   · have pst :∀(D':Nat→Prop) (X:World) (o:Obj),Fr (Zgs w.heap.size (U D')) X (X.putObj (w.heap.size+1) o):=fun D' X o=>(Fr.refl _ X).putObj (.inl ⟨u1 _,by omega⟩) _
     rintro e W2 ⟨⟨v,rfl⟩,D',(⟨hi,nd,nl,hl,hk⟩|⟨pre,post,hS,nd,nl,c,hi,hl,hk⟩)⟩
     · exact ⟨none,_,by have:=run_endLoop (P:=P) hl (by rw [hrec];simp);rw [hrec] at this;exact this,hdone (U D') _ _ (Znl _) (u0 _) (hI.same hi (pst _ _ _) (by simp)) ((Zob (by omega)).trans hk)⟩
     · exact ⟨some c,_,by have:=run_endLoop (P:=P) hl (by rw [hrec];simp);rw [hrec] at this;exact this,hstop (U D') _ c pre post _ (Znl _) (u0 _) hS ((hIx c).same hi (pst _ _ _) (by simp)) ((Zob (by omega)).trans hk)⟩
end
section
open Go.RowKit
theorem Fr.setCells {M:Nat→Prop}{a:World}{g:Nat} :∀(vs:List Value) (o:Nat){b:World},Fr M a b→(M g∨a.heap.size≤g)→Fr M a (b.setCells g o vs)
 | [],_,_,h,_=>h
 | v :: vs,o,_,h,hg=>Fr.setCells vs (o+1) (h.setCell (p:=⟨g,o,none⟩) hg v) hg
theorem Z5n {g:Nat}{e:TypeId}{size n cap:Nat} :∀(vs:List Value) (o:Nat){w:World}{xs:List Value},w.ownsRow 0 e size (.slice (some ⟨g,0,none⟩) n cap) n xs→(w.setCells g o vs).ownsRow 0 e size (.slice (some ⟨g,0,none⟩) n cap) n ((vs.zipIdx o).foldl (fun l (v,j)=>l.set j v) xs)
 | [],_,_,_,h=>h
 | v :: vs,o,_,_,h=>by
   rw [List.zipIdx_cons,List.foldl_cons];exact Z5n vs (o+1) ((h.stored o v).1)
theorem Zd1 :∀(vs:List Value) (o s:Nat) (xs:List Value),(vs.zipIdx (o+s)).foldl (fun l (v,j)=>l.set j v) xs=(vs.zipIdx s).foldl (fun l (v,j)=>l.set (o+j) v) xs
 | [],_,_,_=>rfl
 | v :: vs,o,s,xs=>by
   rw [List.zipIdx_cons,List.zipIdx_cons,List.foldl_cons,List.foldl_cons];exact Zd1 vs o (s+1) _
theorem Z3i {α:Type}{cells:α→List Value}{w:World}{g:Nat}{e:TypeId}{size n cap:Nat}(hsz :∀x,(cells x).length=size) (h0:0<size){l:List α}(h:w.ownsRow 0 e size (.slice (some ⟨g,0,none⟩) n cap) n (l.flatMap cells)) (k:Nat) (hk:k<l.length) (y:α) :
 (w.setCells g (k*size) (cells y)).ownsRow 0 e size (.slice (some ⟨g,0,none⟩) n cap) n ((l.set k y).flatMap cells):=by
 have h1:=Z5n (w:=w) (cells y) (k*size) h;have h2:=Zd1 (cells y) (k*size) 0 (l.flatMap cells);rw [Nat.add_zero] at h2;rw [h2] at h1;have h3:=Z8p hsz h0 l k hk y;unfold setAll at h3;rw [h3] at h1;exact h1
theorem Z1p {P:Program}{ops:Array Oper}{o:Oper}{a:Act}{w:World}{K:Act→World→Prop}{Q:Exit→Act→World→Prop}{E:Prop}(hgd:o.guard=none) (ty:TypeId) (x y:Operand) (ho:o.op = .store ty x y)
 (b off:Nat) (cells:Array Value) (hx:a.eval x = .pointer (some ⟨b,off,none⟩)) (hy:a.eval y = .agg cells)
 (ht:w.there b off cells.size) (hi:(P.info? ty).map (·.size)=some cells.size) (h1:cells.all (·.oneCell')=true)
 (h:K (a.put o.dst undef) (w.setCells b off cells.toList)):if Region.wanted o (yielded ops a.tmps)=true then Oper.wp P o a w K Q else E:=by
 rw [if_pos (by simp [Region.wanted,hgd])];exact wp_store_mid ty x y ho b off cells hx hy ht hi h1 h
theorem Blk.farCells {g':Nat}{t:TypeId}{cs:Array Value}{g:Nat} :∀(vs:List Value) (o:Nat){w:World},Blk w g' t cs→g'≠g→Blk (w.setCells g o vs) g' t cs
 | [],_,_,h,_=>h
 | v :: vs,o,_,h,hn=>Blk.farCells vs (o+1) (h.far (p:=⟨g,o,none⟩) hn v) hn
theorem Room.there {w:World}{g:Nat}{e:TypeId}{m:Nat}(h:Room w g e m){o n:Nat}(hn:o+n≤m):w.there g o n:=fun j hj=>by
 obtain ⟨u,hu⟩:=h.cell (i:=o+j) (by omega);exact ⟨by rw [hu];rfl,h.frozen _⟩
theorem Blk.range {w:World}{g:Nat}{t:TypeId}{cs:Array Value}(h:Blk w g t cs):w.rangeAt g 0 cs.toList:=fun j v hv=>by
 rw [Zoa,h.cell];simpa using hv
theorem Blk.there {w:World}{g:Nat}{t:TypeId}{cs:Array Value}(h:Blk w g t cs):w.there g 0 cs.size:=fun j hj=>by
 rw [Zoa];exact ⟨by rw [h.cell,Array.getElem?_eq_getElem hj];rfl,h.frozen j⟩
theorem Below.setCells' {B:Nat}{a:World}{g:Nat} :∀(vs:List Value) (o:Nat){b:World},Below B a b→B≤g→Below B a (b.setCells g o vs)
 | [],_,_,h,_=>h
 | v :: vs,o,_,h,hg=>Below.setCells' vs (o+1) (h.setCell (show B≤(⟨g,o,none⟩:Addr).block from hg) v) hg
theorem Z1x {P:Program}{fn:Func}{t s:Tmp}{T:TypeId}(h:fn.results = #[.cell t T,.tmp s]) (tmps:Array Value) (w:World) (g:Nat) (cs:List Value) (d:TypeDesc) (ht:tmps.getD t undef = .pointer (some ⟨g,0,none⟩)) (hc:w.rangeAt g 0 cs)
 (hu:P.underlying T=some d) (hd:d.isRow=true) (hi:(P.info? T).map (·.size)=some cs.length):(results fn tmps).run P w = .ok (.tuple #[.agg cs.toArray,tmps.getD s undef]) w:=by
 have hl:=run_loadVar_mid (P:=P) w g 0 T cs d hc hu hd hi;(have ht':tmps[t]?.getD undef = .pointer (some ⟨g,0,none⟩):=by simpa using ht);simp [results,h,ht',asAddr,hl]
theorem Z1c {P:Program}{fn:Func}{t:Tmp}{T:TypeId}(h:fn.results = #[.cell t T]) (tmps:Array Value) (w:World) (g:Nat) (cs:List Value) (d:TypeDesc) (ht:tmps.getD t undef = .pointer (some ⟨g,0,none⟩)) (hc:w.rangeAt g 0 cs)
 (hu:P.underlying T=some d) (hd:d.isRow=true) (hi:(P.info? T).map (·.size)=some cs.length):(results fn tmps).run P w = .ok (.agg cs.toArray) w:=by
 have hl:=run_loadVar_mid (P:=P) w g 0 T cs d hc hu hd hi;(have ht':tmps[t]?.getD undef = .pointer (some ⟨g,0,none⟩):=by simpa using ht);simp [results,h,ht',asAddr,hl]
theorem Z0z.range {α:Type}{w:World}{size c:Nat}{cells:α→List Value}{A:Option Addr}{l:List α}(h:Z0z w size cells A c l){k:Nat}(hk:k<l.length):∃b off,A=some ⟨b,off,none⟩∧b<w.heap.size∧w.rangeAt b (off+k*size) (cells l[k]):=by
 obtain ⟨b,off,h1,h2,h3⟩:=h.at_ hk;exact ⟨b,off,h1,h2,fun j v hv=>h3 j v hv⟩
theorem Zbi {w w':World}{B g o:Nat}{cs:List Value}(h:w.rangeAt g o cs) (hb:Below B w w') (hg:g<B):w'.rangeAt g o cs:=fun j v hv=>(hb.cell (p:=⟨g,o+j,none⟩) hg).trans (h j v hv)
variable {P:Program}{α:Type}
def ItSt (J:(Nat→Prop)→List α→World→Prop) (D E:Nat→Prop) (W:World) (pre:List α) (X:World):Prop:=
 ∃D',(∀k,D k→D' k)∧(∀k,E k→D' k)∧J D' pre X∧Fr (fun j=>¬D j) W X∧(∀k,E k→W.heap.size≤k)
section
variable {J Jx:(Nat→Prop)→List α→World→Prop}{D E E':Nat→Prop}{W X Y:World}{pre xs:List α}
theorem ItSt.start (h:J D [] W):ItSt J D (fun _=>False) W [] W:=⟨D,fun _ h=>h,fun _ h=>h.elim,h,Fr.refl _ _,fun _ h=>h.elim⟩
theorem ItSt.step (h:ItSt J D E W pre X) (hJ:Z5k W.heap.size J) (hF:Fr E X Y):ItSt J D (Plus E X Y) W pre Y:=by
 obtain ⟨D',h1,h2,h3,h4,h5⟩:=h;refine ⟨Plus D' X Y,fun k hk=>.inl (h1 k hk),fun k hk=>hk.imp (h2 k) id,hJ _ _ _ _ h3 (hF.mono (fun k _ hk=>⟨h2 k hk,h5 k hk⟩)),h4.into hF (fun k hk=>.inr (h5 k hk)),fun k hk=>?_⟩;rcases hk with hk|hk
 · exact h5 k hk
 · exact Zo2 h4.size hk.1
theorem ItSt.new_ (h:ItSt J D E W pre X) (hJ:Z5k W.heap.size J) (hb:Below X.heap.size X Y):ItSt J D (Plus E X Y) W pre Y:=h.step hJ (Fr.of_new hb)
theorem ItSt.round {l:Nat}{encs:α→Array Value}{x:α}{post:List α}(h:ItSt J D E W pre X) (hY:Zap P l encs xs J Jx) (hx:xs=pre++x :: post) :
 YieldAt Fence.wide 0 P l (encs x) X fun e W'=>(e = .returned (.bool true)∧ItSt J D E W (pre ++ [x]) W'∧Fr (fun k=>¬(D k∨E k)) X W')∨(e = .returned (.bool false)∧Zjf xs J Jx W'∧Fr (fun k=>¬(D k∨E k)) X W'):=by
 obtain ⟨D',h1,h2,h3,h4,h5⟩:=h;obtain ⟨fn,tmps,assign,body,hy,hR⟩:=hY D' pre x post X hx h3;refine ⟨fn,tmps,assign,body,hy,hR.mono ?_⟩;rintro e W' (⟨g1,g2,g3⟩|⟨g1,g2,g3⟩)
 · exact .inl ⟨g1,⟨D',h1,h2,g2,h4.trans (g3.mono (fun k _ hk hd=>hk (h1 k hd))),h5⟩,g3.mono (fun k _ hk hd=>hk (hd.elim (h1 k) (h2 k)))⟩
 · exact .inr ⟨g1,⟨D',.inr ⟨pre ++ [x],post,by rw [hx];simp,g2⟩⟩,g3.mono (fun k _ hk hd=>hk (hd.elim (h1 k) (h2 k)))⟩
theorem ItSt.told (h:ItSt J D E W xs X):Zjf xs J Jx X:=by
 obtain ⟨D',_,_,h3,_,_⟩:=h;exact ⟨D',.inl h3⟩
end
theorem Z8f {F:Fence}{n1:Nat}(w:World){ops:Array Oper}{rest:List Oper}{o:Oper}{a:Go.Act}{Q:Exit→Go.Act→World→Prop}(hgd:o.guard=none) (s x:Operand) (t:TypeId)
 (ho:o.op = .call { callee:=.builtin .append,args:=#[s,x],argTypes:=#[t,t] })
 (e:TypeId) (i:TypeInfo) (z:Value) (size bytes:Nat) (ht:P.underlying t=some (.slice e)) (hi:P.info? e=some i) (hz:i.zero=some z)
 (hsize:i.size=size) (hby:i.bytes=bytes) (hzs:z.cells.size=size) (hsz:0<size)
 (v:Value) (n:Nat) (xs:List Value) (hs:a.eval s=v) (hown:w.ownsRow 0 e size v n xs)
 (A:Option Addr) (m c:Nat) (news:List Value) (hx:a.eval x = .slice A m c) (hl:news.length=m*size)
 (hnews:0<m→∃ad,A=some ad∧∀j u,news[j]? = some u→w.cell? (ad.add j)=some u) (h1 :∀u∈news,u.oneCell'=true)
 (h63:n+m≤maxLen) (hbytes:(n+m)*bytes≤140737488355328)
 (h :∀v' w',w'.ownsRow 0 e size v' (n+m) (xs++news)→w.grownBy w' v.ownBlock→(v' = .slice none 0 0↔v = .slice none 0 0∧m=0)→(v'.ownBlock=v.ownBlock∨v'.ownBlock=some w.heap.size)→wpListIn F n1 P ops Q rest (a.put o.dst v') w') :
 wpListIn F n1 P ops Q (o :: rest) a w:=by
 refine wpListIn_plain hgd fun K hK'=>?_;obtain ⟨v',w',hrun,r1,r2,r3,r4⟩:=Z6d (P:=P) w t o.type e i z size bytes ht hi hz hsize hby hzs hsz v n xs hown A m c news hl hnews h1 h63 hbytes;unfold Oper.wpIn;refine ⟨?_,?_⟩
 · simp [Oper.about,ho,resolve,Target.leads,Sem.run_pure]
 · rw [Oper.semAt_plain F _ _ (by rw [ho];intro c hc';cases hc')]
   simp [execOp,ho,resolve,invoke,builtin,hs,hx,hrun,Result.andThen];exact hK' _ _ (h v' w' r1 r2 r3 r4)
theorem Z0n (b:Nat):∀(vs:List Value) (o:Nat) (w:World),(w.setCells b o vs).heap.size=w.heap.size
 | [],_,_=>rfl
 | v :: r,o,w=>by rw [World.setCells,Z0n b r (o+1)];simp [World.setCell]
theorem Blk.setCells_ {g:Nat}{t:TypeId} :∀(vs:List Value) (o:Nat){w:World}{cs:Array Value},Blk w g t cs→∃cs',Blk (w.setCells g o vs) g t cs'∧cs'.size=cs.size
 | [],_,_,cs,h=>⟨cs,h,rfl⟩
 | v :: vs,o,w,cs,h=>by
   obtain ⟨cs',h1,h2⟩:=Blk.setCells_ vs (o+1) (h.set_ o v);exact ⟨cs',h1,by rw [h2];simp⟩
theorem Z33 {E:Nat→Prop}{X Y:World}{e:TypeId}{size n m:Nat}{A:Option Addr}{c:Nat}{v':Value}{xs news:List Value}(hA:AIn A E) (hown':Y.ownsRow 0 e size v' (n+m) (xs++news)) (hg:X.grownBy Y (Value.slice A n c).ownBlock)
 (hat:v'.ownBlock=(Value.slice A n c).ownBlock∨v'.ownBlock=some X.heap.size):∃A' c',v' = .slice A' (n+m) c'∧Fr E X Y∧AIn A' (Plus E X Y)∧Y.ownsRow 0 e size (.slice A' (n+m) c') (n+m) (xs++news):=by
 obtain ⟨A',c',rfl,hc,_,hz⟩:=Z0v hown';refine ⟨A',c',rfl,(Fr.refl E X).grown hg (fun k hk=>?_),fun a ha=>?_,hown'⟩
 · rcases A with _|a
   · simp [Value.ownBlock] at hk
   · have e:a.block=k:=by simpa [Value.ownBlock] using hk
     exact .inl (e ▸ hA a rfl)
 · subst ha
   rcases hat with h|h
   · rcases A with _|b
     · simp [Value.ownBlock] at h
     · have e:a.block=b.block:=by simpa [Value.ownBlock] using h
       exact .inl (e ▸ hA b rfl)
   · have e:a.block=X.heap.size:=by simpa [Value.ownBlock] using h
     refine .inr ⟨by omega,?_⟩;rcases Z0h hown' with ⟨hv,_⟩|⟨g,cap,hv,_,_,hr,_⟩
     · cases hv
     · injection hv with hv
       injection hv with hv;subst hv;exact hr.lt
end
section
open Go.RowKit Go.ChangeShapes Go.WideShapes Go.Deep
section
variable {H:Type}{enc:TypeId×Value→H}{P:Program}
theorem Zbd {f:Func}{s:ChangeSpec}{apart fresh handsOn again:Bool}{W W':World}{args:Array Value}{v:Value}{ds gs:List (DataW H)}{before pa pv:List MemPlace}
 (hW:DataW.Whole enc P f.params.toList s.vars apart W args.toList ds gs before)
 (hres :∀(b:Nat) (sp:Nat→Bool) (hd:Bool),DataW.TrodAll enc P W' b sp hd f.resultTypes.toList (v.resultList f.resultTypes.size) (s.fn H (ds++gs)).results [])
 (hargs :∀sp:Nat→Bool,(∀p∈before,sp p.block=true)→DataW.TrodAll enc P W' 0 sp true f.params.toList args.toList (s.fn H (ds++gs)).args pa)
 (hvars :∀sp:Nat→Bool,(∀p∈before,sp p.block=true)→DataW.TrodVars enc P W' sp s.vars (s.fn H (ds++gs)).vars pv)
 (hps:before=pa++pv) (hb:Below W.heap.size W W')
 (hok :∀(j:Nat) (t:TypeId) (r:Value),f.resultTypes[j]? = some t→(v.resultList f.resultTypes.size)[j]? = some r→Value.okWide P W' .any 0 t r) :
 s.post enc P f apart fresh handsOn again W args v W':=by
 have hlt :∀p∈before,p.block<W.heap.size:=fun p hp=>hW.lt p hp;(have hold :∀p∈before,(fun b=>decide (b<W.heap.size)) p.block=true:=fun p hp=>by simpa using hlt p hp);refine ⟨ds,gs,before,[],pa,pv,hW,hres _ _ _,hargs _ hold,hvars _ hold,World.keptBut_mono (fun p hp=>⟨hp,?_⟩) (hb.frame (·∈before)),fun _=>?_⟩
 · rw [hps,Zoz] at hp
   exact Or.inr hp
 · obtain ⟨_,_,_,_,_,hz,hn⟩:=hW
   refine ⟨hok,_,_,([]++pa)++pv,⟨[]++pa,pv,trodAll_append (hargs _ (fun _ _=>rfl)) (hres _ _ _),hvars _ (fun _ _=>rfl),rfl,?_,?_⟩,?_⟩
   · intro b off hp
     (have hin:MemPlace.cell b off∈before:=by rw [hps];simpa using hp);rw [hb.frozen (hlt _ hin)];exact hz b off hin
   · intro ha
     have:=hn ha;rw [hps] at this;simpa using this
   · intro p hp _
     rw [hps];simpa using hp
theorem Z7e (hl:laidOutB P=true){W W':World}{sp:Nat→Bool}(hb:Below W.heap.size W W'):∀(ts:List TypeId) (vs:List Value) (ds:List (DataW H)) (ps:List MemPlace),
 (∀t∈ts,P.readableRec t=true∧t<P.types.size)→DataW.TrodAll enc P W 0 (fun _=>true) true ts vs ds ps→(∀p∈ps,p.block<W.heap.size)→(∀p∈ps,sp p.block=true)→DataW.TrodAll enc P W' 0 sp true ts vs ds ps
 | [],[],[],ps,_,h,_,_=>h
 | t :: ts,v :: vs,d :: ds,ps,ht,⟨p,q,h1,h2,he⟩,hlt,hsp=>by
   subst he;refine ⟨p,q,WideElems.Trod_stays hl (ht t (by simp)).1 (ht t (by simp)).2 h1 (fun x hx=>hb.same (hlt x (by simp [hx]))) (fun x hx=>hsp x (by simp [hx])),?_,rfl⟩;exact Z7e hl hb ts vs ds q (fun t' h'=>ht t' (by simp [h'])) h2 (fun x hx=>hlt x (by simp [hx])) (fun x hx=>hsp x (by simp [hx]))
 | [],_ :: _,_,_,_,h,_,_=>h.elim
 | [],[],_ :: _,_,_,h,_,_=>h.elim
 | _ :: _,[],_,_,_,h,_,_=>h.elim
 | _ :: _,_ :: _,[],_,_,h,_,_=>h.elim
theorem Zii {f:Func}{s:ChangeSpec}{apart fresh handsOn again:Bool}{W W':World}{args:Array Value}{ds gs:List (DataW H)}{before:List MemPlace}{tb:TypeId}
 (hl:laidOutB P=true) (hv:s.vars = []) (hW:DataW.Whole enc P f.params.toList s.vars apart W args.toList ds gs before) (hr:f.resultTypes = #[tb]) (htb:P.underlying tb=some .bool)
 (hp :∀t∈f.params.toList,P.readableRec t=true∧t<P.types.size) (h1:(s.fn H (ds++gs)).results = [.lit (.bool true)]) (h2:(s.fn H (ds++gs)).args=ds) (h3:(s.fn H (ds++gs)).vars = [])
 (hb:Below W.heap.size W W'):s.post enc P f apart fresh handsOn again W args (.bool true) W':=by
 have hlt :∀p∈before,p.block<W.heap.size:=fun p hp=>hW.lt p hp;have hW0:=hW;obtain ⟨p,q,hA,hV,he,_⟩:=hW;rw [hv] at hV;(have hq:q = []:=by cases gs<;>simp [DataW.TrodVars] at hV;exact hV);subst hq;rw [Zof] at he;subst he;refine Zbd (pa:=before) (pv:=[]) hW0 (fun b sp hd=>?_) (fun sp hsp=>?_) (fun sp hsp=>?_) (by simp) hb ?_
 · rw [hr,h1];exact trodAll_mk1 (shut_bool htb true)
 · rw [h2];exact Z7e hl hb _ _ _ _ hp hA hlt hsp
 · rw [hv,h3];rfl
 · exact ok_one hr rfl (okWide_bool_mk htb true)
end
def Zmy {α:Type}(P:Program) (e:TypeId) (size:Nat) (cells:α→List Value):Prop:=
 P.cellsOf e=size∧∀(H:Type) (enc:TypeId×Value→H) (w:World) (base:Nat) (spare:Nat→Bool) (held:Bool) (n:Nat) (cs:List Value) (x:DataW H×List MemPlace),
  DataW.trod enc P w base spare held n e cs=some x→∃a:α,cs=cells a
theorem Zdj {α:Type}{Q:Nat→α→Prop} :∀(n:Nat),(∀i,i<n→∃a,Q i a)→∃l:List α,l.length=n∧∀i,(h:i<l.length)→Q i l[i]
 | 0,_=>⟨[],rfl,fun i h=>absurd h (by simp)⟩
 | n+1,h=>by
   obtain ⟨l,hl,hq⟩:=Zdj n (fun i hi=>h i (by omega));obtain ⟨a,ha⟩:=h n (by omega);refine ⟨l ++ [a],by simp [hl],fun i hi=>?_⟩;by_cases hi':i<l.length
   · rw [List.getElem_append_left hi'];exact hq i hi'
   · have:i=n:=by simp at hi;omega
     subst this;rw [List.getElem_append_right (by omega)];simpa [hl] using ha
end
end Go.Proofs.YtfidcfjcmlgkbaaGreat
