/-
  Texts put together: PutPgS, MiscPgS, NewPgS, BkSymG, BkSym, VaryN, SymLists.
-/
import Derived.Test.YtldndkngpdfpfaaGreatPFe
namespace Go.Proofs.YtldndkngpdfpfaaGreat
open Lib (hid)
set_option maxRecDepth 100000
set_option maxHeartbeats 32000000
section
open Go.RowKit
def Z7c (w:World) (b:Nat) (sn:Bool) (A:Option Addr) (l:List PgS) (x:PgS) (e:Ending) (w':World):Prop:=
 e = .returned (.bool (!has Z10 l x))∧∃sn' A' c',Z2n w' b sn' A' c' (put Z10 l x)∧Fr (Z0y b sn A) w w'∧Z1p w sn A sn' A'
theorem Zaj (b c:Nat) (sn:Bool) (A:Option Addr) (l:List PgS) (x:PgS) (w:World) (hS:Z2n w b sn A c l) (hs:Srt Z10 l) (hl:(l.length:Int)≤100000000) (hh:has Z10 l x=true) :
 Calls Tryz.prog 183 #[.pointer (some ⟨b,0,none⟩),.agg #[.int .i64 x.kk.kind,.string x.kk.text,.int .i64 x.kk.n,.int .i64 x.v]] w (Z7c w b sn A l x):=by
 have HS:=hid hS;have HO:=hid hs;clear hS hs;go_enter Tryz.func183,Tryz.ntmps183;(go_wp2_with fail);refine (Z86 b c sn A l x _ (HS.out.new_ ((Znz _ _).alloc (Zo0 _) _)) HO.out (by omega)).mono ?_;rintro e w1 ⟨rfl,hb1⟩;(go_wp2_with fail);go_ret;refine ⟨by rw [hh];rfl,sn,A,c,?_,Fr.of_new (((Znz _ _).alloc (Zo0 _) _).trans (hb1.mono (by simp))),.inl ⟨rfl,rfl⟩⟩;rw [Z3m hh];exact HS.out.new_ (((Znz _ _).alloc (Zo0 _) _).trans (hb1.mono (by simp)))
theorem Zdl (b c:Nat) (sn:Bool) (A:Option Addr) (l:List PgS) (x:PgS) (w:World) (hS:Z2n w b sn A c l) (hs:Srt Z10 l) (hl:(l.length:Int)≤100000000) (hh:has Z10 l x=false) :
 Calls Tryz.prog 183 #[.pointer (some ⟨b,0,none⟩),.agg #[.int .i64 x.kk.kind,.string x.kk.text,.int .i64 x.kk.n,.int .i64 x.v]] w (Z7c w b sn A l x):=by
 obtain ⟨i0,hi,hz0,hz1,hz2⟩:=info_parts Zea;have HS:=hid hS;have HO:=hid hs;have hb:=hS.lt;clear hS hs;have hrk:=Z4z (cmp:=Z10) l x;go_enter Tryz.func183,Tryz.ntmps183;(go_wp2_with fail);have hSa:=HS.out.new_ ((Znz w.heap.size w).alloc (Zo0 _) (.cells #[.int .i64 x.kk.kind,.string x.kk.text,.int .i64 x.kk.n,.int .i64 x.v] 224));have HSa:=hid hSa;clear hSa;refine (Z86 b c sn A l x _ HSa.out HO.out (by omega)).mono ?_;rintro e w1 ⟨rfl,hb1⟩;have HS1:=hid (HSa.out.new_ hb1);(have hsz1:w.heap.size+1≤w1.heap.size:=by have:=hb1.size;(try simp at this);omega);have y0:=(hb1.cell (p:=⟨w.heap.size,0,none⟩) (by simp)).trans ((Blk.new w 224 #[.int .i64 x.kk.kind,.string x.kk.text,.int .i64 x.kk.n,.int .i64 x.v]).cell 0);have y1:=(hb1.cell (p:=⟨w.heap.size,1,none⟩) (by simp)).trans ((Blk.new w 224 #[.int .i64 x.kk.kind,.string x.kk.text,.int .i64 x.kk.n,.int .i64 x.v]).cell 1);have y2:=(hb1.cell (p:=⟨w.heap.size,2,none⟩) (by simp)).trans ((Blk.new w 224 #[.int .i64 x.kk.kind,.string x.kk.text,.int .i64 x.kk.n,.int .i64 x.v]).cell 2);have y3:=(hb1.cell (p:=⟨w.heap.size,3,none⟩) (by simp)).trans ((Blk.new w 224 #[.int .i64 x.kk.kind,.string x.kk.text,.int .i64 x.kk.n,.int .i64 x.v]).cell 3);have HB1:=hid hb1;clear hb1;(go_wp2_with fail);refine (Zms b c sn A l _ HS1.out (by omega)).mono ?_;rintro e w2 ⟨rfl,A1,c1,hS2,hF2,hM2⟩;have hsz2:w1.heap.size≤w2.heap.size:=hF2.size;have x0:w2.cell? ⟨w.heap.size,0,none⟩=some (.int .i64 x.kk.kind):=(hF2.cell (p:=⟨w.heap.size,0,none⟩) (by dsimp only;omega) (by dsimp only;omega)).trans y0;have x1:w2.cell? ⟨w.heap.size,1,none⟩=some (.string x.kk.text):=(hF2.cell (p:=⟨w.heap.size,1,none⟩) (by dsimp only;omega) (by dsimp only;omega)).trans y1;have x2:w2.cell? ⟨w.heap.size,2,none⟩=some (.int .i64 x.kk.n):=(hF2.cell (p:=⟨w.heap.size,2,none⟩) (by dsimp only;omega) (by dsimp only;omega)).trans y2;have x3:w2.cell? ⟨w.heap.size,3,none⟩=some (.int .i64 x.v):=(hF2.cell (p:=⟨w.heap.size,3,none⟩) (by dsimp only;omega) (by dsimp only;omega)).trans y3;have s0:=hS2.cell0;have f0:=hS2.blk.frozen 0;(have hb2:b<w2.heap.size:=by omega);(have hk2:w.heap.size<w2.heap.size:=by omega);have HS2:=hid hS2;have HF2:=hid hF2;have HM2:=hid hM2;clear hS2 hF2 hM2 y0 y1 y2 y3;(go_wp2_with fail);refine Z06 (fun w9=>Below w2.heap.size w2 w9) [(0,0),(1,0),(2,0),(3,0),(4,1),(5,1),(6,2),(7,2),(8,0),(9,0),(10,2)] (by kernel_rfl) (by kernel_rfl) (fun KK hKK=>?_);simp only [Z05,Zo9,Zo2,Zo7,Zo5,Zo6,Zoc];repeat ((first | (refine Z0a ?_ (Or.inl ⟨by rfl,fun w9=>?_⟩) ?_;rotate_left 1;go_simp;with_reducible rfl) | (refine Z09 ?_ (((Znz _ _).drew)) (Or.inl ⟨by rfl,fun w9 hw9=>?_⟩) ?_;rotate_left 1;obtain ⟨hc9,hf9⟩:=Z0q hw9;go_simp;with_reducible rfl) | refine Z0a undef (Or.inr ⟨by rfl,rfl⟩) ?_ | refine Z09 undef (((Znz _ _).drew)) (Or.inr ⟨by rfl,rfl⟩) ?_);go_frame)
 refine Z29 (fun K9 hK9=>?_);go_simp;refine hK9 _ _ (((Znz _ _).drew).alloc (Zo0 _) _) ?_;clear hK9 K9;refine Z1n (by kernel_rfl) (fun K9 hK9=>?_)
 refine Z0i _ (by rfl) _ _ _ (by rfl) 224 i0 _ 4 40 Tryz.underlying279 hi hz0 hz1 hz2 rfl (by omega) _ l.length (l.flatMap PgS.cells) (by rfl) (Z02 HS2.out.row (((Znz _ _).drew).alloc (Zo0 _) _)) (some ⟨w2.heap.size,0,none⟩) 1 1 (PgS.cells x) (by rfl) (by rfl)
  (fun _=>⟨_,rfl,Zok (heap_alloc_new _ _)⟩) (PgS.one x) (by unfold maxLen;omega) (by omega) ?_
 intro v2 w3 hown hgr hnil hat;refine hK9 _ _ ?_;clear hK9 K9
 obtain ⟨g,c2,rfl⟩ : ∃g c2,v2 = .slice (some ⟨g,0,none⟩) (l.length+1) c2:=by
  rcases Z07 hown with ⟨_,h0,_⟩ | ⟨g,c2,h,_⟩
  · omega
  · exact ⟨g,c2,h⟩
 have HXN:(Value.slice A1 l.length c1).ownBlock≠some w.heap.size:=by
  intro h;rcases HM2.out with ⟨hsn,hA⟩ | ⟨_,g2,hg2,hA⟩
  · rcases A1 with _ | a1
    · cases h
    · have h1:=HS.out.row_lt _ hA.symm
      simp only [Value.ownBlock,Option.some.injEq] at h;omega
  · subst hA
    simp only [Value.ownBlock,Option.some.injEq] at h;omega
 have HB3':=(HS2.out.blk.drew.alloc (.cells #[.int .i64 x.kk.kind,.string x.kk.text,.int .i64 x.kk.n,.int .i64 x.v] 224)).grown hgr (Z01 HS2.out.row HS2.out.blk (by decide));have c0:=(HB3'.cell 0).trans rfl;have z0:=HB3'.frozen 0;have HB3:=hid HB3';have HOWN:=hid hown;have HGR:=hid hgr;clear HB3' hown hgr;(repeat ((first | (refine Z0a ?_ (Or.inl ⟨by rfl,fun w9=>?_⟩) ?_;rotate_left 1;go_simp;with_reducible rfl) | (refine Z09 ?_ (((Znz _ _).drew).alloc (Zo0 _) _) (Or.inl ⟨by rfl,fun w9 hw9=>?_⟩) ?_;rotate_left 1;obtain ⟨hc9,hf9⟩:=Z0q hw9;go_simp;with_reducible rfl) | refine Z0a undef (Or.inr ⟨by rfl,rfl⟩) ?_ | refine Z09 undef (((Znz _ _).drew).alloc (Zo0 _) _) (Or.inr ⟨by rfl,rfl⟩) ?_);go_frame));refine Z1n (by kernel_rfl) (fun K9 hK9=>?_);go_simp;refine hK9 _ _ ?_;clear hK9 K9;refine Z12 ?_;simp only [Z00];refine hKK _ _ ?_;clear hKK KK;have hlg:((l.length+1:Nat):Int)=(l.length:Int)+1:=by omega
 have hG:(Z0y b sn A g∨w.heap.size≤g)∧Z1p w sn A false (some ⟨g,0,none⟩)∧g≠w.heap.size∧g≠b:=by
  rcases hat with h | h
  · rcases A1 with _ | a1
    · simp [Value.ownBlock] at h
    · obtain ⟨A',c',hv,_,_,hz⟩:=Z0z HS2.out.row
      injection hv with hv _ _;obtain ⟨g',rfl⟩:=hz a1 hv.symm;(have hgg:g'=g:=by simpa [Value.ownBlock] using h.symm);subst hgg;have hne:g'≠b:=HS2.out.row_ne (by decide) _ rfl;rcases HM2.out with ⟨hsn,hA⟩ | ⟨_,g2,hg2,hA⟩
      · have h1:=HS.out.row_lt _ hA.symm
        exact ⟨.inl (.inr ⟨hsn.symm,_,hA.symm,rfl⟩),.inl ⟨hsn,hA⟩,by dsimp only at h1;omega,hne⟩
      · injection hA with hA
        injection hA with hA;subst hA;exact ⟨.inr (by omega),.inr ⟨rfl,_,by omega,rfl⟩,by omega,hne⟩
  · have hgg:g=w2.heap.size+1:=by simpa [Value.ownBlock] using h
    subst hgg;exact ⟨.inr (by omega),.inr ⟨rfl,_,by omega,rfl⟩,by omega,by omega⟩
 obtain ⟨hgM,hgMv,hgk1,hgb⟩:=hG;obtain ⟨w4,hw4⟩ : ∃w4,w4=w3.setCell ⟨b,0,none⟩ (.slice (some ⟨g,0,none⟩) (l.length+1) c2):=⟨_,rfl⟩;have hB4:Blk w4 b 281 #[.slice (some ⟨g,0,none⟩) (l.length+1) c2,.bool false]:=by rw [hw4];exact HB3.out.set_ 0 _
 have hR4:w4.ownsRow 0 224 4 (.slice (some ⟨g,0,none⟩) (l.length+1) c2) (l.length+1) ((Z0c l x l.length).flatMap PgS.cells):=by
  rw [hw4,Z21];refine ownsRow_setCell_other (a:=⟨b,0,none⟩) ?_ (by simpa [Value.ownBlock] using hgb) _;rw [Zog,List.flatMap_singleton];exact HOWN.out
 have hF4:Fr (Z0y b sn A) w w4:=by
  rw [hw4];have h1:Fr (Z0y b sn A) w w1:=Fr.of_new (((Znz _ _).alloc (Zo0 _) _).trans (HB1.out.mono (by simp)));have h2:Fr (Z0y b sn A) w w2:=h1.trans (HF2.out.mono (fun k _ h=>.inl h));refine ((h2.drew.alloc _).grown HGR.out (fun k hk=>?_)).setCell (p:=⟨b,0,none⟩) (.inl (.inl rfl)) _;rcases A1 with _ | a1
  · cases hk
  · simp only [Value.ownBlock,Option.some.injEq] at hk
    subst hk;rcases HM2.out with ⟨hsn,hA⟩ | ⟨_,g',hg',hA⟩
    · left;right;exact ⟨hsn.symm,a1,hA.symm,rfl⟩
    · injection hA with hA
      subst hA;right;dsimp only;omega
 have z0:w4.cell? ⟨w.heap.size,0,none⟩=some (.int .i64 x.kk.kind):=by
  rw [hw4,World.cell?_setCell_other _ _ _ _ (by intro h;injection h;omega)];refine HGR.out.cell ((World.cell?_alloc_lt w2.drew _ ⟨w.heap.size,0,none⟩ hk2).trans x0) ?_;intro h;exact HXN (by simpa using h.symm)
 have z1:w4.cell? ⟨w.heap.size,1,none⟩=some (.string x.kk.text):=by
  rw [hw4,World.cell?_setCell_other _ _ _ _ (by intro h;injection h;omega)];refine HGR.out.cell ((World.cell?_alloc_lt w2.drew _ ⟨w.heap.size,1,none⟩ hk2).trans x1) ?_;intro h;exact HXN (by simpa using h.symm)
 have z2:w4.cell? ⟨w.heap.size,2,none⟩=some (.int .i64 x.kk.n):=by
  rw [hw4,World.cell?_setCell_other _ _ _ _ (by intro h;injection h;omega)];refine HGR.out.cell ((World.cell?_alloc_lt w2.drew _ ⟨w.heap.size,2,none⟩ hk2).trans x2) ?_;intro h;exact HXN (by simpa using h.symm)
 have z3:w4.cell? ⟨w.heap.size,3,none⟩=some (.int .i64 x.v):=by
  rw [hw4,World.cell?_setCell_other _ _ _ _ (by intro h;injection h;omega)];refine HGR.out.cell ((World.cell?_alloc_lt w2.drew _ ⟨w.heap.size,3,none⟩ hk2).trans x3) ?_;intro h;exact HXN (by simpa using h.symm)
 (have hk4:w.heap.size<w4.heap.size:=by rw [hw4];have:=HGR.out.size;simp at this ⊢;omega);rw [← hw4];have HgM:=hid hgM;have HgMv:=hid hgMv;have HB4:=hid hB4;have HR4:=hid hR4;have HF4:=hid hF4;have s4:=hB4.cell 0;have s4':w4.cell? ⟨b,0,none⟩=some (.slice (some ⟨g,0,none⟩) (l.length+1) c2):=s4;clear s4 hw4 hB4 hR4 hF4 hat hgM hgMv hnil x0 x1 x2 x3 s0 f0;go_wp2_with fail
 go_loopw [7] (fun s wr=>∃i:Nat,s = .int .i64 i∧rank Z10 l x≤i∧i≤l.length∧wr.ownsRow 0 224 4 (.slice (some ⟨g,0,none⟩) (l.length+1) c2) (l.length+1) ((Z0c l x i).flatMap PgS.cells)∧Fr (· = g) w4 wr) (fun s wr=>(intOf s).toNat)
 case atStart=>exact ⟨l.length,by go_num,hrk,Zo0 _,HR4.out,Fr.refl _ _⟩
 case round=>
  obtain ⟨i,rfl,hi1,hi2,hown,hfr⟩:=hrel;have hgw:g<wr.heap.size:=(hown.lt g rfl).2;have r0:wr.cell? ⟨b,0,none⟩=some (.slice (some ⟨g,0,none⟩) (l.length+1) c2):=(hfr.cell (p:=⟨b,0,none⟩) HB4.out.lt (fun h=>hgb h.symm)).trans s4';have fz : ∀o,wr.frozen? ⟨g,o,none⟩=false:=fun o=>hown.frozenAt o;have HOW:=hid hown;have HFR:=hid hfr;clear hown hfr;by_cases hlt:rank Z10 l x<i
  · obtain ⟨j,rfl⟩ : ∃j,i=j+1:=⟨i - 1,by omega⟩
    (have hj:j<l.length:=by omega);have hrd:=Z0d (A:=some ⟨g,0,none⟩) (c:=c2) (l:=Z0c l x (j+1)) PgS.cells_length (by rw [Z03 l x hi2];exact HOW.out);obtain ⟨g',o',hgo,_,hcell⟩:=hrd.at_ (k:=j) (by rw [Z03 l x hi2];omega);injection hgo with hgo;injection hgo with hg1 hg2;subst hg1;subst hg2;rw [Z26 l x hj] at hcell;(have q0:wr.cell? ⟨g,j*4,none⟩=some (.int .i64 l[j].kk.kind):=by simpa using hcell 0 _ rfl);(have q1:wr.cell? ⟨g,j*4+1,none⟩=some (.string l[j].kk.text):=by simpa using hcell 1 _ rfl);(have q2:wr.cell? ⟨g,j*4+2,none⟩=some (.int .i64 l[j].kk.n):=by simpa using hcell 2 _ rfl);have q3:wr.cell? ⟨g,j*4+3,none⟩=some (.int .i64 l[j].v):=by simpa using hcell 3 _ rfl
    have rmj:Room wr g 224 (c2*4)∧l.length+1≤c2:=by
     rcases Z07 HOW.out with ⟨hv,_⟩ | ⟨g',cap,hv,hn,_,hr,_⟩
     · cases hv
     · injection hv with hA _ hc
       injection hA with hA;injection hA with hA;subst hA;subst hc;exact ⟨hr,hn⟩
    obtain ⟨hrm,hcap⟩:=rmj;obtain ⟨u0,t0⟩:=hrm.cell (i:=(j+1)*4) (by omega);obtain ⟨u1,t1⟩:=hrm.cell (i:=(j+1)*4+1) (by omega);obtain ⟨u2,t2⟩:=hrm.cell (i:=(j+1)*4+2) (by omega);obtain ⟨u3,t3⟩:=hrm.cell (i:=(j+1)*4+3) (by omega);(have b0:(0:Int)≤(j:Int)+1:=by omega);(have b1:(0:Int)≤(j:Int):=by omega);(have b4:(j:Int)<(l.length:Int):=by omega);(have b2:(j:Int)<(l.length:Int)+1:=by omega);(have b3:(j:Int)+1<(l.length:Int)+1:=by omega);have w1:IntKind.i64.wrap ((j:Int))=(j:Int):=Zof _ (by omega);(have w2:IntKind.i64.wrap ((j:Int)+1 - 1)=(j:Int):=by rw [Zof _ (by omega)];omega);clear hcell hrd hrm;obtain ⟨y,hy⟩ : ∃y,y=l[j]:=⟨_,rfl⟩;rw [← hy] at q0 q1 q2 q3;have HY:=hid hy;have hbw:b<wr.heap.size:=Zoa wr _ r0;clear hy;(go_wp2_with fail);refine Z06 (fun w9=>Below wr.heap.size wr w9) [(0,0),(1,0),(2,0),(3,1),(4,0),(5,0),(6,0),(7,0),(8,1),(9,0),(10,0),(11,0),(12,1),(13,0),(14,2)] (by kernel_rfl) (by kernel_rfl) (fun KK hKK=>?_);simp only [Z05,Zo9,Zo2,Zo7,Zo5,Zo6,Zoc];(repeat ((first | (refine Z0a ?_ (Or.inl ⟨by rfl,fun w9=>?_⟩) ?_;rotate_left 1;go_simp;with_reducible rfl) | (refine Z09 ?_ (((Znz _ _).drew)) (Or.inl ⟨by rfl,fun w9 hw9=>?_⟩) ?_;rotate_left 1;obtain ⟨hc9,hf9⟩:=Z0q hw9;go_simp;with_reducible rfl) | refine Z0a undef (Or.inr ⟨by rfl,rfl⟩) ?_ | refine Z09 undef (((Znz _ _).drew)) (Or.inr ⟨by rfl,rfl⟩) ?_);go_frame));refine Z1n (by kernel_rfl) (fun K9 hK9=>?_);go_simp;refine hK9 _ _ ?_;clear hK9 K9;refine Z12 ?_;simp only [Z00];refine hKK _ _ ?_;clear hKK KK;(go_wp2_with fail);go_roundw
    case rel=>
     refine ⟨j,by go_num,by omega,by omega,?_,Fr.drew (((((HFR.out).setCell (p:=⟨g,(j+1)*4,none⟩) (.inl rfl) (_)).setCell (p:=⟨g,(j+1)*4+1,none⟩) (.inl rfl) (_)).setCell (p:=⟨g,(j+1)*4+2,none⟩) (.inl rfl) (_)).setCell (p:=⟨g,(j+1)*4+3,none⟩) (.inl rfl) (_))⟩;have hst:=((((((((HOW.out).stored ((j+1)*4) (.int .i64 y.kk.kind)).1).stored ((j+1)*4+1) (.string y.kk.text)).1).stored ((j+1)*4+2) (.int .i64 y.kk.n)).1).stored ((j+1)*4+3) (.int .i64 y.v)).1
     have he:setAll ((Z0c l x (j+1)).flatMap PgS.cells) ((j+1)*4) (PgS.cells y)=(Z0c l x j).flatMap PgS.cells:=by
      rw [Z4a PgS.cells_length (by omega) _ (j+1) (by rw [Z03 l x hi2];omega),HY.out,Z27 l x hj]
     rw [← he];exact hst
    case measure=>simp [intOf]<;>omega
  · obtain rfl:i=rank Z10 l x:=by omega
    have rmj:Room wr g 224 (c2*4)∧l.length+1≤c2:=by
     rcases Z07 HOW.out with ⟨hv,_⟩ | ⟨g',cap,hv,hn,_,hr,_⟩
     · cases hv
     · injection hv with hA _ hc
       injection hA with hA;injection hA with hA;subst hA;subst hc;exact ⟨hr,hn⟩
    obtain ⟨hrm,hcap⟩:=rmj;obtain ⟨k,hk⟩ : ∃k,k=rank Z10 l x:=⟨_,rfl⟩;rw [← hk] at hi2 hlt ⊢;obtain ⟨u0,t0⟩:=hrm.cell (i:=k*4) (by omega);obtain ⟨u1,t1⟩:=hrm.cell (i:=k*4+1) (by omega);obtain ⟨u2,t2⟩:=hrm.cell (i:=k*4+2) (by omega);obtain ⟨u3,t3⟩:=hrm.cell (i:=k*4+3) (by omega);have x0:=(HFR.out.cell (p:=⟨w.heap.size,0,none⟩) hk4 (fun h=>hgk1 h.symm)).trans z0;have x1:=(HFR.out.cell (p:=⟨w.heap.size,1,none⟩) hk4 (fun h=>hgk1 h.symm)).trans z1;have x2:=(HFR.out.cell (p:=⟨w.heap.size,2,none⟩) hk4 (fun h=>hgk1 h.symm)).trans z2;have x3:=(HFR.out.cell (p:=⟨w.heap.size,3,none⟩) hk4 (fun h=>hgk1 h.symm)).trans z3;(have b1:(0:Int)≤(k:Int):=by omega);(have b2:(k:Int)<(l.length:Int)+1:=by omega);have HK:=hid hk;(have hkw:w.heap.size<wr.heap.size:=by have:=HFR.out.size;omega);have hbw:b<wr.heap.size:=Zoa wr _ r0;clear hrm hk z0 z1 z2 z3;(go_wp2_with fail);refine Z06 (fun w9=>Below wr.heap.size wr w9) [(0,0),(1,0),(2,0),(3,1),(4,0),(5,1),(6,0),(7,2)] (by kernel_rfl) (by kernel_rfl) (fun KK hKK=>?_);simp only [Z05,Zo9,Zo2,Zo7,Zo5,Zo6,Zoc];(repeat ((first | (refine Z0a ?_ (Or.inl ⟨by rfl,fun w9=>?_⟩) ?_;rotate_left 1;go_simp;with_reducible rfl) | (refine Z09 ?_ (((Znz _ _).drew)) (Or.inl ⟨by rfl,fun w9 hw9=>?_⟩) ?_;rotate_left 1;obtain ⟨hc9,hf9⟩:=Z0q hw9;go_simp;with_reducible rfl) | refine Z0a undef (Or.inr ⟨by rfl,rfl⟩) ?_ | refine Z09 undef (((Znz _ _).drew)) (Or.inr ⟨by rfl,rfl⟩) ?_);go_frame));refine Z1n (by kernel_rfl) (fun K9 hK9=>?_);go_simp;refine hK9 _ _ ?_;clear hK9 K9;refine Z12 ?_;simp only [Z00];refine hKK _ _ ?_;clear hKK KK;(go_wp2_with fail);go_ret;have HOWk:=HOW.out;rw [← HK.out] at HOWk;have hst:=((((((((HOWk).stored (k*4) (.int .i64 x.kk.kind)).1).stored (k*4+1) (.string x.kk.text)).1).stored (k*4+2) (.int .i64 x.kk.n)).1).stored (k*4+3) (.int .i64 x.v)).1
    have he:setAll ((Z0c l x k).flatMap PgS.cells) (k*4) (PgS.cells x)=(put Z10 l x).flatMap PgS.cells:=by
     rw [Z4a PgS.cells_length (by omega) _ k (by rw [Z03 l x hi2];omega),Z2q l x hi2,Z66 Z4b HO.out hh,HK.out]
    have hln:=Z2e Z4b HO.out hh;refine ⟨by rw [hh];rfl,false,some ⟨g,0,none⟩,c2,⟨?_,?_⟩,?_,?_⟩
    · rw [hln]
      exact ((((HB4.out.fr HFR.out (fun h=>hgb h.symm)).far (p:=⟨g,k*4,none⟩) (fun h=>hgb h.symm) _).far (p:=⟨g,k*4+1,none⟩) (fun h=>hgb h.symm) _).far (p:=⟨g,k*4+2,none⟩) (fun h=>hgb h.symm) _).far (p:=⟨g,k*4+3,none⟩) (fun h=>hgb h.symm) _
    · rw [hln,← he]
      exact hst
    · exact HF4.out.into (Fr.drew (((((HFR.out).setCell (p:=⟨g,k*4,none⟩) (.inl rfl) (_)).setCell (p:=⟨g,k*4+1,none⟩) (.inl rfl) (_)).setCell (p:=⟨g,k*4+2,none⟩) (.inl rfl) (_)).setCell (p:=⟨g,k*4+3,none⟩) (.inl rfl) (_))) (fun k hk=>by subst hk;exact HgM.out)
    · exact HgMv.out
theorem Zih (b c:Nat) (sn:Bool) (A:Option Addr) (l:List PgS) (x:PgS) (w:World) (hS:Z2n w b sn A c l) (hs:Srt Z10 l) (hl:(l.length:Int)≤100000000) :
 Calls Tryz.prog 183 #[.pointer (some ⟨b,0,none⟩),.agg #[.int .i64 x.kk.kind,.string x.kk.text,.int .i64 x.kk.n,.int .i64 x.v]] w (Z7c w b sn A l x):=by
 cases hh:has Z10 l x
 · exact Zdl b c sn A l x w hS hs hl hh
 · exact Zaj b c sn A l x w hS hs hl hh
theorem Z9b (b c:Nat) (sn:Bool) (A:Option Addr) (l:List PgS) (x:PgS) (w:World) (hS:Z2n w b sn A c l) (hs:Srt Z10 l) (hl:(l.length:Int)≤1000000000) (hh:has Z10 l x=false) :
 Calls Tryz.prog 146 #[.pointer (some ⟨b,0,none⟩),.agg #[.int .i64 x.kk.kind,.string x.kk.text,.int .i64 x.kk.n,.int .i64 x.v]] w fun e w'=>e = .returned (.tuple #[.agg #[.int .i64 0,.string ⟨#[]⟩,.int .i64 0,.int .i64 0],.bool false])∧Below w.heap.size w w':=by
 have HS:=hid hS;have HO:=hid hs;clear hS hs;go_enter Tryz.func146,Tryz.ntmps146;(go_wp2_with fail);refine (Z86 b c sn A l x _ (HS.out.new_ ((((Znz _ _).alloc (Zo0 _) _).alloc (by simp) _).alloc (by simp;omega) _)) HO.out (by omega)).mono ?_;rintro e w1 ⟨rfl,hb1⟩;obtain ⟨hc1,hf1⟩:=Z0q hb1;(have hz1:w.heap.size+2<w1.heap.size:=by have:=hb1.size;simp at this;omega);have HB:=hid ((((((Znz w.heap.size w).alloc (Zo0 _) _).alloc (by simp) _).alloc (by simp;omega) _)).trans (hb1.mono (by simp;omega)));clear hb1;(go_wp2_with fail);exact bodyPost_ret (v:=.tuple #[.agg #[.int .i64 0,.string ⟨#[]⟩,.int .i64 0,.int .i64 0],.bool false]) (by simp [results,Tryz.results146,go_sem,hc1]) rfl ⟨rfl,by (repeat (first | exact Znz _ _ | exact HB.out | refine Below.drew ?_ | refine Below.al ?_ _ | refine Below.sc ?_ _))⟩
theorem Zf5 (b c:Nat) (sn:Bool) (A:Option Addr) (l:List PgS) (x y:PgS) (w:World) (hS:Z2n w b sn A c l) (hs:Srt Z10 l) (hl:(l.length:Int)≤1000000000) (hh:has Z10 l x=true) (hy:l[rank Z10 l x]? = some y) :
 Calls Tryz.prog 146 #[.pointer (some ⟨b,0,none⟩),.agg #[.int .i64 x.kk.kind,.string x.kk.text,.int .i64 x.kk.n,.int .i64 x.v]] w fun e w'=>e = .returned (.tuple #[.agg #[.int .i64 y.kk.kind,.string y.kk.text,.int .i64 y.kk.n,.int .i64 y.v],.bool true])∧Below w.heap.size w w':=by
 have HS:=hid hS;have HO:=hid hs;obtain ⟨hrk,hye⟩:=Zoh.1 hy;have hrd:=hS.rd PgS.cells_length;have s0:=hS.cell0;have hb:=hS.lt;clear hS hs hy;obtain ⟨g,off,rfl,hgs,hcell⟩:=hrd.at_ hrk;rw [hye] at hcell;obtain ⟨k,hk⟩ : ∃k,k=rank Z10 l x:=⟨_,rfl⟩;rw [← hk] at hcell hrk;(have q0:w.cell? ⟨g,off+k*4,none⟩=some (.int .i64 y.kk.kind):=by simpa using hcell 0 _ rfl);(have q1:w.cell? ⟨g,off+k*4+1,none⟩=some (.string y.kk.text):=by simpa using hcell 1 _ rfl);(have q2:w.cell? ⟨g,off+k*4+2,none⟩=some (.int .i64 y.kk.n):=by simpa using hcell 2 _ rfl);(have q3:w.cell? ⟨g,off+k*4+3,none⟩=some (.int .i64 y.v):=by simpa using hcell 3 _ rfl);(have b1:(0:Int)≤(k:Int):=by omega);(have b2:(k:Int)<(l.length:Int):=by omega);have HK:=hid hk;clear hcell hrd hye hk;go_enter Tryz.func146,Tryz.ntmps146;(go_wp2_with fail);refine (Z86 b c sn _ l x _ (HS.out.new_ ((((Znz _ _).alloc (Zo0 _) _).alloc (by simp) _).alloc (by simp;omega) _)) HO.out (by omega)).mono ?_;rintro e w1 ⟨rfl,hb1⟩;rw [← HK.out];obtain ⟨hc1,hf1⟩:=Z0q hb1;(have hz1:w.heap.size+2<w1.heap.size:=by have:=hb1.size;simp at this;omega);have HB:=hid ((((((Znz w.heap.size w).alloc (Zo0 _) _).alloc (by simp) _).alloc (by simp;omega) _)).trans (hb1.mono (by simp;omega)));clear hb1;have r0:=(HB.out.cell (p:=⟨b,0,none⟩) hb).trans s0;have r1:=(HB.out.cell (p:=⟨g,off+k*4,none⟩) hgs).trans q0;have r2:=(HB.out.cell (p:=⟨g,off+k*4+1,none⟩) hgs).trans q1;have r3:=(HB.out.cell (p:=⟨g,off+k*4+2,none⟩) hgs).trans q2;have r4:=(HB.out.cell (p:=⟨g,off+k*4+3,none⟩) hgs).trans q3;clear s0 q0 q1 q2 q3;(go_wp2_with fail);exact bodyPost_ret (v:=.tuple #[.agg #[.int .i64 y.kk.kind,.string y.kk.text,.int .i64 y.kk.n,.int .i64 y.v],.bool true]) (by simp [results,Tryz.results146,go_sem,hc1]) rfl ⟨rfl,by (repeat (first | exact Znz _ _ | exact HB.out | refine Below.drew ?_ | refine Below.al ?_ _ | refine Below.sc ?_ _))⟩
def Zer (w:World) (xs:List PgS) (e:Ending) (w':World):Prop:=
 ∃k,e = .returned (.pointer (some ⟨k,0,none⟩))∧w.heap.size≤k∧∃sn A c,Z2n w' k sn A c (puts Z10 [] xs)∧AIn A (w.heap.size≤·)∧Below w.heap.size w w'
theorem Zmm (A:Option Addr) (c:Nat) (xs:List PgS) (w:World) (hrd:Z0p w 4 PgS.cells A c xs) (hl:(xs.length:Int)≤10000000) :
 Calls Tryz.prog 140 #[.slice A xs.length c] w (Zer w xs):=by
 have HRD:=hid hrd;clear hrd;go_enter Tryz.func140,Tryz.ntmps140;(go_wp2_with fail);obtain ⟨W0,hW0⟩ : ∃W0,W0=w.alloc (.cells #[.slice none 0 0,.bool false] 281):=⟨_,rfl⟩;(have hb0:Below w.heap.size w W0:=by rw [hW0];exact (Znz _ _).alloc (Zo0 _) _);have hS0:Z2n W0 w.heap.size false none 0 []:=⟨by rw [hW0];exact Blk.new _ _ _,⟨by simp,.inl ⟨rfl,rfl⟩⟩⟩;rw [← hW0];clear hW0;have HB0:=hid hb0;have HS0:=hid hS0;clear hb0 hS0
 go_loopw [10] (fun s wr=>∃i:Nat,s = .int .i64 i∧i≤xs.length∧∃sn A' c',Z2n wr w.heap.size sn A' c' (puts Z10 [] (xs.take i))∧AIn A' (w.heap.size≤·)∧Below w.heap.size w wr) (fun s wr=>xs.length - (intOf s).toNat)
 case atStart=>exact ⟨0,rfl,Nat.zero_le _,false,none,0,HS0.out,AIn.none_ _,HB0.out⟩
 case round=>
  obtain ⟨i,rfl,hi,sn,A',c',hS,hA',hB⟩:=hrel;have HS:=hid hS;have HA:=hid hA';have HB:=hid hB;clear hS hA' hB;by_cases hlt:i<xs.length
  · obtain ⟨x,hx⟩ : ∃x,x=xs[i]:=⟨_,rfl⟩
    obtain ⟨g,off,rfl,hgs,hcell⟩:=(HRD.out.fr (Fr.of_new (M:=fun _=>False) HB.out) (fun _ _ h=>h)).at_ hlt;rw [← hx] at hcell;(have q0:wr.cell? ⟨g,off+i*4,none⟩=some (.int .i64 x.kk.kind):=by simpa using hcell 0 _ rfl);(have q1:wr.cell? ⟨g,off+i*4+1,none⟩=some (.string x.kk.text):=by simpa using hcell 1 _ rfl);(have q2:wr.cell? ⟨g,off+i*4+2,none⟩=some (.int .i64 x.kk.n):=by simpa using hcell 2 _ rfl);(have q3:wr.cell? ⟨g,off+i*4+3,none⟩=some (.int .i64 x.v):=by simpa using hcell 3 _ rfl);(have b1:(0:Int)≤(i:Int):=by omega);(have b2:(i:Int)<(xs.length:Int):=by omega);have HX:=hid hx;clear hcell hx;(go_wp2_with fail);have hsr:=Srt.puts Z4b (xs.take i) (Srt.nil (cmp:=Z10))
    have hlen:(((puts Z10 [] (xs.take i)).length:Nat):Int)≤100000000:=by
     have:=Z13 Z4b (xs.take i) (Srt.nil (cmp:=Z10));simp at this;omega
    refine (Zih w.heap.size c' sn A' _ x _ (HS.out.new_ ((Znz _ _).alloc (Zo0 _) _)) hsr hlen).mono ?_;rintro e w1 ⟨rfl,sn2,A2,c2,hS2,hF2,hM2⟩
    have hB1:Below w.heap.size w w1:=(HB.out.alloc HB.out.size _).trans (hF2.below (by have:=HB.out.size;(try simp);omega) (fun k hk hm=>by
     rcases hm with hm | ⟨_,a,ha,hm⟩
     · omega
     · have:=HA.out a ha;omega))
    have hA2:AIn A2 (w.heap.size≤·):=by
     rcases hM2 with ⟨_,rfl⟩ | ⟨_,g2,hg2,rfl⟩
     · exact HA.out
     · intro a ha;cases ha;have:=HB.out.size;(try simp at hg2 ⊢);omega
    have HS2:=hid hS2;have HB1:=hid hB1;have HA2:=hid hA2;clear hS2 hB1 hA2 hF2 hM2 hsr hlen q0 q1 q2 q3;(go_wp2_with fail);go_roundw
    case rel=>
     refine ⟨i+1,by go_num,by omega,sn2,A2,c2,?_,HA2.out,HB1.out⟩;rw [Zou,Zo8 hlt,← HX.out];simp only [Option.toList_some,Z23];exact HS2.out
    case measure=>simp [intOf]<;>omega
  · have hie:i=xs.length:=by omega
    subst hie;(go_wp2_with fail);go_ret;refine ⟨w.heap.size,rfl,Zo0 _,sn,A',c',?_,HA.out,HB.out⟩;have:=HS.out;rwa [Zop] at this
abbrev zPgS (k:Sym):PgS:=⟨k,0⟩
theorem Z9w (k:Sym) (w:World):Calls Tryz.prog 147 #[.agg #[.int .i64 k.kind,.string k.text,.int .i64 k.n]] w fun e w'=>e = .returned (.agg #[.int .i64 k.kind,.string k.text,.int .i64 k.n,.int .i64 0])∧Below w.heap.size w w':=by
 obtain ⟨W,hW⟩ : ∃W,W=(w.alloc (.cells #[.int .i64 k.kind,.string k.text,.int .i64 k.n] 23)).alloc (.cells #[.int .i64 0,.string ⟨#[]⟩,.int .i64 0,.int .i64 0] 224):=⟨_,rfl⟩;(have hK:Blk W w.heap.size 23 #[.int .i64 k.kind,.string k.text,.int .i64 k.n]:=by rw [hW];exact (Blk.new _ _ _).alloc _);(have hR:Blk W (w.heap.size+1) 224 #[.int .i64 0,.string ⟨#[]⟩,.int .i64 0,.int .i64 0]:=by rw [hW];have hh:=Blk.new (w.alloc (.cells #[.int .i64 k.kind,.string k.text,.int .i64 k.n] 23)) 224 #[.int .i64 0,.string ⟨#[]⟩,.int .i64 0,.int .i64 0];simp only [Zos] at hh;exact hh);(have hB:Below w.heap.size w W:=by rw [hW];exact ((Znz _ _).alloc (Zo0 _) _).alloc (by simp) _);have ht:W.there (w.heap.size+1) 0 (#[.int .i64 k.kind,.string k.text,.int .i64 k.n,.int .i64 0]:Array Value).size:=hR.there;have HT:=hid ht;have HB:=hid hB;obtain ⟨k0,k1,k2⟩:=hK.c3;have kz:=hK.lt;clear ht hR hB hK;go_enter Tryz.func147,Tryz.ntmps147;(go_upto_region 1 with (fail));rw [← hW];clear hW;(go_wp2_with (with_reducible refine wpList_store_mid rfl 224 _ _ rfl (w.heap.size+1) 0 #[.int .i64 k.kind,.string k.text,.int .i64 k.n,.int .i64 0] rfl rfl HT.out (by kernel_rfl) (by kernel_rfl) ?_));(try simp only [Exit.inBlock,Exit.then]);refine bodyPost_ret (v:=.agg #[.int .i64 k.kind,.string k.text,.int .i64 k.n,.int .i64 0]) ?_ rfl ⟨rfl,Below.setCells' _ _ HB.out (by omega)⟩;exact Z1l (t:=2) (T:=224) rfl _ _ (w.heap.size+1) [.int .i64 k.kind,.string k.text,.int .i64 k.n,.int .i64 0] _ rfl (Zo4 W (w.heap.size+1) 0 [.int .i64 k.kind,.string k.text,.int .i64 k.n,.int .i64 0] HT.out) Tryz.underlying224 rfl (by kernel_rfl)
theorem Zgy (w:World):Calls Tryz.prog 100 #[] w fun e w'=>∃bm bp sn A c,e = .returned (.pointer (some ⟨bm,0,none⟩))∧w.heap.size≤bm∧w.heap.size≤bp∧AIn A (w.heap.size≤·)∧Blk w' bm 226 #[.pointer (some ⟨bp,0,none⟩)]∧Z2n w' bp sn A c []∧Below w.heap.size w w':=by
 go_enter Tryz.func100,Tryz.ntmps100;(go_wp2_with fail);refine (Zmm none 0 [] _ (Z0p.nil _ _ _) (by simp)).mono ?_;rintro e w1 ⟨bp,rfl,hbp,sn,A,c,hS,hA,hB⟩;have HS:=hid hS;have HB:=hid hB;clear hS hB;(go_wp2_with fail);go_ret;have hb9:Below w1.heap.size w1 (w1.alloc (.cells #[.pointer (some ⟨bp,0,none⟩)] 226)):=(Znz _ _).alloc (Zo0 _) _;exact ⟨w1.heap.size,bp,sn,A,c,rfl,HB.out.size,hbp,hA,Blk.new _ _ _,HS.out.new_ hb9,HB.out.trans (hb9.mono HB.out.size)⟩
theorem Zb1 (bm bp cc:Nat) (sn:Bool) (A:Option Addr) (m:List PgS) (k:Sym) (w:World) (hM:Blk w bm 226 #[.pointer (some ⟨bp,0,none⟩)]) (hS:Z2n w bp sn A cc m) (hs:Srt Z10 m) (hl:(m.length:Int)≤1000000) (hh:has Z10 m (zPgS k)=false) :
 Calls Tryz.prog 103 #[.pointer (some ⟨bm,0,none⟩),.agg #[.int .i64 k.kind,.string k.text,.int .i64 k.n]] w fun e w'=>e = .returned (.tuple #[.int .i64 0,.bool false])∧Below w.heap.size w w':=by
 have s0:=hM.c1;have hml:=hM.lt;have HS:=hid hS;have HO:=hid hs;have HM:=hid hM;have HH:=hid hh;clear hS hs hM hh;go_enter Tryz.func103,Tryz.ntmps103;(go_upto_region 4 with (fail));obtain ⟨W0,hW0⟩ : ∃W0,W0=w.alloc (.cells #[.int .i64 k.kind,.string k.text,.int .i64 k.n] 23):=⟨_,rfl⟩;(have hB0:Below w.heap.size w W0:=by rw [hW0];exact (Znz _ _).alloc (Zo0 _) _);(have hbx:Blk W0 w.heap.size 23 #[.int .i64 k.kind,.string k.text,.int .i64 k.n]:=by rw [hW0];exact Blk.new _ _ _);have hz0:w.heap.size<W0.heap.size:=hbx.lt;rw [← hW0];clear hW0;have s1:=(hB0.cell (p:=⟨bm,0,none⟩) hml).trans s0;clear s0;obtain ⟨k0,k1,k2⟩:=hbx.c3;have HS0:=hid (HS.out.new_ hB0);have HM0:=hid (HM.out.new_ hB0);have HX0:=hid hbx;have HB0:=hid hB0;(have hml0:bm<W0.heap.size:=by omega);clear hB0 hbx HS HM
 go_cut [7,8] from 12 (fun p b wc=>b = .bool false∧Below W0.heap.size W0 wc∧∃g,p = .pointer (some ⟨g,0,none⟩)∧W0.heap.size≤g∧g<wc.heap.size∧wc.rangeAt g 0 [.int .i64 0,.string ⟨#[]⟩,.int .i64 0,.int .i64 0])
 case first=>
  refine Z17 (fun w9=>Below W0.heap.size W0 w9) [0,1,2,3,4,7,8,9,12] [3,4] (.fork [(0,0),(1,0),(2,0),(3,1),(4,1)] 5 (.fork [] 6 (.fin [(7,0),(8,0),(9,0),(10,2),(11,2),(12,0)]) 10 (.fin [(6,2),(7,0),(8,0),(9,0),(11,2),(12,0)])) 10 (.fin [(5,2),(6,2),(7,0),(8,0),(9,0),(11,2),(12,0)])) (by kernel_rfl) (by kernel_rfl) (by kernel_rfl) (fun KK hKK=>?_);simp only [wpPl,Z05,Zo9,Zo2,Zo7,Zo5,Zo6,Zoc];have HB:=hid (Znz W0.heap.size W0).drew;obtain ⟨V,hV⟩ : ∃V,V=W0.drew:=⟨_,rfl⟩;rw [← hV] at HB ⊢;clear hV
  repeat' (first
   | ((first | (refine Z1s ?_ (Or.inl ⟨by rfl,fun w9=>?_⟩) ?_;rotate_left 1;go_simp;with_reducible rfl) | (refine Z2c ?_ (HB.out) (Or.inl ⟨by rfl,fun w9 hw9=>?_⟩) ?_;rotate_left 1;obtain ⟨hc9,hf9⟩:=Z0q hw9;go_simp;with_reducible rfl) | refine Z1s undef (Or.inr ⟨by rfl,rfl⟩) ?_ | refine Z2c undef (HB.out) (Or.inr ⟨by rfl,rfl⟩) ?_);go_frame)
   | ((first | refine Z1v (fun K9 hK9=>?_) | refine Z1a rfl (fun K9 hK9=>?_));refine Z0n rfl 224 _ _ rfl g 0 #[.int .i64 0,.string ⟨#[]⟩,.int .i64 0,.int .i64 0] rfl rfl (show _ from HK.out.there) (by kernel_rfl) (by kernel_rfl) ?_;show K9 _ (V.setCells g 0 [.int .i64 0,.string ⟨#[]⟩,.int .i64 0,.int .i64 0]);have HR:=hid (Zo4 V g 0 [.int .i64 0,.string ⟨#[]⟩,.int .i64 0,.int .i64 0] (show _ from HK.out.there));have HB:=hid (Below.setCells' [.int .i64 0,.string ⟨#[]⟩,.int .i64 0,.int .i64 0] 0 HB.out HG.out);obtain ⟨V,hV⟩ : ∃V9,V9=V.setCells g 0 [.int .i64 0,.string ⟨#[]⟩,.int .i64 0,.int .i64 0]:=⟨_,rfl⟩;rw [← hV] at HR HB;rw [← hV];have HL:=hid (show g<V.heap.size from Zoa _ _ (HR.out 0 _ rfl));clear hV;(first | refine hK9 _ _ (HB.out) ?_ | refine hK9 _ _ (fun _=>HB.out) ?_);clear hK9 K9;(try go_frame);try simp only [Z05,Zo2])
   | ((first | refine Z1v (fun K9 hK9=>?_) | refine Z1a rfl (fun K9 hK9=>?_));go_simp;(first
     | (refine (Z9w k _).mono ?_;rintro e V ⟨rfl,hb⟩;have HB:=hid (HB.out.trans (hb.mono HB.out.size));(try have HK:=hid (HK.out.new_ hb));clear hb)
     | (refine (Z9b bp cc sn A m (zPgS k) _ (HS0.out.new_ (HB.out)) HO.out (by omega) HH.out).mono ?_;rintro e V ⟨rfl,hb⟩;have HB:=hid (HB.out.trans (hb.mono HB.out.size));(try have HK:=hid (HK.out.new_ hb));clear hb)
     | (obtain ⟨g,hg⟩ : ∃g,g=V.heap.size:=⟨_,rfl⟩;have hk:=Blk.new V 224 #[.int .i64 0,.string ⟨#[]⟩,.int .i64 0,.int .i64 0];have HG:=hid (show W0.heap.size≤g by rw [hg];exact HB.out.size);have HB:=hid (HB.out.alloc HB.out.size (.cells #[.int .i64 0,.string ⟨#[]⟩,.int .i64 0,.int .i64 0] 224));obtain ⟨V,hV⟩ : ∃V9,V9=V.alloc (.cells #[.int .i64 0,.string ⟨#[]⟩,.int .i64 0,.int .i64 0] 224):=⟨_,rfl⟩;rw [← hV,← hg] at hk;rw [← hV] at HB;have HK:=hid hk;rw [← hV,← hg];clear hV hk hg) | fail);(first | refine hK9 _ _ (HB.out) ?_ | refine hK9 _ _ (fun _=>HB.out) ?_);clear hK9 K9;(try go_frame);try simp only [Z05,Zo2])
   | (refine Z0u ⟨?_,?_⟩) | fail)
  all_goals
   refine Z0u ?_;simp only [Z00];refine hKK _ _ ?_;clear hKK KK;(go_wp2_with fail);go_meet
   case rel=>exact ⟨rfl,HB.out,g,rfl,HG.out,HL.out,HR.out⟩
 case rest=>
  obtain ⟨rfl,hB,g,rfl,hg,hgl,hr⟩:=hcut;have HB:=hid hB;have g1:wc.cell? ⟨g,3,none⟩=some (.int .i64 0):=hr 3 _ rfl;clear hB hr s1 k0 k1 k2;(go_wp2_with fail);go_ret2;exact ⟨rfl,HB0.out.trans (HB.out.mono (by omega))⟩
theorem Zaz (bm bp cc:Nat) (sn:Bool) (A:Option Addr) (m:List PgS) (k:Sym) (y:PgS) (w:World) (hM:Blk w bm 226 #[.pointer (some ⟨bp,0,none⟩)]) (hS:Z2n w bp sn A cc m) (hs:Srt Z10 m) (hl:(m.length:Int)≤1000000) (hh:has Z10 m (zPgS k)=true) (hy:m[rank Z10 m (zPgS k)]? = some y) :
 Calls Tryz.prog 103 #[.pointer (some ⟨bm,0,none⟩),.agg #[.int .i64 k.kind,.string k.text,.int .i64 k.n]] w fun e w'=>e = .returned (.tuple #[.int .i64 y.v,.bool true])∧Below w.heap.size w w':=by
 have s0:=hM.c1;have hml:=hM.lt;have HS:=hid hS;have HO:=hid hs;have HM:=hid hM;have HH:=hid hh;have HY:=hid hy;clear hy;clear hS hs hM hh;go_enter Tryz.func103,Tryz.ntmps103;(go_upto_region 4 with (fail));obtain ⟨W0,hW0⟩ : ∃W0,W0=w.alloc (.cells #[.int .i64 k.kind,.string k.text,.int .i64 k.n] 23):=⟨_,rfl⟩;(have hB0:Below w.heap.size w W0:=by rw [hW0];exact (Znz _ _).alloc (Zo0 _) _);(have hbx:Blk W0 w.heap.size 23 #[.int .i64 k.kind,.string k.text,.int .i64 k.n]:=by rw [hW0];exact Blk.new _ _ _);have hz0:w.heap.size<W0.heap.size:=hbx.lt;rw [← hW0];clear hW0;have s1:=(hB0.cell (p:=⟨bm,0,none⟩) hml).trans s0;clear s0;obtain ⟨k0,k1,k2⟩:=hbx.c3;have HS0:=hid (HS.out.new_ hB0);have HM0:=hid (HM.out.new_ hB0);have HX0:=hid hbx;have HB0:=hid hB0;(have hml0:bm<W0.heap.size:=by omega);clear hB0 hbx HS HM
 go_cut [7,8] from 12 (fun p b wc=>b = .bool true∧Below W0.heap.size W0 wc∧∃g,p = .pointer (some ⟨g,0,none⟩)∧W0.heap.size≤g∧g<wc.heap.size∧wc.rangeAt g 0 [.int .i64 y.kk.kind,.string y.kk.text,.int .i64 y.kk.n,.int .i64 y.v])
 case first=>
  refine Z17 (fun w9=>Below W0.heap.size W0 w9) [0,1,2,3,4,7,8,9,12] [3,4] (.fork [(0,0),(1,0),(2,0),(3,1),(4,1)] 5 (.fork [] 6 (.fin [(7,0),(8,0),(9,0),(10,2),(11,2),(12,0)]) 10 (.fin [(6,2),(7,0),(8,0),(9,0),(11,2),(12,0)])) 10 (.fin [(5,2),(6,2),(7,0),(8,0),(9,0),(11,2),(12,0)])) (by kernel_rfl) (by kernel_rfl) (by kernel_rfl) (fun KK hKK=>?_);simp only [wpPl,Z05,Zo9,Zo2,Zo7,Zo5,Zo6,Zoc];have HB:=hid (Znz W0.heap.size W0).drew;obtain ⟨V,hV⟩ : ∃V,V=W0.drew:=⟨_,rfl⟩;rw [← hV] at HB ⊢;clear hV
  repeat' (first
   | ((first | (refine Z1s ?_ (Or.inl ⟨by rfl,fun w9=>?_⟩) ?_;rotate_left 1;go_simp;with_reducible rfl) | (refine Z2c ?_ (HB.out) (Or.inl ⟨by rfl,fun w9 hw9=>?_⟩) ?_;rotate_left 1;obtain ⟨hc9,hf9⟩:=Z0q hw9;go_simp;with_reducible rfl) | refine Z1s undef (Or.inr ⟨by rfl,rfl⟩) ?_ | refine Z2c undef (HB.out) (Or.inr ⟨by rfl,rfl⟩) ?_);go_frame)
   | ((first | refine Z1v (fun K9 hK9=>?_) | refine Z1a rfl (fun K9 hK9=>?_));refine Z0n rfl 224 _ _ rfl g 0 #[.int .i64 y.kk.kind,.string y.kk.text,.int .i64 y.kk.n,.int .i64 y.v] rfl rfl (show _ from HK.out.there) (by kernel_rfl) (by kernel_rfl) ?_;show K9 _ (V.setCells g 0 [.int .i64 y.kk.kind,.string y.kk.text,.int .i64 y.kk.n,.int .i64 y.v]);have HR:=hid (Zo4 V g 0 [.int .i64 y.kk.kind,.string y.kk.text,.int .i64 y.kk.n,.int .i64 y.v] (show _ from HK.out.there));have HB:=hid (Below.setCells' [.int .i64 y.kk.kind,.string y.kk.text,.int .i64 y.kk.n,.int .i64 y.v] 0 HB.out HG.out);obtain ⟨V,hV⟩ : ∃V9,V9=V.setCells g 0 [.int .i64 y.kk.kind,.string y.kk.text,.int .i64 y.kk.n,.int .i64 y.v]:=⟨_,rfl⟩;rw [← hV] at HR HB;rw [← hV];have HL:=hid (show g<V.heap.size from Zoa _ _ (HR.out 0 _ rfl));clear hV;(first | refine hK9 _ _ (HB.out) ?_ | refine hK9 _ _ (fun _=>HB.out) ?_);clear hK9 K9;(try go_frame);try simp only [Z05,Zo2])
   | ((first | refine Z1v (fun K9 hK9=>?_) | refine Z1a rfl (fun K9 hK9=>?_));go_simp;(first
     | (refine (Z9w k _).mono ?_;rintro e V ⟨rfl,hb⟩;have HB:=hid (HB.out.trans (hb.mono HB.out.size));(try have HK:=hid (HK.out.new_ hb));clear hb)
     | (refine (Zf5 bp cc sn A m (zPgS k) y _ (HS0.out.new_ (HB.out)) HO.out (by omega) HH.out HY.out).mono ?_;rintro e V ⟨rfl,hb⟩;have HB:=hid (HB.out.trans (hb.mono HB.out.size));(try have HK:=hid (HK.out.new_ hb));clear hb)
     | (obtain ⟨g,hg⟩ : ∃g,g=V.heap.size:=⟨_,rfl⟩;have hk:=Blk.new V 224 #[.int .i64 0,.string ⟨#[]⟩,.int .i64 0,.int .i64 0];have HG:=hid (show W0.heap.size≤g by rw [hg];exact HB.out.size);have HB:=hid (HB.out.alloc HB.out.size (.cells #[.int .i64 0,.string ⟨#[]⟩,.int .i64 0,.int .i64 0] 224));obtain ⟨V,hV⟩ : ∃V9,V9=V.alloc (.cells #[.int .i64 0,.string ⟨#[]⟩,.int .i64 0,.int .i64 0] 224):=⟨_,rfl⟩;rw [← hV,← hg] at hk;rw [← hV] at HB;have HK:=hid hk;rw [← hV,← hg];clear hV hk hg) | fail);(first | refine hK9 _ _ (HB.out) ?_ | refine hK9 _ _ (fun _=>HB.out) ?_);clear hK9 K9;(try go_frame);try simp only [Z05,Zo2])
   | (refine Z0u ⟨?_,?_⟩) | fail)
  all_goals
   refine Z0u ?_;simp only [Z00];refine hKK _ _ ?_;clear hKK KK;(go_wp2_with fail);go_meet
   case rel=>exact ⟨rfl,HB.out,g,rfl,HG.out,HL.out,HR.out⟩
 case rest=>
  obtain ⟨rfl,hB,g,rfl,hg,hgl,hr⟩:=hcut;have HB:=hid hB;have g1:wc.cell? ⟨g,3,none⟩=some (.int .i64 y.v):=hr 3 _ rfl;clear hB hr s1 k0 k1 k2;(go_wp2_with fail);go_ret2;exact ⟨rfl,HB0.out.trans (HB.out.mono (by omega))⟩
theorem Z1p.of_PgS {a b:World} (h:Below a.heap.size a b) {sn sn':Bool} {A A':Option Addr} (hm:Z1p b sn A sn' A'):Z1p a sn A sn' A':=
 hm.imp id (fun ⟨h1,g,h2,h3⟩=>⟨h1,g,by have:=h.size;omega,h3⟩)
theorem Zh2 (bm bp cc:Nat) (sn:Bool) (A:Option Addr) (m:List PgS) (k:Sym) (xv:Int) (w:World) (hM:Blk w bm 226 #[.pointer (some ⟨bp,0,none⟩)]) (hS:Z2n w bp sn A cc m) (hs:Srt Z10 m) (hl:(m.length:Int)≤1000000) (hh:has Z10 m (zPgS k)=false) :
 Calls Tryz.prog 145 #[.pointer (some ⟨bm,0,none⟩),.agg #[.int .i64 k.kind,.string k.text,.int .i64 k.n],.int .i64 xv] w fun e w'=>e = .returned (.bool true)∧∃sn' A' c',Z2n w' bp sn' A' c' (put Z10 m ⟨k,xv⟩)∧Fr (Z0y bp sn A) w w'∧Z1p w sn A sn' A':=by
 have hh0:has Z10 m ⟨k,xv⟩=false:=hh;have s0:=hM.c1;have hml:=hM.lt;have HS:=hid hS;have HO:=hid hs;have HM:=hid hM;have HH:=hid hh;have HH0:=hid hh0;clear hS hs hM hh hh0;go_enter Tryz.func145,Tryz.ntmps145;(go_upto_region 3 with (fail));obtain ⟨W0,hW0⟩ : ∃W0,W0=w.alloc (.cells #[.int .i64 k.kind,.string k.text,.int .i64 k.n] 23):=⟨_,rfl⟩;(have hB0:Below w.heap.size w W0:=by rw [hW0];exact (Znz _ _).alloc (Zo0 _) _);(have hbx:Blk W0 w.heap.size 23 #[.int .i64 k.kind,.string k.text,.int .i64 k.n]:=by rw [hW0];exact Blk.new _ _ _);have hz0:w.heap.size<W0.heap.size:=hbx.lt;rw [← hW0];clear hW0;have s1:=(hB0.cell (p:=⟨bm,0,none⟩) hml).trans s0;clear s0;obtain ⟨k0,k1,k2⟩:=hbx.c3;have HS0:=hid (HS.out.new_ hB0);have HM0:=hid (HM.out.new_ hB0);have HX0:=hid hbx;have HB0:=hid hB0;(have hml0:bm<W0.heap.size:=by omega);clear hB0 hbx HS HM
 go_cut [8] from 11 (fun b wc=>b = .bool false∧Below W0.heap.size W0 wc)
 case first=>
  refine Z17 (fun w9=>Below W0.heap.size W0 w9) [0,1,2,3,4,7,8,9,12] [3,4] (.fork [(0,0),(1,0),(2,0),(3,1),(4,1)] 5 (.fork [] 6 (.fin [(7,0),(8,0),(9,0),(10,2),(11,2),(12,0)]) 10 (.fin [(6,2),(7,0),(8,0),(9,0),(11,2),(12,0)])) 10 (.fin [(5,2),(6,2),(7,0),(8,0),(9,0),(11,2),(12,0)])) (by kernel_rfl) (by kernel_rfl) (by kernel_rfl) (fun KK hKK=>?_);simp only [wpPl,Z05,Zo9,Zo2,Zo7,Zo5,Zo6,Zoc];have HB:=hid (Znz W0.heap.size W0).drew;obtain ⟨V,hV⟩ : ∃V,V=W0.drew:=⟨_,rfl⟩;rw [← hV] at HB ⊢;clear hV
  repeat' (first
   | ((first | (refine Z1s ?_ (Or.inl ⟨by rfl,fun w9=>?_⟩) ?_;rotate_left 1;go_simp;with_reducible rfl) | (refine Z2c ?_ (HB.out) (Or.inl ⟨by rfl,fun w9 hw9=>?_⟩) ?_;rotate_left 1;obtain ⟨hc9,hf9⟩:=Z0q hw9;go_simp;with_reducible rfl) | refine Z1s undef (Or.inr ⟨by rfl,rfl⟩) ?_ | refine Z2c undef (HB.out) (Or.inr ⟨by rfl,rfl⟩) ?_);go_frame)
   | ((first | refine Z1v (fun K9 hK9=>?_) | refine Z1a rfl (fun K9 hK9=>?_));refine Z0n rfl 224 _ _ rfl g 0 #[.int .i64 0,.string ⟨#[]⟩,.int .i64 0,.int .i64 0] rfl rfl (show _ from HK.out.there) (by kernel_rfl) (by kernel_rfl) ?_;show K9 _ (V.setCells g 0 [.int .i64 0,.string ⟨#[]⟩,.int .i64 0,.int .i64 0]);have HR:=hid (Zo4 V g 0 [.int .i64 0,.string ⟨#[]⟩,.int .i64 0,.int .i64 0] (show _ from HK.out.there));have HB:=hid (Below.setCells' [.int .i64 0,.string ⟨#[]⟩,.int .i64 0,.int .i64 0] 0 HB.out HG.out);obtain ⟨V,hV⟩ : ∃V9,V9=V.setCells g 0 [.int .i64 0,.string ⟨#[]⟩,.int .i64 0,.int .i64 0]:=⟨_,rfl⟩;rw [← hV] at HR HB;rw [← hV];have HL:=hid (show g<V.heap.size from Zoa _ _ (HR.out 0 _ rfl));clear hV;(first | refine hK9 _ _ (HB.out) ?_ | refine hK9 _ _ (fun _=>HB.out) ?_);clear hK9 K9;(try go_frame);try simp only [Z05,Zo2])
   | ((first | refine Z1v (fun K9 hK9=>?_) | refine Z1a rfl (fun K9 hK9=>?_));go_simp;(first
     | (refine (Z9w k _).mono ?_;rintro e V ⟨rfl,hb⟩;have HB:=hid (HB.out.trans (hb.mono HB.out.size));(try have HK:=hid (HK.out.new_ hb));clear hb)
     | (refine (Z9b bp cc sn A m (zPgS k) _ (HS0.out.new_ (HB.out)) HO.out (by omega) HH.out).mono ?_;rintro e V ⟨rfl,hb⟩;have HB:=hid (HB.out.trans (hb.mono HB.out.size));(try have HK:=hid (HK.out.new_ hb));clear hb)
     | (obtain ⟨g,hg⟩ : ∃g,g=V.heap.size:=⟨_,rfl⟩;have hk:=Blk.new V 224 #[.int .i64 0,.string ⟨#[]⟩,.int .i64 0,.int .i64 0];have HG:=hid (show W0.heap.size≤g by rw [hg];exact HB.out.size);have HB:=hid (HB.out.alloc HB.out.size (.cells #[.int .i64 0,.string ⟨#[]⟩,.int .i64 0,.int .i64 0] 224));obtain ⟨V,hV⟩ : ∃V9,V9=V.alloc (.cells #[.int .i64 0,.string ⟨#[]⟩,.int .i64 0,.int .i64 0] 224):=⟨_,rfl⟩;rw [← hV,← hg] at hk;rw [← hV] at HB;have HK:=hid hk;rw [← hV,← hg];clear hV hk hg) | fail);(first | refine hK9 _ _ (HB.out) ?_ | refine hK9 _ _ (fun _=>HB.out) ?_);clear hK9 K9;(try go_frame);try simp only [Z05,Zo2])
   | (refine Z0u ⟨?_,?_⟩) | fail)
  all_goals
   refine Z0u ?_;simp only [Z00];refine hKK _ _ ?_;clear hKK KK;(go_wp2_with fail);go_meet
   case rel=>exact ⟨rfl,HB.out⟩
 case rest=>
  obtain ⟨rfl,hB⟩:=hcut;have r0:=(HM0.out.new_ hB).c1;have hX:=HX0.out.new_ hB;have hml2:=(HM0.out.new_ hB).lt;have hxl2:=hX.lt;have HB:=hid hB;have HS2:=hid (HS0.out.new_ hB);clear s1 k0 k1 k2;obtain ⟨k0,k1,k2⟩:=hX.c3;clear hB hX;(go_wp2_with fail);refine Z06 (fun w9=>Below wc.heap.size wc w9) [(0,0),(1,0),(2,0),(3,1),(4,1),(5,0),(6,0),(7,2),(8,0)] (by kernel_rfl) (by kernel_rfl) (fun KK hKK=>?_);simp only [Z05,Zo9,Zo2,Zo7,Zo5,Zo6,Zoc];(repeat ((first | (refine Z0a ?_ (Or.inl ⟨by rfl,fun w9=>?_⟩) ?_;rotate_left 1;go_simp;with_reducible rfl) | (refine Z09 ?_ (((Znz _ _).drew)) (Or.inl ⟨by rfl,fun w9 hw9=>?_⟩) ?_;rotate_left 1;obtain ⟨hc9,hf9⟩:=Z0q hw9;go_simp;with_reducible rfl) | refine Z0a undef (Or.inr ⟨by rfl,rfl⟩) ?_ | refine Z09 undef (((Znz _ _).drew)) (Or.inr ⟨by rfl,rfl⟩) ?_);go_frame));refine Z1n (by kernel_rfl) (fun K9 hK9=>?_);go_simp;refine (Zih bp cc sn A m ⟨k,xv⟩ _ (HS2.out.new_ ((Znz _ _).drew)) HO.out (by omega)).mono ?_;rintro e w5 ⟨rfl,hch⟩;have HP:=hid hch;clear hch;refine hK9 _ _ ?_;clear hK9 K9;(repeat ((first | (refine Z0a ?_ (Or.inl ⟨by rfl,fun w9=>?_⟩) ?_;rotate_left 1;go_simp;with_reducible rfl) | (refine Z09 ?_ (((Znz _ _).drew)) (Or.inl ⟨by rfl,fun w9 hw9=>?_⟩) ?_;rotate_left 1;obtain ⟨hc9,hf9⟩:=Z0q hw9;go_simp;with_reducible rfl) | refine Z0a undef (Or.inr ⟨by rfl,rfl⟩) ?_ | refine Z09 undef (((Znz _ _).drew)) (Or.inr ⟨by rfl,rfl⟩) ?_);go_frame));refine Z12 ?_;simp only [Z00];refine hKK _ _ ?_;clear hKK KK;(go_wp2_with fail);go_ret;have hBB:Below w.heap.size w wc:=HB0.out.trans (HB.out.mono (by omega));obtain ⟨sn',A',c',g1,g2,g3⟩:=HP.out;refine ⟨by rw [HH0.out]<;>rfl,sn',A',c',g1,(Fr.of_new hBB).trans ((Fr.refl _ wc).drew.trans g2),Z1p.of_PgS hBB g3⟩
end
section
open Go.RowKit Go.Shelf
attribute [local go_sem] Oper.semAt_some
theorem Zc4 : ∀{ns:List Sym},ns.Nodup→∀{i:Nat} {s:Sym},ns[i]? = some s→plV ns s=i+1
 | [],_,i,s,h=>by simp at h
 | x :: l,hn,0,s,h=>by rw [plV,if_pos (by simpa using h)]
 | x :: l,hn,i+1,s,h=>by
   obtain ⟨h1,h2⟩:=List.nodup_cons.1 hn;(have e2:l[i]? = some s:=by simpa using h);have hne:x≠s:=fun e=>h1 (by rw [e];exact List.mem_of_getElem? e2);have ih:=Zc4 h2 e2;rw [plV,if_neg hne,ih,if_neg (by omega)]
structure MapN (mm:List PgS) (ns:List Sym):Prop where
 srt:Srt Z10 mm
 len:mm.length=ns.length
 nodup:ns.Nodup
 mem : ∀y,y∈mm↔∃i:Nat,ns[i]? = some y.kk∧y.v=(i:Int)+1
theorem MapN.nil:MapN [] []:=⟨Srt.nil,rfl,.nil,fun y=>by simp⟩
theorem MapN.has {mm:List PgS} {ns:List Sym} (h:MapN mm ns) (s:Sym) (z:Int):has Z10 mm ⟨s,z⟩=decide (s∈ns):=by
 by_cases hv:s∈ns
 · rw [Zoe hv,Z4y]
   obtain ⟨i,hi,e⟩:=List.getElem_of_mem hv;exact ⟨⟨s,(i:Int)+1⟩,(h.mem _).2 ⟨i,by rw [Zo8 hi,e],rfl⟩,Z8c.2 rfl⟩
 · rw [Zo1 hv,Z35]
   intro y hy e;obtain ⟨i,hi,_⟩:=(h.mem y).1 hy;have e3:y.kk=s:=Z8c.1 e;exact hv (by rw [← e3];exact List.mem_of_getElem? hi)
theorem MapN.get {mm:List PgS} {ns:List Sym} (h:MapN mm ns) {s:Sym} {z:Int} (hv:s∈ns) : ∃y,mm[rank Z10 mm ⟨s,z⟩]? = some y∧y.v=(plV ns s:Int):=by
 (have hh:Go.Proofs.YtldndkngpdfpfaaGreat.has Z10 mm ⟨s,z⟩=true:=by rw [h.has,Zoe hv]);obtain ⟨_,_,hk,e⟩:=Zhe Z4b h.srt hh;refine ⟨_,Zo8 hk,?_⟩;obtain ⟨i,hi,e2⟩:=(h.mem _).1 (Zoy hk);have e3:_=s:=Z8c.1 e;rw [e3] at hi;rw [e2,Zc4 h.nodup hi];omega
theorem MapN.put {mm:List PgS} {ns:List Sym} (h:MapN mm ns) {s:Sym} (hv : ¬s∈ns):MapN (put Z10 mm ⟨s,(ns.length:Int)+1⟩) (ns ++ [s]):=by
 (have hh:Go.Proofs.YtldndkngpdfpfaaGreat.has Z10 mm ⟨s,(ns.length:Int)+1⟩=false:=by rw [h.has,Zo1 hv]);refine ⟨h.srt.put Z4b _,by rw [Z2e Z4b h.srt hh,h.len];simp,List.nodup_append.2 ⟨h.nodup,by simp,fun a ha b hb=>by rw [Zpb.1 hb];exact fun e=>hv (e ▸ ha)⟩,fun y=>?_⟩
 have hm:y∈Go.Proofs.YtldndkngpdfpfaaGreat.put Z10 mm ⟨s,(ns.length:Int)+1⟩↔y=⟨s,(ns.length:Int)+1⟩∨y∈mm:=by
  rw [Z66 Z4b h.srt hh,Zp7,Zoj];constructor
  · rintro (g | g | g)
    · exact .inr (List.mem_of_mem_take g)
    · exact .inl g
    · exact .inr (List.mem_of_mem_drop g)
  · rintro (g | g)
    · exact .inr (.inl g)
    · rw [← List.take_append_drop (rank Z10 mm ⟨s,(ns.length:Int)+1⟩) mm,Zp7] at g
      exact g.elim .inl (fun g=>.inr (.inr g))
 rw [hm,h.mem y];constructor
 · rintro (e | ⟨i,hi,e⟩)
   · subst e
     exact ⟨ns.length,by simp,rfl⟩
   · have hl:i<ns.length:=(Zoh.1 hi).1
     exact ⟨i,by rw [Zot hl];exact hi,e⟩
 · rintro ⟨i,hi,e⟩
   by_cases hl:i<ns.length
   · exact .inr ⟨i,by rwa [Zot hl] at hi,e⟩
   · have hi2:i=ns.length:=by
      have:=(Zoh.1 hi).1;simp at this;omega
     subst hi2;rw [Zp8 (Zo0 _)] at hi;simp at hi;obtain ⟨yk,yv⟩:=y;simp only at hi e;subst hi;subst e;exact .inl rfl
theorem Z2s {w:World} {b1 b2:Nat} {e1 e2:TypeId} {s1 s2 n m k:Nat} {v u:Value} {xs ys:List Value} (h1:w.ownsRow b1 e1 s1 v n xs) (h2:w.ownsRow b2 e2 s2 u m ys) (hne:e1≠e2) (hk:v.ownBlock=some k):u.ownBlock≠some k:=by
 rcases h2.2 with ⟨rfl,_⟩ | ⟨g,cap,cur,rfl,_,hg,_⟩
 · simp [Value.ownBlock]
 · intro e
   (have:g=k:=by simpa [Value.ownBlock] using e);subst this;exact Z01 h1 (show Blk w g e2 cur from hg) hne hk
structure NM (D:Nat→Prop) (w:World) (nb:Nat) (ns:List Sym) (bm bp:Nat) (sn:Bool) (A:Option Addr) (cc:Nat) (mm:List PgS) (L:Option Addr) (cl:Nat):Prop where
 blk:Blk w nb 148 #[.pointer (some ⟨bm,0,none⟩),.slice L ns.length cl]
 map:Blk w bm 226 #[.pointer (some ⟨bp,0,none⟩)]
 set:Z2n w bp sn A cc mm
 ok:MapN mm ns
 row:w.ownsRow 0 23 3 (.slice L ns.length cl) ns.length (ns.flatMap Sym.cells)
 dn:D nb
 dm:D bm
 dp:D bp
 da:AIn A D
 dl:AIn L D
 lt : ∀k,D k→k<w.heap.size
def Nm (D:Nat→Prop) (w:World) (nb:Nat) (ns:List Sym):Prop:=∃bm bp sn A cc mm L cl,NM D w nb ns bm bp sn A cc mm L cl
section
variable {D:Nat→Prop} {w w':World} {nb:Nat} {ns:List Sym} {bm bp:Nat} {sn:Bool} {A:Option Addr} {cc:Nat} {mm:List PgS} {L:Option Addr} {cl:Nat}
theorem NM.new_ (h:NM D w nb ns bm bp sn A cc mm L cl) (hb:Below w.heap.size w w'):NM D w' nb ns bm bp sn A cc mm L cl:=
 ⟨h.blk.new_ hb,h.map.new_ hb,h.set.new_ hb,h.ok,Z02 h.row hb,h.dn,h.dm,h.dp,h.da,h.dl,fun k hk=>Zo3 (h.lt k hk) hb.size⟩
theorem Nm.new_ (h:Nm D w nb ns) (hb:Below w.heap.size w w'):Nm D w' nb ns:=by
 obtain ⟨bm,bp,sn,A,cc,mm,L,cl,h⟩:=h;exact ⟨bm,bp,sn,A,cc,mm,L,cl,h.new_ hb⟩
theorem NM.fr {M:Nat→Prop} (h:NM D w nb ns bm bp sn A cc mm L cl) (hF:Fr M w w') (hM : ∀k,D k→¬M k):NM D w' nb ns bm bp sn A cc mm L cl:=by
 refine ⟨h.blk.fr hF (hM _ h.dn),h.map.fr hF (hM _ h.dm),h.set.fr hF (hM _ h.dp) (h.da.mono hM),h.ok,⟨h.row.1,h.row.2.imp id fun ⟨g,cap,cur,hv,h0,hg,hr⟩=>⟨g,cap,cur,hv,h0,?_,hr⟩⟩,h.dn,h.dm,h.dp,h.da,h.dl,fun k hk=>Zo3 (h.lt k hk) hF.size⟩;injection hv with hv;exact Blk.fr (t:=23) hg hF (hM _ (h.dl ⟨g,0,none⟩ hv))
theorem Nm.fr {M:Nat→Prop} (h:Nm D w nb ns) (hF:Fr M w w') (hM : ∀k,D k→¬M k):Nm D w' nb ns:=by
 obtain ⟨bm,bp,sn,A,cc,mm,L,cl,h⟩:=h;exact ⟨bm,bp,sn,A,cc,mm,L,cl,h.fr hF hM⟩
theorem Nm.lt (h:Nm D w nb ns) : ∀k,D k→k<w.heap.size:=by
 obtain ⟨bm,bp,sn,A,cc,mm,L,cl,h⟩:=h;exact h.lt
end
theorem Zkl {mm:List PgS} {ns:List Sym} {bm bp cc:Nat} {sn:Bool} {A:Option Addr} (s:Sym) (w:World) (h1:Blk w bm 226 #[.pointer (some ⟨bp,0,none⟩)]) (h2:Z2n w bp sn A cc mm) (h3:MapN mm ns) (hl:ns.length≤1000000) :
 Calls Tryz.prog 103 #[.pointer (some ⟨bm,0,none⟩),.agg #[.int .i64 s.kind,.string s.text,.int .i64 s.n]] w fun e w'=>e = .returned (.tuple #[.int .i64 (plV ns s:Int),.bool (decide (s∈ns))])∧Below w.heap.size w w':=by
 (have hlm:(mm.length:Int)≤1000000:=by rw [h3.len];omega);by_cases hv:s∈ns
 · obtain ⟨y,g1,g2⟩:=h3.get (z:=0) hv
   have:=Zaz bm bp cc sn A mm s y w h1 h2 h3.srt hlm (by rw [h3.has,Zoe hv]) g1;rw [g2] at this;rw [Zoe hv];exact this
 · have:=Zb1 bm bp cc sn A mm s w h1 h2 h3.srt hlm (by rw [h3.has,Zo1 hv])
   rw [Zo1 hv,Z6v.2 hv];exact this
theorem Z6w {D:Nat→Prop} {nb:Nat} {ns:List Sym} (s:Sym) (w:World) (h:Nm D w nb ns) (hl:ns.length≤100000):Calls Tryz.prog 62 #[.pointer (some ⟨nb,0,none⟩),.agg #[.int .i64 s.kind,.string s.text,.int .i64 s.n]] w fun e w'=>e = .returned (.int .i64 (plV ns s:Int))∧Below w.heap.size w w':=by
 obtain ⟨bm,bp,sn,A,cc,mm,L,cl,h⟩:=h;have HG:=hid (show ∀W,Below w.heap.size w W→_ from fun W hW=>Zkl s W (h.map.new_ hW) (h.set.new_ hW) h.ok (by omega));have m0:=(h.blk.cell 0).trans rfl;have mz:=h.blk.lt;obtain ⟨r,hr⟩ : ∃r,r=(plV ns s:Int):=⟨_,rfl⟩;obtain ⟨b,hb0⟩ : ∃b,b=decide (s∈ns):=⟨_,rfl⟩;rw [← hr,← hb0] at HG;rw [← hr];clear h hr hb0 hl;go_enter Tryz.func62,Tryz.ntmps62;(go_upto_region 1 with fail);obtain ⟨w1,hw1⟩ : ∃w1,w1=w.alloc (.cells #[.int .i64 s.kind,.string s.text,.int .i64 s.n] 23):=⟨_,rfl⟩;have HB:=hid (show Below w.heap.size w w1 by rw [hw1];exact (Znz _ _).alloc (Zo0 _) _);(have hk:=show Blk w1 w.heap.size 23 #[.int .i64 s.kind,.string s.text,.int .i64 s.n] by rw [hw1];exact Blk.new _ _ _);rw [← hw1];clear hw1;obtain ⟨k0,k1,k2⟩:=hk.c3;have kz:=hk.lt;have m1:=(HB.out.cell (p:=⟨nb,0,none⟩) mz).trans m0;have mz1:=Zo3 mz HB.out.size;clear hk m0;refine Z06 (fun w9=>Below w1.heap.size w1 w9) [(0,0),(1,0),(2,0),(3,1),(4,1),(5,2),(6,0),(7,0),(8,0),(9,0),(10,0)] (by kernel_rfl) (by kernel_rfl) (fun KK hKK=>?_);simp only [Z05,Zo9,Zo2,Zo7,Zo5,Zo6,Zoc];(repeat ((first | (refine Z0a ?_ (Or.inl ⟨by rfl,fun w9=>?_⟩) ?_;rotate_left 1;go_simp;with_reducible rfl) | (refine Z09 ?_ (((Znz _ _).drew)) (Or.inl ⟨by rfl,fun w9 hw9=>?_⟩) ?_;rotate_left 1;obtain ⟨hc9,hf9⟩:=Z0q hw9;go_simp;with_reducible rfl) | refine Z0a undef (Or.inr ⟨by rfl,rfl⟩) ?_ | refine Z09 undef (((Znz _ _).drew)) (Or.inr ⟨by rfl,rfl⟩) ?_);go_frame));refine Z1n (by kernel_rfl) (fun K9 hK9=>?_);go_simp;refine (HG.out _ (HB.out.trans (((Znz w1.heap.size w1).drew).mono HB.out.size))).mono ?_;rintro e w31 ⟨rfl,hb31⟩;have HB31:=hid (((Znz w1.heap.size w1).drew).trans (hb31.mono (by simp)));clear hb31;refine hK9 _ _ ?_;clear hK9 K9;(repeat ((first | (refine Z0a ?_ (Or.inl ⟨by rfl,fun w9=>?_⟩) ?_;rotate_left 1;go_simp;with_reducible rfl) | (refine Z09 ?_ (((Znz _ _).drew)) (Or.inl ⟨by rfl,fun w9 hw9=>?_⟩) ?_;rotate_left 1;obtain ⟨hc9,hf9⟩:=Z0q hw9;go_simp;with_reducible rfl) | refine Z0a undef (Or.inr ⟨by rfl,rfl⟩) ?_ | refine Z09 undef (((Znz _ _).drew)) (Or.inr ⟨by rfl,rfl⟩) ?_);go_frame));refine Z12 ?_;simp only [Z00];refine hKK _ _ ?_;clear hKK KK;clear k0 k1 k2 m1;(go_wp2_with fail);go_ret;exact ⟨rfl,HB.out.trans (HB31.out.mono HB.out.size)⟩
end
section
open Go.RowKit
theorem Zcv {l:List Sym} {x y:Sym}:y∈put Z08 l x↔y∈l∨y=x:=by
 unfold put
 split
 · rename_i h
   obtain ⟨z,hz,e⟩:=Z4y.1 h;have:=Z3x.1 e;subst this;constructor
   · exact .inl
   · rintro (h | rfl)
     · exact h
     · exact hz
 · rename_i h
   have hn:=Z35.1 (by simpa using h);simp only [Zp7,Zoj,Z4p,Z4o];constructor
   · rintro (h | h | h)
     · exact .inl h.1
     · exact .inr h
     · exact .inl h.1
   · rintro (h | h)
     · have:=hn y h
       rcases Int.lt_trichotomy (Z08 y x) 0 with h1 | h1 | h1
       · exact .inl ⟨h,h1⟩
       · exact absurd h1 this
       · exact .inr (.inr ⟨h,h1⟩)
     · exact .inr (.inl h)
theorem Z7t : ∀(xs:List Sym) {l:List Sym} {y:Sym},y∈puts Z08 l xs↔y∈l∨y∈xs
 | [],_,_=>by simp [puts]
 | x :: xs,l,y=>by
   rw [show puts Z08 l (x :: xs)=puts Z08 (put Z08 l x) xs from rfl,Z7t xs,Zcv];simp [or_assoc]
theorem Zm2 {l:List Sym} {x:Sym}:has Z08 l x=true↔x∈l:=by
 rw [Z4y];constructor
 · rintro ⟨z,hz,e⟩
   rw [← Z3x.1 e];exact hz
 · exact fun h=>⟨x,h,Z3x.2 rfl⟩
end
end Go.Proofs.YtldndkngpdfpfaaGreat
