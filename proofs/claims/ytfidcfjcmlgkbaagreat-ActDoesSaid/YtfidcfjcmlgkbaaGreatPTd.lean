/-
  Texts put together: PutSym, MiscSym, NewSym, IterBase, Seq, IterSym, ListSym, WorkSym, KitSyms, Act1.
-/
import Derived.Test.YtfidcfjcmlgkbaaGreatPTc
import Derived.Test.YtfidcfjcmlgkbaaGreatRows
namespace Go.Proofs.YtfidcfjcmlgkbaaGreat
open Lib (hid)
set_option maxRecDepth 100000
set_option maxHeartbeats 32000000
section
open Go.RowKit
def Z70 (w:World) (b:Nat) (sn:Bool) (A:Option Addr) (l:List Sym) (x:Sym) (e:Ending) (w':World):Prop:=
 e = .returned (.bool (!has Z01 l x))∧∃sn' A' c',Z2b w' b sn' A' c' (put Z01 l x)∧Fr (Z1g b sn A) w w'∧Z5u w sn A sn' A'
theorem Zab (b c:Nat) (sn:Bool) (A:Option Addr) (l:List Sym) (x:Sym) (w:World) (hS:Z2b w b sn A c l) (hs:Srt Z01 l) (hl:(l.length:Int)≤100000000) (hh:has Z01 l x=true) :
 Calls Tryz.prog 88 #[.pointer (some ⟨b,0,none⟩),.agg #[.int .i64 x.kind,.string x.text,.int .i64 x.n]] w (Z70 w b sn A l x):=by
 have HS:=hid hS;have HO:=hid hs;clear hS hs;go_enter Tryz.func88,Tryz.ntmps88;(go_wp2_with fail);refine (Z9s b c sn A l x _ (HS.out.new_ ((Zks _ _).alloc (Zkt _) _)) HO.out (by omega)).mono ?_;rintro e w1 ⟨rfl,hb1⟩;(go_wp2_with fail);go_ret;refine ⟨by rw [hh];rfl,sn,A,c,?_,Fr.of_new (((Zks _ _).alloc (Zkt _) _).trans (hb1.mono (by simp))),.inl ⟨rfl,rfl⟩⟩;rw [Z59 hh];exact HS.out.new_ (((Zks _ _).alloc (Zkt _) _).trans (hb1.mono (by simp)))
theorem Zct (b c:Nat) (sn:Bool) (A:Option Addr) (l:List Sym) (x:Sym) (w:World) (hS:Z2b w b sn A c l) (hs:Srt Z01 l) (hl:(l.length:Int)≤100000000) (hh:has Z01 l x=false) :
 Calls Tryz.prog 88 #[.pointer (some ⟨b,0,none⟩),.agg #[.int .i64 x.kind,.string x.text,.int .i64 x.n]] w (Z70 w b sn A l x):=by
 obtain ⟨i0,hi,hz0,hz1,hz2⟩:=info_parts Z6f;have HS:=hid hS;have HO:=hid hs;have hb:=hS.lt;clear hS hs;have hrk:=Zac (cmp:=Z01) l x;go_enter Tryz.func88,Tryz.ntmps88;(go_wp2_with fail);have hSa:=HS.out.new_ ((Zks w.heap.size w).alloc (Zkt _) (.cells #[.int .i64 x.kind,.string x.text,.int .i64 x.n] 38));have HSa:=hid hSa;clear hSa;refine (Z9s b c sn A l x _ HSa.out HO.out (by omega)).mono ?_;rintro e w1 ⟨rfl,hb1⟩;have HS1:=hid (HSa.out.new_ hb1);(have hsz1:w.heap.size+1≤w1.heap.size:=by have:=hb1.size;(try simp at this);omega);have y0:=(hb1.cell (p:=⟨w.heap.size,0,none⟩) (by simp)).trans ((Blk.new w 38 #[.int .i64 x.kind,.string x.text,.int .i64 x.n]).cell 0);have y1:=(hb1.cell (p:=⟨w.heap.size,1,none⟩) (by simp)).trans ((Blk.new w 38 #[.int .i64 x.kind,.string x.text,.int .i64 x.n]).cell 1);have y2:=(hb1.cell (p:=⟨w.heap.size,2,none⟩) (by simp)).trans ((Blk.new w 38 #[.int .i64 x.kind,.string x.text,.int .i64 x.n]).cell 2);have HB1:=hid hb1;clear hb1;(go_wp2_with fail);refine (Zjl b c sn A l _ HS1.out (by omega)).mono ?_;rintro e w2 ⟨rfl,A1,c1,hS2,hF2,hM2⟩;have hsz2:w1.heap.size≤w2.heap.size:=hF2.size;have x0:w2.cell? ⟨w.heap.size,0,none⟩=some (.int .i64 x.kind):=(hF2.cell (p:=⟨w.heap.size,0,none⟩) (by dsimp only;omega) (by dsimp only;omega)).trans y0;have x1:w2.cell? ⟨w.heap.size,1,none⟩=some (.string x.text):=(hF2.cell (p:=⟨w.heap.size,1,none⟩) (by dsimp only;omega) (by dsimp only;omega)).trans y1;have x2:w2.cell? ⟨w.heap.size,2,none⟩=some (.int .i64 x.n):=(hF2.cell (p:=⟨w.heap.size,2,none⟩) (by dsimp only;omega) (by dsimp only;omega)).trans y2;have s0:=hS2.cell0;have f0:=hS2.blk.frozen 0;(have hb2:b<w2.heap.size:=by omega);(have hk2:w.heap.size<w2.heap.size:=by omega);have HS2:=hid hS2;have HF2:=hid hF2;have HM2:=hid hM2;clear hS2 hF2 hM2 y0 y1 y2;(go_wp2_with fail);refine Z08 (fun w9=>Below w2.heap.size w2 w9) [(0,0),(1,0),(2,0),(3,0),(4,1),(5,1),(6,2),(7,2),(8,0),(9,0),(10,2)] (by kernel_rfl) (by kernel_rfl) (fun KK hKK=>?_);simp only [Z0h,Zl2,Zl0,Zkz,Zkv,Zky,Zl4];(repeat ((first | (refine Z0b ?_ (Or.inl ⟨by rfl,fun w9=>?_⟩) ?_;rotate_left 1;go_simp;with_reducible rfl) | (refine Z0a ?_ (((Zks _ _).drew)) (Or.inl ⟨by rfl,fun w9 hw9=>?_⟩) ?_;rotate_left 1;obtain ⟨hc9,hf9⟩:=Z0p hw9;go_simp;with_reducible rfl) | refine Z0b undef (Or.inr ⟨by rfl,rfl⟩) ?_ | refine Z0a undef (((Zks _ _).drew)) (Or.inr ⟨by rfl,rfl⟩) ?_);go_frame));refine Z27 (fun K9 hK9=>?_);go_simp
 refine hK9 _ _ (((Zks _ _).drew).alloc (Zkt _) _) ?_;clear hK9 K9;refine Z2m (by kernel_rfl) (fun K9 hK9=>?_)
 refine Z1a _ (by rfl) _ _ _ (by rfl) 38 i0 _ 3 32 Tryz.underlying27 hi hz0 hz1 hz2 rfl (by omega) _ l.length (l.flatMap Sym.cells) (by rfl) (Z00 HS2.out.row (((Zks _ _).drew).alloc (Zkt _) _)) (some ⟨w2.heap.size,0,none⟩) 1 1 (Sym.cells x) (by rfl) (by rfl)
  (fun _=>⟨_,rfl,Zlt (heap_alloc_new _ _)⟩) (Sym.one x) (by unfold maxLen;omega) (by omega) ?_
 intro v2 w3 hown hgr hnil hat;refine hK9 _ _ ?_;clear hK9 K9
 obtain ⟨g,c2,rfl⟩ : ∃g c2,v2 = .slice (some ⟨g,0,none⟩) (l.length+1) c2:=by
  rcases Z0i hown with ⟨_,h0,_⟩ | ⟨g,c2,h,_⟩
  · omega
  · exact ⟨g,c2,h⟩
 have HXN:(Value.slice A1 l.length c1).ownBlock≠some w.heap.size:=by
  intro h;rcases HM2.out with ⟨hsn,hA⟩ | ⟨_,g2,hg2,hA⟩
  · rcases A1 with _ | a1
    · cases h
    · have h1:=HS.out.row_lt _ hA.symm
      simp only [Value.ownBlock,Option.some.injEq] at h;omega
  · subst hA
    simp only [Value.ownBlock,Option.some.injEq] at h;omega
 have HB3':=(HS2.out.blk.drew.alloc (.cells #[.int .i64 x.kind,.string x.text,.int .i64 x.n] 38)).grown hgr (Z0d HS2.out.row HS2.out.blk (by decide));have c0:=(HB3'.cell 0).trans rfl;have z0:=HB3'.frozen 0;have HB3:=hid HB3';have HOWN:=hid hown;have HGR:=hid hgr;clear HB3' hown hgr;(repeat ((first | (refine Z0b ?_ (Or.inl ⟨by rfl,fun w9=>?_⟩) ?_;rotate_left 1;go_simp;with_reducible rfl) | (refine Z0a ?_ (((Zks _ _).drew).alloc (Zkt _) _) (Or.inl ⟨by rfl,fun w9 hw9=>?_⟩) ?_;rotate_left 1;obtain ⟨hc9,hf9⟩:=Z0p hw9;go_simp;with_reducible rfl) | refine Z0b undef (Or.inr ⟨by rfl,rfl⟩) ?_ | refine Z0a undef (((Zks _ _).drew).alloc (Zkt _) _) (Or.inr ⟨by rfl,rfl⟩) ?_);go_frame));refine Z2m (by kernel_rfl) (fun K9 hK9=>?_);go_simp;refine hK9 _ _ ?_;clear hK9 K9;refine Z0u ?_;simp only [Z02];refine hKK _ _ ?_;clear hKK KK;have hlg:((l.length+1:Nat):Int)=(l.length:Int)+1:=by omega
 have hG:(Z1g b sn A g∨w.heap.size≤g)∧Z5u w sn A false (some ⟨g,0,none⟩)∧g≠w.heap.size∧g≠b:=by
  rcases hat with h | h
  · rcases A1 with _ | a1
    · simp [Value.ownBlock] at h
    · obtain ⟨A',c',hv,_,_,hz⟩:=Z1y HS2.out.row
      injection hv with hv _ _;obtain ⟨g',rfl⟩:=hz a1 hv.symm;(have hgg:g'=g:=by simpa [Value.ownBlock] using h.symm);subst hgg;have hne:g'≠b:=HS2.out.row_ne (by decide) _ rfl;rcases HM2.out with ⟨hsn,hA⟩ | ⟨_,g2,hg2,hA⟩
      · have h1:=HS.out.row_lt _ hA.symm
        exact ⟨.inl (.inr ⟨hsn.symm,_,hA.symm,rfl⟩),.inl ⟨hsn,hA⟩,by dsimp only at h1;omega,hne⟩
      · injection hA with hA
        injection hA with hA;subst hA;exact ⟨.inr (by omega),.inr ⟨rfl,_,by omega,rfl⟩,by omega,hne⟩
  · have hgg:g=w2.heap.size+1:=by simpa [Value.ownBlock] using h
    subst hgg;exact ⟨.inr (by omega),.inr ⟨rfl,_,by omega,rfl⟩,by omega,by omega⟩
 obtain ⟨hgM,hgMv,hgk1,hgb⟩:=hG;obtain ⟨w4,hw4⟩ : ∃w4,w4=w3.setCell ⟨b,0,none⟩ (.slice (some ⟨g,0,none⟩) (l.length+1) c2):=⟨_,rfl⟩;have hB4:Blk w4 b 203 #[.slice (some ⟨g,0,none⟩) (l.length+1) c2,.bool false]:=by rw [hw4];exact HB3.out.set_ 0 _
 have hR4:w4.ownsRow 0 38 3 (.slice (some ⟨g,0,none⟩) (l.length+1) c2) (l.length+1) ((Z1f l x l.length).flatMap Sym.cells):=by
  rw [hw4,Z4u];refine ownsRow_setCell_other (a:=⟨b,0,none⟩) ?_ (by simpa [Value.ownBlock] using hgb) _;rw [Zl3,List.flatMap_singleton];exact HOWN.out
 have hF4:Fr (Z1g b sn A) w w4:=by
  rw [hw4];have h1:Fr (Z1g b sn A) w w1:=Fr.of_new (((Zks _ _).alloc (Zkt _) _).trans (HB1.out.mono (by simp)));have h2:Fr (Z1g b sn A) w w2:=h1.trans (HF2.out.mono (fun k _ h=>.inl h));refine ((h2.drew.alloc _).grown HGR.out (fun k hk=>?_)).setCell (p:=⟨b,0,none⟩) (.inl (.inl rfl)) _;rcases A1 with _ | a1
  · cases hk
  · simp only [Value.ownBlock,Option.some.injEq] at hk
    subst hk;rcases HM2.out with ⟨hsn,hA⟩ | ⟨_,g',hg',hA⟩
    · left;right;exact ⟨hsn.symm,a1,hA.symm,rfl⟩
    · injection hA with hA
      subst hA;right;dsimp only;omega
 have z0:w4.cell? ⟨w.heap.size,0,none⟩=some (.int .i64 x.kind):=by
  rw [hw4,World.cell?_setCell_other _ _ _ _ (by intro h;injection h;omega)];refine HGR.out.cell ((World.cell?_alloc_lt w2.drew _ ⟨w.heap.size,0,none⟩ hk2).trans x0) ?_;intro h;exact HXN (by simpa using h.symm)
 have z1:w4.cell? ⟨w.heap.size,1,none⟩=some (.string x.text):=by
  rw [hw4,World.cell?_setCell_other _ _ _ _ (by intro h;injection h;omega)];refine HGR.out.cell ((World.cell?_alloc_lt w2.drew _ ⟨w.heap.size,1,none⟩ hk2).trans x1) ?_;intro h;exact HXN (by simpa using h.symm)
 have z2:w4.cell? ⟨w.heap.size,2,none⟩=some (.int .i64 x.n):=by
  rw [hw4,World.cell?_setCell_other _ _ _ _ (by intro h;injection h;omega)];refine HGR.out.cell ((World.cell?_alloc_lt w2.drew _ ⟨w.heap.size,2,none⟩ hk2).trans x2) ?_;intro h;exact HXN (by simpa using h.symm)
 (have hk4:w.heap.size<w4.heap.size:=by rw [hw4];have:=HGR.out.size;simp at this ⊢;omega);rw [← hw4];have HgM:=hid hgM;have HgMv:=hid hgMv;have HB4:=hid hB4;have HR4:=hid hR4;have HF4:=hid hF4;have s4:=hB4.cell 0;have s4':w4.cell? ⟨b,0,none⟩=some (.slice (some ⟨g,0,none⟩) (l.length+1) c2):=s4;clear s4 hw4 hB4 hR4 hF4 hat hgM hgMv hnil x0 x1 x2 s0 f0;go_wp2_with fail
 go_loopw [7] (fun s wr=>∃i:Nat,s = .int .i64 i∧rank Z01 l x≤i∧i≤l.length∧wr.ownsRow 0 38 3 (.slice (some ⟨g,0,none⟩) (l.length+1) c2) (l.length+1) ((Z1f l x i).flatMap Sym.cells)∧Fr (· = g) w4 wr) (fun s wr=>(intOf s).toNat)
 case atStart=>exact ⟨l.length,by go_num,hrk,Zkt _,HR4.out,Fr.refl _ _⟩
 case round=>
  obtain ⟨i,rfl,hi1,hi2,hown,hfr⟩:=hrel;have hgw:g<wr.heap.size:=(hown.lt g rfl).2;have r0:wr.cell? ⟨b,0,none⟩=some (.slice (some ⟨g,0,none⟩) (l.length+1) c2):=(hfr.cell (p:=⟨b,0,none⟩) HB4.out.lt (fun h=>hgb h.symm)).trans s4';have fz : ∀o,wr.frozen? ⟨g,o,none⟩=false:=fun o=>hown.frozenAt o;have HOW:=hid hown;have HFR:=hid hfr;clear hown hfr;by_cases hlt:rank Z01 l x<i
  · obtain ⟨j,rfl⟩ : ∃j,i=j+1:=⟨i - 1,by omega⟩
    (have hj:j<l.length:=by omega);have hrd:=Z0j (A:=some ⟨g,0,none⟩) (c:=c2) (l:=Z1f l x (j+1)) Sym.cells_length (by rw [Z11 l x hi2];exact HOW.out);obtain ⟨g',o',hgo,_,hcell⟩:=hrd.at_ (k:=j) (by rw [Z11 l x hi2];omega);injection hgo with hgo;injection hgo with hg1 hg2;subst hg1;subst hg2;rw [Z5a l x hj] at hcell;(have q0:wr.cell? ⟨g,j*3,none⟩=some (.int .i64 l[j].kind):=by simpa using hcell 0 _ rfl);(have q1:wr.cell? ⟨g,j*3+1,none⟩=some (.string l[j].text):=by simpa using hcell 1 _ rfl);have q2:wr.cell? ⟨g,j*3+2,none⟩=some (.int .i64 l[j].n):=by simpa using hcell 2 _ rfl
    have rmj:Room wr g 38 (c2*3)∧l.length+1≤c2:=by
     rcases Z0i HOW.out with ⟨hv,_⟩ | ⟨g',cap,hv,hn,_,hr,_⟩
     · cases hv
     · injection hv with hA _ hc
       injection hA with hA;injection hA with hA;subst hA;subst hc;exact ⟨hr,hn⟩
    obtain ⟨hrm,hcap⟩:=rmj;obtain ⟨u0,t0⟩:=hrm.cell (i:=(j+1)*3) (by omega);obtain ⟨u1,t1⟩:=hrm.cell (i:=(j+1)*3+1) (by omega);obtain ⟨u2,t2⟩:=hrm.cell (i:=(j+1)*3+2) (by omega);(have b0:(0:Int)≤(j:Int)+1:=by omega);(have b1:(0:Int)≤(j:Int):=by omega);(have b4:(j:Int)<(l.length:Int):=by omega);(have b2:(j:Int)<(l.length:Int)+1:=by omega);(have b3:(j:Int)+1<(l.length:Int)+1:=by omega);have w1:IntKind.i64.wrap ((j:Int))=(j:Int):=Zl5 _ (by omega);(have w2:IntKind.i64.wrap ((j:Int)+1 - 1)=(j:Int):=by rw [Zl5 _ (by omega)];omega);clear hcell hrd hrm;obtain ⟨y,hy⟩ : ∃y,y=l[j]:=⟨_,rfl⟩;rw [← hy] at q0 q1 q2;have HY:=hid hy;have hbw:b<wr.heap.size:=Zla wr _ r0;clear hy;(go_wp2_with fail);refine Z08 (fun w9=>Below wr.heap.size wr w9) [(0,0),(1,0),(2,0),(3,1),(4,0),(5,0),(6,0),(7,0),(8,1),(9,0),(10,0),(11,0),(12,1),(13,0),(14,2)] (by kernel_rfl) (by kernel_rfl) (fun KK hKK=>?_);simp only [Z0h,Zl2,Zl0,Zkz,Zkv,Zky,Zl4];(repeat ((first | (refine Z0b ?_ (Or.inl ⟨by rfl,fun w9=>?_⟩) ?_;rotate_left 1;go_simp;with_reducible rfl) | (refine Z0a ?_ (((Zks _ _).drew)) (Or.inl ⟨by rfl,fun w9 hw9=>?_⟩) ?_;rotate_left 1;obtain ⟨hc9,hf9⟩:=Z0p hw9;go_simp;with_reducible rfl) | refine Z0b undef (Or.inr ⟨by rfl,rfl⟩) ?_ | refine Z0a undef (((Zks _ _).drew)) (Or.inr ⟨by rfl,rfl⟩) ?_);go_frame));refine Z2m (by kernel_rfl) (fun K9 hK9=>?_);go_simp;refine hK9 _ _ ?_;clear hK9 K9;refine Z0u ?_;simp only [Z02];refine hKK _ _ ?_;clear hKK KK;(go_wp2_with fail);go_roundw
    case rel=>
     refine ⟨j,by go_num,by omega,by omega,?_,Fr.drew ((((HFR.out).setCell (p:=⟨g,(j+1)*3,none⟩) (.inl rfl) (_)).setCell (p:=⟨g,(j+1)*3+1,none⟩) (.inl rfl) (_)).setCell (p:=⟨g,(j+1)*3+2,none⟩) (.inl rfl) (_))⟩;have hst:=((((((HOW.out).stored ((j+1)*3) (.int .i64 y.kind)).1).stored ((j+1)*3+1) (.string y.text)).1).stored ((j+1)*3+2) (.int .i64 y.n)).1
     have he:Z5s ((Z1f l x (j+1)).flatMap Sym.cells) ((j+1)*3) (Sym.cells y)=(Z1f l x j).flatMap Sym.cells:=by
      rw [Z5h Sym.cells_length (by omega) _ (j+1) (by rw [Z11 l x hi2];omega),HY.out,Z5b l x hj]
     rw [← he];exact hst
    case measure=>simp [intOf]<;>omega
  · obtain rfl:i=rank Z01 l x:=by omega
    have rmj:Room wr g 38 (c2*3)∧l.length+1≤c2:=by
     rcases Z0i HOW.out with ⟨hv,_⟩ | ⟨g',cap,hv,hn,_,hr,_⟩
     · cases hv
     · injection hv with hA _ hc
       injection hA with hA;injection hA with hA;subst hA;subst hc;exact ⟨hr,hn⟩
    obtain ⟨hrm,hcap⟩:=rmj;obtain ⟨k,hk⟩ : ∃k,k=rank Z01 l x:=⟨_,rfl⟩;rw [← hk] at hi2 hlt ⊢;obtain ⟨u0,t0⟩:=hrm.cell (i:=k*3) (by omega);obtain ⟨u1,t1⟩:=hrm.cell (i:=k*3+1) (by omega);obtain ⟨u2,t2⟩:=hrm.cell (i:=k*3+2) (by omega);have x0:=(HFR.out.cell (p:=⟨w.heap.size,0,none⟩) hk4 (fun h=>hgk1 h.symm)).trans z0;have x1:=(HFR.out.cell (p:=⟨w.heap.size,1,none⟩) hk4 (fun h=>hgk1 h.symm)).trans z1;have x2:=(HFR.out.cell (p:=⟨w.heap.size,2,none⟩) hk4 (fun h=>hgk1 h.symm)).trans z2;(have b1:(0:Int)≤(k:Int):=by omega);(have b2:(k:Int)<(l.length:Int)+1:=by omega);have HK:=hid hk;(have hkw:w.heap.size<wr.heap.size:=by have:=HFR.out.size;omega);have hbw:b<wr.heap.size:=Zla wr _ r0;clear hrm hk z0 z1 z2;(go_wp2_with fail);refine Z08 (fun w9=>Below wr.heap.size wr w9) [(0,0),(1,0),(2,0),(3,1),(4,0),(5,1),(6,0),(7,2)] (by kernel_rfl) (by kernel_rfl) (fun KK hKK=>?_);simp only [Z0h,Zl2,Zl0,Zkz,Zkv,Zky,Zl4];(repeat ((first | (refine Z0b ?_ (Or.inl ⟨by rfl,fun w9=>?_⟩) ?_;rotate_left 1;go_simp;with_reducible rfl) | (refine Z0a ?_ (((Zks _ _).drew)) (Or.inl ⟨by rfl,fun w9 hw9=>?_⟩) ?_;rotate_left 1;obtain ⟨hc9,hf9⟩:=Z0p hw9;go_simp;with_reducible rfl) | refine Z0b undef (Or.inr ⟨by rfl,rfl⟩) ?_ | refine Z0a undef (((Zks _ _).drew)) (Or.inr ⟨by rfl,rfl⟩) ?_);go_frame));refine Z2m (by kernel_rfl) (fun K9 hK9=>?_);go_simp;refine hK9 _ _ ?_;clear hK9 K9;refine Z0u ?_;simp only [Z02];refine hKK _ _ ?_;clear hKK KK;(go_wp2_with fail);go_ret;have HOWk:=HOW.out;rw [← HK.out] at HOWk;have hst:=((((((HOWk).stored (k*3) (.int .i64 x.kind)).1).stored (k*3+1) (.string x.text)).1).stored (k*3+2) (.int .i64 x.n)).1
    have he:Z5s ((Z1f l x k).flatMap Sym.cells) (k*3) (Sym.cells x)=(put Z01 l x).flatMap Sym.cells:=by
     rw [Z5h Sym.cells_length (by omega) _ k (by rw [Z11 l x hi2];omega),Z62 l x hi2,Zbh Z1d HO.out hh,HK.out]
    have hln:=Z2o Z1d HO.out hh;refine ⟨by rw [hh];rfl,false,some ⟨g,0,none⟩,c2,⟨?_,?_⟩,?_,?_⟩
    · rw [hln]
      exact (((HB4.out.fr HFR.out (fun h=>hgb h.symm)).far (p:=⟨g,k*3,none⟩) (fun h=>hgb h.symm) _).far (p:=⟨g,k*3+1,none⟩) (fun h=>hgb h.symm) _).far (p:=⟨g,k*3+2,none⟩) (fun h=>hgb h.symm) _
    · rw [hln,← he]
      exact hst
    · exact HF4.out.into (Fr.drew ((((HFR.out).setCell (p:=⟨g,k*3,none⟩) (.inl rfl) (_)).setCell (p:=⟨g,k*3+1,none⟩) (.inl rfl) (_)).setCell (p:=⟨g,k*3+2,none⟩) (.inl rfl) (_))) (fun k hk=>by subst hk;exact HgM.out)
    · exact HgMv.out
theorem Zcs (b c:Nat) (sn:Bool) (A:Option Addr) (l:List Sym) (x:Sym) (w:World) (hS:Z2b w b sn A c l) (hs:Srt Z01 l) (hl:(l.length:Int)≤100000000) :
 Calls Tryz.prog 88 #[.pointer (some ⟨b,0,none⟩),.agg #[.int .i64 x.kind,.string x.text,.int .i64 x.n]] w (Z70 w b sn A l x):=by
 cases hh:has Z01 l x
 · exact Zct b c sn A l x w hS hs hl hh
 · exact Zab b c sn A l x w hS hs hl hh
theorem Z41 (b c:Nat) (sn:Bool) (A:Option Addr) (l:List Sym) (w:World) (hS:Z2b w b sn A c l) :
 Calls Tryz.prog 89 #[.pointer (some ⟨b,0,none⟩)] w fun e w'=>e = .returned (.int .i64 l.length)∧w=w':=by
 have s0:=hS.cell0;clear hS;go_enter Tryz.func89,Tryz.ntmps89;go_wp2;go_ret;exact ⟨rfl,rfl⟩
theorem Zgd (b c:Nat) (sn:Bool) (A:Option Addr) (l:List Sym) (x:Sym) (w:World) (hS:Z2b w b sn A c l) (hs:Srt Z01 l) (hl:(l.length:Int)≤1000000000) :
 Calls Tryz.prog 131 #[.pointer (some ⟨b,0,none⟩),.agg #[.int .i64 x.kind,.string x.text,.int .i64 x.n]] w (Zd3 l x w):=by
 have HS:=hid hS;have HO:=hid hs;clear hS hs;go_enter Tryz.func131,Tryz.ntmps131;(go_wp2_with fail);refine (Z9s b c sn A l x _ (HS.out.new_ ((Zks _ _).alloc (Zkt _) _)) HO.out (by omega)).mono ?_;rintro e w1 ⟨rfl,hb1⟩;(go_wp2_with fail);go_ret2;exact ⟨rfl,((Zks _ _).alloc (Zkt _) _).trans (hb1.mono (by simp))⟩
def Zal (w:World) (b:Nat) (A:Option Addr) (c:Nat) (l:List Sym) (e:Ending) (w':World):Prop:=
 ∃k,e = .returned (.pointer (some ⟨k,0,none⟩))∧w.heap.size≤k∧Z2b w' b true A c l∧Z2b w' k true A c l∧Fr (· = b) w w'
theorem Zf4 (b c:Nat) (sn:Bool) (A:Option Addr) (l:List Sym) (w:World) (hS:Z2b w b sn A c l) :
 Calls Tryz.prog 93 #[.pointer (some ⟨b,0,none⟩)] w (Zal w b A c l):=by
 have s0:=hS.cell0;have s1:=hS.cell1;have f1:=hS.blk.frozen 1;have hb:=hS.lt;have HS:=hid hS;clear hS;go_enter Tryz.func93,Tryz.ntmps93;go_wp2;go_ret;have h1:Z2b (w.setCell ⟨b,1,none⟩ (.bool true)) b true A c l:=⟨HS.out.blk.set_ 1 _,ownsRow_setCell_other HS.out.row (Z0d HS.out.row HS.out.blk (by decide)) _⟩;refine ⟨w.heap.size,by simp,Zkt _,h1.new_ ((Zks _ _).alloc (Zkt _) _),⟨?_,Z00 h1.row ((Zks _ _).alloc (Zkt _) _)⟩,((Fr.refl (· = b) w).setCell (p:=⟨b,1,none⟩) (.inl rfl) _).alloc _⟩;have h2:=Blk.new (w.setCell ⟨b,1,none⟩ (.bool true)) 203 #[.slice A l.length c,.bool true];simpa using h2
def Zdx (w:World) (xs:List Sym) (e:Ending) (w':World):Prop:=
 ∃k,e = .returned (.pointer (some ⟨k,0,none⟩))∧w.heap.size≤k∧∃sn A c,Z2b w' k sn A c (puts Z01 [] xs)∧AIn A (w.heap.size≤·)∧Below w.heap.size w w'
theorem Zg8 (A:Option Addr) (c:Nat) (xs:List Sym) (w:World) (hrd:Z0k w 3 Sym.cells A c xs) (hl:(xs.length:Int)≤10000000) :
 Calls Tryz.prog 85 #[.slice A xs.length c] w (Zdx w xs):=by
 have HRD:=hid hrd;clear hrd;go_enter Tryz.func85,Tryz.ntmps85;(go_wp2_with fail);obtain ⟨W0,hW0⟩ : ∃W0,W0=w.alloc (.cells #[.slice none 0 0,.bool false] 203):=⟨_,rfl⟩;(have hb0:Below w.heap.size w W0:=by rw [hW0];exact (Zks _ _).alloc (Zkt _) _);have hS0:Z2b W0 w.heap.size false none 0 []:=⟨by rw [hW0];exact Blk.new _ _ _,⟨by simp,.inl ⟨rfl,rfl⟩⟩⟩;rw [← hW0];clear hW0;have HB0:=hid hb0;have HS0:=hid hS0;clear hb0 hS0
 go_loopw [10] (fun s wr=>∃i:Nat,s = .int .i64 i∧i≤xs.length∧∃sn A' c',Z2b wr w.heap.size sn A' c' (puts Z01 [] (xs.take i))∧AIn A' (w.heap.size≤·)∧Below w.heap.size w wr) (fun s wr=>xs.length - (intOf s).toNat)
 case atStart=>exact ⟨0,rfl,Nat.zero_le _,false,none,0,HS0.out,AIn.none_ _,HB0.out⟩
 case round=>
  obtain ⟨i,rfl,hi,sn,A',c',hS,hA',hB⟩:=hrel;have HS:=hid hS;have HA:=hid hA';have HB:=hid hB;clear hS hA' hB;by_cases hlt:i<xs.length
  · obtain ⟨x,hx⟩ : ∃x,x=xs[i]:=⟨_,rfl⟩
    obtain ⟨g,off,rfl,hgs,hcell⟩:=(HRD.out.fr (Fr.of_new (M:=fun _=>False) HB.out) (fun _ _ h=>h)).at_ hlt;rw [← hx] at hcell;(have q0:wr.cell? ⟨g,off+i*3,none⟩=some (.int .i64 x.kind):=by simpa using hcell 0 _ rfl);(have q1:wr.cell? ⟨g,off+i*3+1,none⟩=some (.string x.text):=by simpa using hcell 1 _ rfl);(have q2:wr.cell? ⟨g,off+i*3+2,none⟩=some (.int .i64 x.n):=by simpa using hcell 2 _ rfl);(have b1:(0:Int)≤(i:Int):=by omega);(have b2:(i:Int)<(xs.length:Int):=by omega);have HX:=hid hx;clear hcell hx;(go_wp2_with fail);have hsr:=Srt.puts Z1d (xs.take i) (Srt.nil (cmp:=Z01))
    have hlen:(((puts Z01 [] (xs.take i)).length:Nat):Int)≤100000000:=by
     have:=Z2p Z1d (xs.take i) (Srt.nil (cmp:=Z01));simp at this;omega
    refine (Zcs w.heap.size c' sn A' _ x _ (HS.out.new_ ((Zks _ _).alloc (Zkt _) _)) hsr hlen).mono ?_;rintro e w1 ⟨rfl,sn2,A2,c2,hS2,hF2,hM2⟩
    have hB1:Below w.heap.size w w1:=(HB.out.alloc HB.out.size _).trans (hF2.below (by have:=HB.out.size;(try simp);omega) (fun k hk hm=>by
     rcases hm with hm | ⟨_,a,ha,hm⟩
     · omega
     · have:=HA.out a ha;omega))
    have hA2:AIn A2 (w.heap.size≤·):=by
     rcases hM2 with ⟨_,rfl⟩ | ⟨_,g2,hg2,rfl⟩
     · exact HA.out
     · intro a ha;cases ha;have:=HB.out.size;(try simp at hg2 ⊢);omega
    have HS2:=hid hS2;have HB1:=hid hB1;have HA2:=hid hA2;clear hS2 hB1 hA2 hF2 hM2 hsr hlen q0 q1 q2;(go_wp2_with fail);go_roundw
    case rel=>
     refine ⟨i+1,by go_num,by omega,sn2,A2,c2,?_,HA2.out,HB1.out⟩;rw [Zm1,Zl1 hlt,← HX.out];simp only [Option.toList_some,Z3k];exact HS2.out
    case measure=>simp [intOf]<;>omega
  · have hie:i=xs.length:=by omega
    subst hie;(go_wp2_with fail);go_ret;refine ⟨w.heap.size,rfl,Zkt _,sn,A',c',?_,HA.out,HB.out⟩;have:=HS.out;rwa [Zll] at this
end
section
open Go.RowKit Go.Shelf
def Z1v (A:Option Addr) (W W':World):Prop:=W.heap.size≤W'.heap.size∧∀a,A=some a→a.block<W.heap.size→W'.heap[a.block]? = W.heap[a.block]?
theorem Z1v.trans {A:Option Addr} {X Y Z:World} (h:Z1v A X Y) (k:Z1v A Y Z):Z1v A X Z:=⟨Zlf h.1 k.1,fun a e hl=>(k.2 a e (Zkx hl h.1)).trans (h.2 a e hl)⟩
theorem Z1v.of_priv {A:Option Addr} {B:Nat} {X Y:World} (hA:AIn A (· < B)) (h:Priv B X Y):Z1v A X Y:=⟨h.size,fun a e hl=>h.block _ hl (.inl (hA a e))⟩
theorem Z1v.of_below {A:Option Addr} {B:Nat} {X Y:World} (hA:AIn A (· < B)) (h:Below B X Y):Z1v A X Y:=⟨h.size,fun a e _=>h.block _ (hA a e)⟩
theorem Z1v.rd {α:Type} {size c:Nat} {cells:α→List Value} {A:Option Addr} {l:List α} {W W':World} (hk:Z1v A W W') (h:Z0k W size cells A c l):Z0k W' size cells A c l:=
 h.keep hk.1 (fun p hp ⟨a,ha,hb⟩=>World.cell?_of_block (by rw [← hb];exact hk.2 a ha (by rw [hb];exact hp)))
def Z23 (b:Nat) (X Y:World):Prop:=∃X1,Below X.heap.size X X1∧Y=X1.setCell ⟨b,1,none⟩ (.bool true)
theorem Z23.set_ {α:Type} {tSet tE size:Nat} {cells:α→List Value} {W W1:World} {b:Nat} {sn:Bool} {A:Option Addr} {c:Nat} {l:List α} (h:Z23 b W W1) (hS:Z2g tSet tE size cells W b sn A c l) (hne:tE≠tSet):Z2g tSet tE size cells W1 b true A c l:=by
 obtain ⟨X1,hb,rfl⟩:=h;refine ⟨(hS.new_ hb).blk.set_ 1 _,ownsRow_setCell_other (hS.new_ hb).row ?_ _⟩;exact Z0d hS.row hS.blk hne
theorem Z23.fr {b:Nat} {W W1:World} (h:Z23 b W W1):Fr (· = b) W W1:=by
 obtain ⟨X1,hb,rfl⟩:=h;exact (Fr.of_new (M:=(· = b)) hb).setCell (p:=⟨b,1,none⟩) (.inl rfl) _
abbrev Zk7 {α:Type} (lo:Nat) (encs:α→Array Value) (xs:List α) (Kp:World→World→Prop) (J Jx:List α→World→Prop):Prop:=
 ∀pre x post W1,xs=pre++x :: post→J pre W1→YieldAt Fence.wide 0 Tryz.prog lo (encs x) W1 fun e W'=>
  (e = .returned (.bool true)∧J (pre ++ [x]) W'∧Kp W1 W')∨(e = .returned (.bool false)∧Jx (pre ++ [x]) W')
abbrev Told {α:Type} (xs:List α) (J Jx:List α→World→Prop) (e:Ending) (W':World):Prop:=(∃v,e = .returned v)∧(J xs W'∨∃pre post,xs=pre++post∧Jx pre W')
end
section
open Go.RowKit Go.Shelf
attribute [local go_sem] Oper.semAt_some
structure Seq {α:Type} (gf:Nat) (lb:Array Value) (encs:α→Array Value) (xs:List α) (w:World) (start Kp:World→World→Prop):Prop where
 enter : ∀args w,(callFunc gf args).run Tryz.prog w = .ok (.enter gf args) w
 iter : ∀W,Below w.heap.size w W→Iter Tryz.prog gf lb encs xs W start (fun X Y=>Kp X Y∧KeepsFrom W.heap.size X Y)
 trans : ∀A B C,Kp A B→Kp B C→Kp A C
 keep : ∀A B,Priv w.heap.size A B→Kp A B
 below : ∀A B,Below w.heap.size A B→Kp A B
 mods : ∀W W1,start W W1→Fr (· < w.heap.size) W W1
theorem Z40 {B:Nat} {X Y:World} (h:Fr (· < B) X Y):KeepsFrom B X Y:=⟨h.size,fun k _ hB hk _=>(h.block k (Zl6.1 hk).1 (by omega)).trans hk⟩
theorem Zga {W:World} {base base':Nat} {e:TypeId} {size:Nat} {v:Value} {n:Nat} {xs:List Value} (h:W.ownsRow base e size v n xs) (hb:base'≤base):W.ownsRow base' e size v n xs:=
 ⟨h.1,h.2.imp id fun ⟨g,cap,cur,hv,h0,hg,hr⟩=>⟨g,cap,cur,hv,Zlf hb h0,hg,hr⟩⟩
theorem Zbe {W:World} {base:Nat} {e:TypeId} {size:Nat} {v:Value} {n:Nat} {xs:List Value} (h:W.ownsRow base e size v n xs) : ∃A c,v = .slice A n c∧AIn A (base≤·):=by
 rcases h.2 with ⟨rfl,rfl⟩ | ⟨g,cap,cur,rfl,h0,_⟩
 · exact ⟨none,0,rfl,AIn.none_ _⟩
 · exact ⟨_,cap,rfl,fun a e=>by cases e;exact h0⟩
theorem Z5j {W:World} {base:Nat} {e:TypeId} {size:Nat} {v:Value} {n:Nat} {xs:List Value} (h:W.ownsRow base e size v n xs) : ∀k,v.ownBlock=some k→base≤k:=by
 rcases h.2 with ⟨rfl,rfl⟩ | ⟨g,cap,cur,rfl,h0,_⟩
 · intro k hk;cases hk
 · intro k hk;cases hk;exact h0
theorem Z9c {W W':World} {base:Nat} {e:TypeId} {size:Nat} {v:Value} {n:Nat} {xs:List Value} (h:W.ownsRow base e size v n xs) (hb:Below W.heap.size W W'):W'.ownsRow base e size v n xs:=
 ⟨h.1,h.2.imp id fun ⟨g,cap,cur,hv,h0,hg,hr⟩=>⟨g,cap,cur,hv,h0,Blk.new_ (t:=e) hg hb,hr⟩⟩
theorem Z9d {W:World} {base:Nat} {e:TypeId} {size:Nat} {v:Value} {n:Nat} {xs:List Value} (h:W.ownsRow base e size v n xs) : ∀k,v.ownBlock=some k→Z55 W k:=by
 rcases h.2 with ⟨rfl,rfl⟩ | ⟨g,cap,cur,rfl,h0,hg,_⟩
 · intro k hk;cases hk
 · intro k hk;cases hk;exact ⟨_,_,_,hg⟩
theorem Z28 (W:World) (base:Nat) (e:TypeId) (size:Nat):W.ownsRow base e size (.slice none 0 0) 0 []:=⟨by simp,.inl ⟨rfl,rfl⟩⟩
def Z57 (x:Sym):Array Value:=#[.agg #[.int .i64 x.kind,.string x.text,.int .i64 x.n]]
theorem Zhl (lo b c k:Nat) (sn:Bool) (A:Option Addr) (l:List Sym) (W:World) (hS:Z2b W b sn A c l) (hk:k≤l.length) (J Jx:List Sym→World→Prop)
 (h0:J [] (W.setCell ⟨b,1,none⟩ (.bool true))) (hY:Zk7 lo Z57 (l.drop k) (Z1v A) J Jx) :
 CallsIn Fence.wide 0 Tryz.prog 105 #[.pointer (some ⟨b,0,none⟩),.int .i64 k,.func (.yield lo) #[] #[]] W (Told (l.drop k) J Jx):=by
 have s0:=hS.cell0;have s1:=hS.cell1;have f1:=hS.blk.frozen 1;have hne:=Z0d hS.row hS.blk (by decide);have hrd:Z0k (W.setCell ⟨b,1,none⟩ (.bool true)) 3 Sym.cells A c l:=Z0j Sym.cells_length (ownsRow_setCell_other hS.row hne _);(have hlm:(l.length:Int)≤9223372036854775807:=by have:=hrd.cap;omega);have HRD:=hid hrd;have H0:=hid h0;have HY:=hid hY;clear hS hrd h0 hY hne;refine callsIn_of_wp Tryz.func105 rfl trivial ?_;simp only [Tryz.ntmps105,Zm8,Zle,Zlu,Nat.reduceAdd,Nat.reduceSub,Zm2,Zm3,Zm7,Zm5,Zl8,Zlh];gi_wp2
 gi_loopw [7] (fun s wr=>∃pre post,s = .int .i64 ((k+pre.length:Nat):Int)∧l.drop k=pre++post∧J pre wr∧Z0k wr 3 Sym.cells A c l) (fun s wr=>l.length - (intOf s).toNat)
 case atStart=>exact ⟨[],l.drop k,by simp,by simp,H0.out,HRD.out⟩
 case round=>
  obtain ⟨pre,post,rfl,hx,hJ,hrd⟩:=hrel;(have hlen:k+pre.length+post.length=l.length:=by have:=congrArg List.length hx;simp at this;omega);have HX:=hid hx;have HJ:=hid hJ;have HR:=hid hrd;clear hx hJ hrd
  cases post with
  | nil=>
    (have e1:((k+pre.length:Nat):Int)=(l.length:Int):=by simp at hlen;omega);rw [e1];clear hlen e1;gi_wp2;go_end0;exact ⟨⟨_,rfl⟩,.inl (by have:=HX.out;rw [Zmd] at this;rw [this];exact HJ.out)⟩
  | cons x post=>
    obtain ⟨m,hm⟩ : ∃m,m=k+pre.length:=⟨_,rfl⟩;have hml:m<l.length:=by simp at hlen;omega
    have hget:l[m]=x:=by
     apply Zmh;rw [← Zl1,hm,← List.getElem?_drop,HX.out];simp
    obtain ⟨g,off,rfl,hgs,hcell⟩:=HR.out.at_ hml;rw [hget] at hcell;(have q0:wr.cell? ⟨g,off+m*3,none⟩=some (.int .i64 x.kind):=by simpa using hcell 0 _ rfl);(have q1:wr.cell? ⟨g,off+m*3+1,none⟩=some (.string x.text):=by simpa using hcell 1 _ rfl);(have q2:wr.cell? ⟨g,off+m*3+2,none⟩=some (.int .i64 x.n):=by simpa using hcell 2 _ rfl);(have b1:(0:Int)≤(m:Int):=by omega);(have b2:(m:Int)<(l.length:Int):=by omega);rw [← hm];have HM:=hid hm;clear hcell hget hlen hm;obtain ⟨fn,tmps,assign,body,hy,hR⟩:=HY.out pre x post wr HX.out HJ.out;dsimp only [Z57] at hy;have HRR:=hid hR;clear hR;(gi_wp2_with fail);refine ⟨rfl,HRR.out.mono ?_⟩;rintro e W3 (⟨rfl,hJ3,hk3⟩ | ⟨rfl,hJx3⟩)
    · have HJ3:=hid hJ3
      have HK3:=hid hk3;clear hJ3 hk3 hy q0 q1 q2;gi_wp2;go_roundw
      case rel=>exact ⟨pre ++ [x],post,by rw [HM.out,Zlb,List.length_singleton];go_num,by rw [HX.out];simp,HJ3.out,HK3.out.rd HR.out⟩
      case measure=>simp [intOf]<;>omega
    · have HJ3:=hid hJx3
      clear hJx3 hy q0 q1 q2;gi_wp2;refine bodyPost_ret (results_none rfl _ _ _) rfl ?_;exact ⟨⟨_,rfl⟩,.inr ⟨pre ++ [x],post,by rw [HX.out];simp,HJ3.out⟩⟩
theorem Zj4 (kb b c:Nat) (sn:Bool) (A:Option Addr) (l:List Sym) (W:World) (hbox:W.cell? ⟨kb,0,none⟩=some (.pointer (some ⟨b,0,none⟩))) (hS:Z2b W b sn A c l) :
 Iter Tryz.prog 104 #[.pointer (some ⟨kb,0,none⟩)] Z57 l W (Z23 b) (Z1v A):=by
 intro lo J Jx _ _ h0 hY;have H0:=hid (h0 (W.setCell ⟨b,1,none⟩ (.bool true)) ⟨W,Zks _ _,rfl⟩);have HY:=hid hY;have HS:=hid hS;clear h0 hY hS;refine callsIn_of_wp Tryz.func104 rfl trivial ?_;simp only [Tryz.ntmps104,Zm8,Zle,Zlu,Nat.reduceAdd,Nat.reduceSub,Zm2,Zm3,Zm7,Zm5,Zl8,Zlh];(gi_wp2_with fail);have hz:((0:Nat):Int)=0:=rfl;refine ⟨trivial,rfl,?_⟩;refine (Zhl lo b c 0 sn A l W HS.out (Nat.zero_le _) J Jx H0.out (by rw [List.drop_zero];exact HY.out)).mono ?_;rintro e W3 ⟨⟨v,rfl⟩,h⟩;rw [List.drop_zero] at h;have H:=hid h;clear h;gi_wp2;go_end0;exact ⟨⟨_,rfl⟩,H.out⟩
theorem Zb7 (b:Nat) (w:World) :
 Calls Tryz.prog 58 #[.pointer (some ⟨b,0,none⟩)] w fun e w'=>e = .returned (.func (.func 104) #[] #[.pointer (some ⟨w.heap.size,0,none⟩)])∧Below w.heap.size w w'∧w'.cell? ⟨w.heap.size,0,none⟩=some (.pointer (some ⟨b,0,none⟩)):=by
 go_enter Tryz.func58,Tryz.ntmps58;go_wp2;go_ret;exact ⟨rfl,(Zks _ _).alloc (Zkt _) _,by go_simp⟩
theorem Z8m (kb b c:Nat) (sn:Bool) (A:Option Addr) (l:List Sym) (w:World) (hbox:w.cell? ⟨kb,0,none⟩=some (.pointer (some ⟨b,0,none⟩))) (hS:Z2b w b sn A c l) :
 Seq 104 #[.pointer (some ⟨kb,0,none⟩)] Z57 l w (Z23 b) (Z1v A):=
 ⟨by intro args w;kernel_rfl,fun W hW=>(Zj4 kb b c sn A l W ((hW.cell (Zla _ _ hbox)).trans hbox) (hS.new_ hW)).weak (fun _ _ h=>h.1),fun _ _ _=>Z1v.trans,fun _ _=>Z1v.of_priv hS.row_lt,fun _ _=>Z1v.of_below hS.row_lt,fun _ _ h=>h.fr.mono (fun k _ hk=>by subst hk;exact hS.lt)⟩
def Zbx (w:World) (start:World→World→Prop) (xs:List Sym) (e:Ending) (w':World):Prop:=
 ∃A c,e = .returned (.slice A xs.length c)∧w'.ownsRow 0 38 3 (.slice A xs.length c) xs.length (xs.flatMap Sym.cells)∧AIn A (w.heap.size≤·)∧∃W1 W2,Below w.heap.size w W1∧start W1 W2∧Below w.heap.size W2 w'
end
section
open Go.RowKit
abbrev Z7t:=Sets (α:=Sym) 203 38 3 Sym.cells Z01
section
variable {D:Nat→Prop} {w:World} {S:Nat→Option (List Sym)} {σ:Nat→St} {b:Nat} {l:List Sym}
theorem Zen (h:Z7t D w S σ) (hb:S b=some l) :
 Calls Tryz.prog 93 #[.pointer (some ⟨b,0,none⟩)] w fun e w'=>∃k,e = .returned (.pointer (some ⟨k,0,none⟩))∧w.heap.size≤k∧(∀b l,S b=some l→b≠k)∧
  ∃σ',Z7t D w' (upd S k (some l)) σ'∧(∀j,j≠k→j≠b→σ' j=σ j)∧(σ' b).sn=true∧(σ' b).A=(σ b).A∧(σ' k).sn=true∧(σ' k).A=(σ b).A∧Fr (fun k=>¬D k) w w'∧Fr (· = b) w w':=by
 refine (Zf4 b _ _ _ l w (h.at_ b l hb)).mono ?_;rintro e w' ⟨k,he,hk,h1,h2,hF⟩;(have hnb:b≠k:=fun e=>by have:=h.lt hb;omega);have hD:Fr (fun k=>¬D k) w w':=hF.mono (fun k _ hk=>by rw [hk];exact (h.out b l hb).1);have hs:=h.seen (by decide) hb h1 hF;have hrow:=(h.at_ b l hb).row_lt;refine ⟨k,he,hk,fun b l hb e=>by have:=h.lt hb;omega,upd (upd σ b ⟨true,(σ b).A,(σ b).c⟩) k ⟨true,(σ b).A,(σ b).c⟩,⟨fun j m hj=>?_,fun j m hj=>?_,fun j m hj=>?_,fun j m j' m' hj hj' hjj hsj a a' ha ha'=>?_,hs.low⟩,fun j h1 h2=>by rw [Z0q _ _ h1,Z0q _ _ h2],by rw [Z0q _ _ hnb,Z06],by rw [Z0q _ _ hnb,Z06],by rw [Z06],by rw [Z06],hD,hF⟩
 · by_cases e:j=k
   · subst e;rw [Z06] at hj ⊢;cases hj;exact h2
   · rw [Z0q _ _ e] at hj ⊢;exact hs.at_ j m hj
 · by_cases e:j=k
   · subst e;rw [Z06] at hj;cases hj;exact h.srt b l hb
   · rw [Z0q _ _ e] at hj;exact h.srt j m hj
 · by_cases e:j=k
   · subst e;rw [Z06] at hj ⊢;cases hj
     exact ⟨fun hd=>by have:=h.low _ hd;omega,fun hs2=>by cases hs2⟩
   · rw [Z0q _ _ e] at hj ⊢;exact hs.out j m hj
 · by_cases e:j=k
   · subst e;rw [Z06] at hsj;cases hsj
   · rw [Z0q _ _ e] at hj hsj ha
     by_cases e2:j'=k
     · subst e2
       rw [Z06] at ha';by_cases e3:j=b
       · subst e3;rw [Z06] at hsj;cases hsj
       · exact hs.apart j m b l hj hb e3 hsj a a' ha (by rw [Z06];exact ha')
     · rw [Z0q _ _ e2] at hj' ha'
       exact hs.apart j m j' m' hj hj' hjj hsj a a' ha ha'
end
end
section
open Go.RowKit
theorem Z74 (x y:Sym) (W:World):(binOp .eql 38 (.agg #[.int .i64 x.kind,.string x.text,.int .i64 x.n]) (.agg #[.int .i64 y.kind,.string y.text,.int .i64 y.n])).run Tryz.prog W = .ok (.bool (decide (x=y))) W:=by
 rw [run_eql_struct];go_simp;by_cases h:x=y
 · subst h;simp
 · have h2 : ¬(x.kind=y.kind∧x.text.toList=y.text.toList∧x.n=y.n):=fun ⟨h1,h2,h3⟩=>h (Sym.ext' h1 (toList_inj h2) h3)
   rw [Zku h]
   split
   · split
     · split
       · exact absurd ⟨by assumption,by assumption,by assumption⟩ h2
       · rfl
     · rfl
   · rfl
theorem Z89 (x y:Sym) (W:World):(binOp .neq 38 (.agg #[.int .i64 x.kind,.string x.text,.int .i64 x.n]) (.agg #[.int .i64 y.kind,.string y.text,.int .i64 y.n])).run Tryz.prog W = .ok (.bool (!decide (x=y))) W:=by
 rw [run_neq_struct];go_simp;by_cases h:x=y
 · subst h;simp
 · have h2 : ¬(x.kind=y.kind∧x.text.toList=y.text.toList∧x.n=y.n):=fun ⟨h1,h2,h3⟩=>h (Sym.ext' h1 (toList_inj h2) h3)
   rw [Zku h]
   split
   · split
     · split
       · exact absurd ⟨by assumption,by assumption,by assumption⟩ h2
       · rfl
     · rfl
   · rfl
attribute [local go_sem] Z74 Z89
def Z7j (v n:Int):Int:=if n<1 then 0 else v % n
theorem Z7i {w:World} {A:Option Addr} {c k:Nat} {l:List Sym} (h:Z0k w 3 Sym.cells A c l) (hk:k<l.length) : ∃g off,A=some ⟨g,off,none⟩∧g<w.heap.size∧
 w.cell? ⟨g,off+k*3,none⟩=some (.int .i64 l[k].kind)∧w.cell? ⟨g,off+k*3+1,none⟩=some (.string l[k].text)∧w.cell? ⟨g,off+k*3+2,none⟩=some (.int .i64 l[k].n):=by
 obtain ⟨g,off,hA,hg,hc⟩:=h.at_ hk;exact ⟨g,off,hA,hg,by simpa using hc 0 _ rfl,by simpa using hc 1 _ rfl,by simpa using hc 2 _ rfl⟩
theorem Zet (v:Int) {n:Nat} (h:0<n) : ∃j:Nat,Z7j v n=j∧j<n:=by
 (have h1 : ¬(n:Int)<1:=by omega);have h2:=Int.emod_nonneg v (show (n:Int)≠0 by omega);have h3:=Int.emod_lt_of_pos v (show (0:Int)<n by omega);refine ⟨(v % (n:Int)).toNat,?_,by omega⟩;simp only [Z7j,if_neg h1];omega
theorem Zjw (A B:Option Addr) (c d:Nat) (l m:List Sym) (w:World) (hl:Z0k w 3 Sym.cells A c l) (hm:Z0k w 3 Sym.cells B d m) :
 Calls Tryz.prog 16 #[.slice A l.length c,.slice B m.length d] w fun e w'=>e = .returned (.bool (decide (l=m)))∧Below w.heap.size w w':=by
 have HL:=hid hl;have HM:=hid hm;have hlc:=hl.cap;clear hl hm;by_cases hlm:l.length=m.length
 · have t1:((l.length:Int) != (m.length:Int))=false:=by simp;omega
   have HLM:=hid hlm;clear hlm;go_enter Tryz.func16,Tryz.ntmps16;go_wp2_with fail
   go_loopw [5] (fun s wr=>∃i:Nat,s = .int .i64 i∧i≤l.length∧(∀k,(h:k<l.length)→(h':k<m.length)→k<i→l[k]=m[k])∧Below w.heap.size w wr) (fun s wr=>l.length - (intOf s).toNat)
   case atStart=>exact ⟨0,rfl,Nat.zero_le _,fun k _ _ h=>absurd h (by omega),Zks _ _⟩
   case round=>
    obtain ⟨i,rfl,hi,hall,hB⟩:=hrel;have HALL:=hid hall;have HB:=hid hB;clear hall hB;by_cases hlt:i<l.length
    · have hlt2:i<m.length:=by have:=HLM.out;omega
      obtain ⟨x,hx⟩ : ∃x,x=l[i]:=⟨_,rfl⟩;obtain ⟨y,hy⟩ : ∃y,y=m[i]:=⟨_,rfl⟩;obtain ⟨g,off,rfl,hgs,hcell⟩:=(HL.out.new_ HB.out).at_ hlt;obtain ⟨g2,off2,rfl,hgs2,hcell2⟩:=(HM.out.new_ HB.out).at_ hlt2;rw [← hx] at hcell;rw [← hy] at hcell2;(have q0:wr.cell? ⟨g,off+i*3,none⟩=some (.int .i64 x.kind):=by simpa using hcell 0 _ rfl);(have q1:wr.cell? ⟨g,off+i*3+1,none⟩=some (.string x.text):=by simpa using hcell 1 _ rfl);(have q2:wr.cell? ⟨g,off+i*3+2,none⟩=some (.int .i64 x.n):=by simpa using hcell 2 _ rfl);(have p0:wr.cell? ⟨g2,off2+i*3,none⟩=some (.int .i64 y.kind):=by simpa using hcell2 0 _ rfl);(have p1:wr.cell? ⟨g2,off2+i*3+1,none⟩=some (.string y.text):=by simpa using hcell2 1 _ rfl);(have p2:wr.cell? ⟨g2,off2+i*3+2,none⟩=some (.int .i64 y.n):=by simpa using hcell2 2 _ rfl);(have b1:(0:Int)≤(i:Int):=by omega);(have b2:(i:Int)<(l.length:Int):=by omega);(have b3:(i:Int)<(m.length:Int):=by omega);have HX:=hid hx;have HY:=hid hy;clear hcell hcell2 hx hy;have hbe:=Z89 x y;by_cases he:x=y
      · have HE:=hid he
        (have t2:decide (x=y)=true:=by simpa using he);rw [t2] at hbe;clear he;(go_wp2_with fail);go_quiet (fail);have HB2:=hid (Below.drewN' HB.out nq);clear q0 q1 q2 p0 p1 p2;(go_wp2_with fail);go_roundw
        case rel=>
         refine ⟨i+1,by go_num,by omega,fun k h h' hk=>?_,HB2.out⟩;rcases Nat.lt_or_ge k i with h3 | h3
         · exact HALL.out k h h' h3
         · obtain rfl:k=i:=by omega
           rw [← HX.out,← HY.out];exact HE.out
        case measure=>simp [intOf]<;>omega
      · have HE:=hid he
        (have t2:decide (x=y)=false:=by simpa using he);rw [t2] at hbe;clear he;(go_wp2_with fail);go_quiet (fail);have HB2:=hid (Below.drewN' HB.out nq);clear q0 q1 q2 p0 p1 p2;(go_wp2_with fail);go_ret;refine ⟨?_,HB2.out⟩
        have:l≠m:=by
         rintro rfl;exact HE.out (HX.out.trans HY.out.symm)
        rw [Zku this];rfl
    · have hie:i=l.length:=by omega
      subst hie;(go_wp2_with fail);go_ret;refine ⟨?_,HB.out⟩;have:l=m:=List.ext_getElem HLM.out (fun k h h'=>HALL.out k h h' h);rw [Zkw this];rfl
 · have t1:((l.length:Int) != (m.length:Int))=true:=by simp;omega
   have HLM:=hid hlm;clear hlm;go_enter Tryz.func16,Tryz.ntmps16;(go_wp2_with fail);go_ret;refine ⟨?_,Zks _ _⟩;have:l≠m:=fun e=>HLM.out (by rw [e]);rw [Zku this];rfl
theorem Zgx (v n:Int) (w:World) (hn:n≤9223372036854775807) :
 Calls Tryz.prog 10 #[.int .i64 v,.int .i64 n] w fun e w'=>e = .returned (.int .i64 (Z7j v n))∧w=w':=by
 by_cases h:n<1
 · have hw:Z7j v n=0:=by simp [Z7j,h]
   rw [hw];go_enter Tryz.func10,Tryz.ntmps10;(go_wp2_with fail);go_ret;exact ⟨rfl,rfl⟩
 · have hw:Z7j v n=v % n:=by simp [Z7j,h]
   rw [hw];(have e0:n≠0:=by omega);have h1:v.tmod n<n:=Int.tmod_lt_of_pos v (by omega)
   have h2 : -n<v.tmod n:=by
    have:=Int.lt_tmod_of_pos v (show 0<n by omega);omega
   have e1:IntKind.i64.wrap (v.tmod n)=v.tmod n:=Zl5 _ (by omega)
   have e2:v.tmod n<0→v % n=v.tmod n+n:=fun h3=>by
    have h4:=Int.emod_emod_of_dvd v (Int.dvd_refl n)
    have h5:(v.tmod n) % n=v % n:=by
     have:=Int.mul_tdiv_add_tmod v n;(have h6:v % n=(v.tmod n+n*v.tdiv n) % n:=by congr 1;omega);rw [h6,Int.add_mul_emod_self_left]
    (have h7:(v.tmod n+n) % n=v.tmod n % n:=by simp);rw [← h5,← h7,Int.emod_eq_of_lt (by omega) (by omega)]
   have e3 : ¬v.tmod n<0→v % n=v.tmod n:=fun h3=>by
    have h5:(v.tmod n) % n=v % n:=by
     have:=Int.mul_tdiv_add_tmod v n;(have h6:v % n=(v.tmod n+n*v.tdiv n) % n:=by congr 1;omega);rw [h6,Int.add_mul_emod_self_left]
    rw [← h5,Int.emod_eq_of_lt (by omega) (by omega)]
   have E2:=hid e2;have E3:=hid e3;clear e2 e3;go_enter Tryz.func10,Tryz.ntmps10;by_cases h3:v.tmod n<0
   · have E:=hid (E2.out h3)
     have e4:IntKind.i64.wrap (v.tmod n+n)=v.tmod n+n:=Zl5 _ (by omega);clear E2 E3;(go_wp2_with fail);go_ret;exact ⟨by rw [E.out];rfl,rfl⟩
   · have E:=hid (E3.out h3)
     clear E2 E3;(go_wp2_with fail);go_ret;exact ⟨by rw [E.out];rfl,rfl⟩
end
section
open Go.RowKit Go.Shelf
def getB:List Z05→ByteArray→Sym×Bool
 | [],_=>(zS,false)
 | b :: l,v=>if b.var.toList=v.toList then (b.sym,true) else getB l v
theorem Z3j (b:Z05) (l:List Z05) (v:ByteArray):getB (b :: l) v=if b.var.toList=v.toList then (b.sym,true) else getB l v:=rfl
def Z14 (a:Z2f) (l:List Z05):Sym×Bool:=if a.var.toList = [] then (a.sym,true) else getB l a.var
def Z2k (W:World) (r:Sym×Bool) (e:Ending) (W':World):Prop:=e = .returned (.tuple #[.agg #[.int .i64 r.1.kind,.string r.1.text,.int .i64 r.1.n],.bool r.2])∧Below W.heap.size W W'
theorem Blk.z3 {w:World} {g:Nat} {t:TypeId} (h:Blk w g t #[.int .i64 0,.string ⟨#[]⟩,.int .i64 0]):w.cell? ⟨g,0,none⟩=some (.int .i64 0)∧w.cell? ⟨g,1,none⟩=some (.string ⟨#[]⟩)∧w.cell? ⟨g,2,none⟩=some (.int .i64 0)∧w.frozen? ⟨g,0,none⟩=false∧w.frozen? ⟨g,1,none⟩=false∧w.frozen? ⟨g,2,none⟩=false∧g<w.heap.size:=
 ⟨(h.cell 0).trans rfl,(h.cell 1).trans rfl,(h.cell 2).trans rfl,h.frozen 0,h.frozen 1,h.frozen 2,h.lt⟩
theorem Blk.s3 {w:World} {g:Nat} {t:TypeId} {s:Sym} (h:Blk w g t #[.int .i64 s.kind,.string s.text,.int .i64 s.n]):w.cell? ⟨g,0,none⟩=some (.int .i64 s.kind)∧w.cell? ⟨g,1,none⟩=some (.string s.text)∧w.cell? ⟨g,2,none⟩=some (.int .i64 s.n)∧w.frozen? ⟨g,0,none⟩=false∧w.frozen? ⟨g,1,none⟩=false∧w.frozen? ⟨g,2,none⟩=false∧g<w.heap.size:=
 ⟨(h.cell 0).trans rfl,(h.cell 1).trans rfl,(h.cell 2).trans rfl,h.frozen 0,h.frozen 1,h.frozen 2,h.lt⟩
theorem Zd9 {D:Nat→Prop} {A:Option Addr} {c:Nat} (l:List Z05) (v:ByteArray) (w:World) (h:RowR Z0s D w A c l) :
 Calls Tryz.prog 46 #[.slice A l.length c,.string v] w (Z2k w (getB l v)):=by
 have H0:=hid h;have hlc:=h.cap;clear h;go_enter Tryz.func46,Tryz.ntmps46;(go_upto_region 1 with fail);obtain ⟨W1,hW1⟩ : ∃W1,W1=w.alloc (.cells #[.int .i64 0,.string ⟨#[]⟩,.int .i64 0] 38):=⟨_,rfl⟩;rw [← hW1];have HB1:=hid (show Below w.heap.size w W1 by rw [hW1];exact (Zks _ _).alloc (Zkt _) _);have HK1:=hid (show Blk W1 w.heap.size 38 #[.int .i64 0,.string ⟨#[]⟩,.int .i64 0] by rw [hW1];exact Blk.new _ _ _);clear hW1;go_wp2_with fail
 go_loopw [10] (fun s wr=>∃i:Nat,s = .int .i64 i∧i≤l.length∧getB l v=getB (l.drop i) v∧Below W1.heap.size W1 wr) (fun s wr=>l.length - (intOf s).toNat)
 case atStart=>exact ⟨0,rfl,Nat.zero_le _,rfl,Zks _ _⟩
 case round=>
  obtain ⟨i,rfl,hi,hG,hBr⟩:=hrel;have HG:=hid hG;have HBr:=hid (HB1.out.trans (hBr.mono HB1.out.size));have HBw:=hid hBr;obtain ⟨u0,u1,u2,f0,f1,f2,hu⟩:=(HK1.out.new_ hBr).z3;have hszw:=hBr.size;have hszw2:=HBr.out.size;clear hG hBr;by_cases hlt:i<l.length
  · obtain ⟨y,hy⟩ : ∃y,y=l[i]:=⟨_,rfl⟩
    have hdr:l.drop i=l[i] :: l.drop (i+1):=Zlw hlt;rw [← hy] at hdr;obtain ⟨g,off,rfl,_,hg,q0,q1,q2,q3⟩:=Z5c (H0.out.new_ HBr.out) hlt;rw [← hy] at q0 q1 q2 q3;have HDR:=hid hdr;(have b1:(0:Int)≤(i:Int):=by omega);(have b2:(i:Int)<(l.length:Int):=by omega);clear hy hdr;by_cases hv:y.var.toList=v.toList
    · have HR:=hid (show getB l v=(y.sym,true) by rw [HG.out,HDR.out,Z3j,if_pos hv])
      (have v1:(y.var.toList == v.toList)=true:=by simp [hv]);(have v2:decide (y.var.toList=v.toList)=true:=by simp [hv]);clear hv;(go_wp2_with fail);unfold Z2k;rw [HR.out];exact bodyPost_ret (v:=.tuple #[.agg #[.int .i64 y.sym.kind,.string y.sym.text,.int .i64 y.sym.n],.bool true]) (by simp [results,Tryz.results46,go_sem, *]) rfl ⟨rfl,by (repeat (first | exact Zks _ _ | exact HB1.out | exact (HBr.out) | refine Below.drew ?_ | refine Below.al ?_ _ | refine Below.sc ?_ _))⟩
    · have HR:=hid (show getB l v=getB (l.drop (i+1)) v by rw [HG.out,HDR.out,Z3j,if_neg hv])
      (have v1:(y.var.toList == v.toList)=false:=by simp [hv]);(have v2:decide (y.var.toList=v.toList)=false:=by simp [hv]);clear hv;(go_wp2_with fail);go_roundw
      case rel=>exact ⟨i+1,by go_num,by omega,HR.out,by (repeat (first | exact Zks _ _ | exact HBw.out | refine Below.drew ?_ | refine Below.al ?_ _ | refine Below.sc ?_ _))⟩
      case measure=>simp [intOf]<;>omega
  · have hie:i=l.length:=by omega
    subst hie;have HR:=hid (show getB l v=(zS,false) by rw [HG.out,Zlz];rfl);(go_wp2_with fail);unfold Z2k;rw [HR.out];exact bodyPost_ret (v:=.tuple #[.agg #[.int .i64 0,.string ⟨#[]⟩,.int .i64 0],.bool false]) (by simp [results,Tryz.results46,go_sem, *]) rfl ⟨rfl,by (repeat (first | exact Zks _ _ | exact HB1.out | exact (HBr.out) | refine Below.drew ?_ | refine Below.al ?_ _ | refine Below.sc ?_ _))⟩
theorem Zad {D:Nat→Prop} {A:Option Addr} {c:Nat} (l:List Z05) (v:ByteArray) (w:World) (h:RowR Z0s D w A c l) :
 Calls Tryz.prog 52 #[.slice A l.length c,.string v] w (Z2k w (getB l v)):=by
 have H0:=hid h;have hlc:=h.cap;clear h;go_enter Tryz.func52,Tryz.ntmps52;(go_upto_region 1 with fail);obtain ⟨W1,hW1⟩ : ∃W1,W1=w.alloc (.cells #[.int .i64 0,.string ⟨#[]⟩,.int .i64 0] 38):=⟨_,rfl⟩;rw [← hW1];have HB1:=hid (show Below w.heap.size w W1 by rw [hW1];exact (Zks _ _).alloc (Zkt _) _);have HK1:=hid (show Blk W1 w.heap.size 38 #[.int .i64 0,.string ⟨#[]⟩,.int .i64 0] by rw [hW1];exact Blk.new _ _ _);clear hW1;go_wp2_with fail
 go_loopw [6] (fun s wr=>∃i:Nat,s = .int .i64 i∧i≤l.length∧getB l v=getB (l.drop i) v∧Below W1.heap.size W1 wr) (fun s wr=>l.length - (intOf s).toNat)
 case atStart=>exact ⟨0,rfl,Nat.zero_le _,rfl,Zks _ _⟩
 case round=>
  obtain ⟨i,rfl,hi,hG,hBr⟩:=hrel;have HG:=hid hG;have HBr:=hid (HB1.out.trans (hBr.mono HB1.out.size));have HBw:=hid hBr;obtain ⟨u0,u1,u2,f0,f1,f2,hu⟩:=(HK1.out.new_ hBr).z3;have hszw:=hBr.size;have hszw2:=HBr.out.size;clear hG hBr;by_cases hlt:i<l.length
  · obtain ⟨y,hy⟩ : ∃y,y=l[i]:=⟨_,rfl⟩
    have hdr:l.drop i=l[i] :: l.drop (i+1):=Zlw hlt;rw [← hy] at hdr;obtain ⟨g,off,rfl,_,hg,q0,q1,q2,q3⟩:=Z5c (H0.out.new_ HBr.out) hlt;rw [← hy] at q0 q1 q2 q3;have HDR:=hid hdr;(have b1:(0:Int)≤(i:Int):=by omega);(have b2:(i:Int)<(l.length:Int):=by omega);clear hy hdr;by_cases hv:y.var.toList=v.toList
    · have HR:=hid (show getB l v=(y.sym,true) by rw [HG.out,HDR.out,Z3j,if_pos hv])
      (have v1:(y.var.toList == v.toList)=true:=by simp [hv]);(have v2:decide (y.var.toList=v.toList)=true:=by simp [hv]);clear hv;(go_wp2_with fail);unfold Z2k;rw [HR.out];exact bodyPost_ret (v:=.tuple #[.agg #[.int .i64 y.sym.kind,.string y.sym.text,.int .i64 y.sym.n],.bool true]) (by simp [results,Tryz.results52,go_sem, *]) rfl ⟨rfl,by (repeat (first | exact Zks _ _ | exact HB1.out | exact (HBr.out) | refine Below.drew ?_ | refine Below.al ?_ _ | refine Below.sc ?_ _))⟩
    · have HR:=hid (show getB l v=getB (l.drop (i+1)) v by rw [HG.out,HDR.out,Z3j,if_neg hv])
      (have v1:(y.var.toList == v.toList)=false:=by simp [hv]);(have v2:decide (y.var.toList=v.toList)=false:=by simp [hv]);clear hv;(go_wp2_with fail);go_roundw
      case rel=>exact ⟨i+1,by go_num,by omega,HR.out,by (repeat (first | exact Zks _ _ | exact HBw.out | refine Below.drew ?_ | refine Below.al ?_ _ | refine Below.sc ?_ _))⟩
      case measure=>simp [intOf]<;>omega
  · have hie:i=l.length:=by omega
    subst hie;have HR:=hid (show getB l v=(zS,false) by rw [HG.out,Zlz];rfl);(go_wp2_with fail);unfold Z2k;rw [HR.out];exact bodyPost_ret (v:=.tuple #[.agg #[.int .i64 0,.string ⟨#[]⟩,.int .i64 0],.bool false]) (by simp [results,Tryz.results52,go_sem, *]) rfl ⟨rfl,by (repeat (first | exact Zks _ _ | exact HB1.out | exact (HBr.out) | refine Below.drew ?_ | refine Below.al ?_ _ | refine Below.sc ?_ _))⟩
theorem Z5d {D:Nat→Prop} {A:Option Addr} {c:Nat} (a:Z2f) (l:List Z05) (w:World) (h:RowR Z0s D w A c l) :
 Calls Tryz.prog 47 #[.agg #[.string a.var,.int .i64 a.sym.kind,.string a.sym.text,.int .i64 a.sym.n],.slice A l.length c] w (Z2k w (Z14 a l)):=by
 have H0:=hid h;clear h;by_cases hv:a.var.toList = []
 · have v1:(a.var.toList == [])=true:=by simp [hv]
   (have v2:a.var.toList.isEmpty=true:=by simp [hv]);(have v3:decide (a.var.toList = [])=true:=by simp [hv]);have HR:=hid (show Z14 a l=(a.sym,true) by simp [Z14,hv]);clear hv;go_enter Tryz.func47,Tryz.ntmps47;(go_wp2_with fail);unfold Z2k;rw [HR.out];exact bodyPost_ret (v:=.tuple #[.agg #[.int .i64 a.sym.kind,.string a.sym.text,.int .i64 a.sym.n],.bool true]) (by simp [results,Tryz.results47,go_sem]) rfl ⟨rfl,by (repeat (first | exact Zks _ _ | refine Below.drew ?_ | refine Below.al ?_ _ | refine Below.sc ?_ _))⟩
 · have v1:(a.var.toList == [])=false:=by simp [hv]
   (have v2:a.var.toList.isEmpty=false:=by simp [hv]);(have v3:decide (a.var.toList = [])=false:=by simp [hv]);have HR:=hid (show Z14 a l=getB l a.var by simp [Z14,hv]);clear hv;go_enter Tryz.func47,Tryz.ntmps47;(go_upto_region 1 with fail);obtain ⟨W1,hW1⟩ : ∃W1,W1=(w.alloc (.cells #[.string a.var,.int .i64 a.sym.kind,.string a.sym.text,.int .i64 a.sym.n] 91)).alloc (.cells #[.int .i64 0,.string ⟨#[]⟩,.int .i64 0] 38):=⟨_,rfl⟩;rw [← hW1];have HB1:=hid (show Below w.heap.size w W1 by rw [hW1];exact ((Zks _ _).alloc (Zkt _) _).alloc (by simp) _)
   have HK1:=hid (show Blk W1 (w.heap.size+1) 38 #[.int .i64 0,.string ⟨#[]⟩,.int .i64 0] by
    rw [hW1];have:=Blk.new (w.alloc (.cells #[.string a.var,.int .i64 a.sym.kind,.string a.sym.text,.int .i64 a.sym.n] 91)) 38 #[.int .i64 0,.string ⟨#[]⟩,.int .i64 0];rwa [Zld] at this)
   (have hA1:Blk W1 w.heap.size 91 #[.string a.var,.int .i64 a.sym.kind,.string a.sym.text,.int .i64 a.sym.n]:=by rw [hW1];exact (Blk.new _ _ _).alloc _);have q0:W1.cell? ⟨w.heap.size,0,none⟩=some (.string a.var):=(hA1.cell 0).trans rfl;have hq:=hA1.lt;clear hW1 hA1;(go_wp2_with fail);refine (Zd9 l a.var W1 (H0.out.new_ HB1.out)).mono ?_;rintro e w2 ⟨rfl,hb2⟩;obtain ⟨u0,u1,u2,f0,f1,f2,hu⟩:=(HK1.out.new_ hb2).z3;have HB2:=hid (HB1.out.trans (hb2.mono HB1.out.size));have hsz:=HB2.out.size;clear hb2;(go_wp2_with fail);unfold Z2k;rw [HR.out];exact bodyPost_ret (v:=.tuple #[.agg #[.int .i64 (getB l a.var).1.kind,.string (getB l a.var).1.text,.int .i64 (getB l a.var).1.n],.bool (getB l a.var).2]) (by simp [results,Tryz.results47,go_sem, *]) rfl ⟨rfl,by (repeat (first | exact Zks _ _ | exact HB2.out | refine Below.drew ?_ | refine Below.al ?_ _ | refine Below.sc ?_ _))⟩
theorem Z6s {D:Nat→Prop} {A:Option Addr} {c:Nat} (a:Z2f) (l:List Z05) (w:World) (h:RowR Z0s D w A c l) :
 Calls Tryz.prog 53 #[.agg #[.string a.var,.int .i64 a.sym.kind,.string a.sym.text,.int .i64 a.sym.n],.slice A l.length c] w (Z2k w (Z14 a l)):=by
 have H0:=hid h;clear h;by_cases hv:a.var.toList = []
 · have v1:(a.var.toList == [])=true:=by simp [hv]
   (have v2:a.var.toList.isEmpty=true:=by simp [hv]);(have v3:decide (a.var.toList = [])=true:=by simp [hv]);have HR:=hid (show Z14 a l=(a.sym,true) by simp [Z14,hv]);clear hv;go_enter Tryz.func53,Tryz.ntmps53;(go_wp2_with fail);unfold Z2k;rw [HR.out];exact bodyPost_ret (v:=.tuple #[.agg #[.int .i64 a.sym.kind,.string a.sym.text,.int .i64 a.sym.n],.bool true]) (by simp [results,Tryz.results53,go_sem]) rfl ⟨rfl,by (repeat (first | exact Zks _ _ | refine Below.drew ?_ | refine Below.al ?_ _ | refine Below.sc ?_ _))⟩
 · have v1:(a.var.toList == [])=false:=by simp [hv]
   (have v2:a.var.toList.isEmpty=false:=by simp [hv]);(have v3:decide (a.var.toList = [])=false:=by simp [hv]);have HR:=hid (show Z14 a l=getB l a.var by simp [Z14,hv]);clear hv;go_enter Tryz.func53,Tryz.ntmps53;(go_upto_region 1 with fail);obtain ⟨W1,hW1⟩ : ∃W1,W1=(w.alloc (.cells #[.string a.var,.int .i64 a.sym.kind,.string a.sym.text,.int .i64 a.sym.n] 91)).alloc (.cells #[.int .i64 0,.string ⟨#[]⟩,.int .i64 0] 38):=⟨_,rfl⟩;rw [← hW1];have HB1:=hid (show Below w.heap.size w W1 by rw [hW1];exact ((Zks _ _).alloc (Zkt _) _).alloc (by simp) _)
   have HK1:=hid (show Blk W1 (w.heap.size+1) 38 #[.int .i64 0,.string ⟨#[]⟩,.int .i64 0] by
    rw [hW1];have:=Blk.new (w.alloc (.cells #[.string a.var,.int .i64 a.sym.kind,.string a.sym.text,.int .i64 a.sym.n] 91)) 38 #[.int .i64 0,.string ⟨#[]⟩,.int .i64 0];rwa [Zld] at this)
   (have hA1:Blk W1 w.heap.size 91 #[.string a.var,.int .i64 a.sym.kind,.string a.sym.text,.int .i64 a.sym.n]:=by rw [hW1];exact (Blk.new _ _ _).alloc _);have q0:W1.cell? ⟨w.heap.size,0,none⟩=some (.string a.var):=(hA1.cell 0).trans rfl;have hq:=hA1.lt;clear hW1 hA1;(go_wp2_with fail);refine (Zad l a.var W1 (H0.out.new_ HB1.out)).mono ?_;rintro e w2 ⟨rfl,hb2⟩;obtain ⟨u0,u1,u2,f0,f1,f2,hu⟩:=(HK1.out.new_ hb2).z3;have HB2:=hid (HB1.out.trans (hb2.mono HB1.out.size));have hsz:=HB2.out.size;clear hb2;(go_wp2_with fail);unfold Z2k;rw [HR.out];exact bodyPost_ret (v:=.tuple #[.agg #[.int .i64 (getB l a.var).1.kind,.string (getB l a.var).1.text,.int .i64 (getB l a.var).1.n],.bool (getB l a.var).2]) (by simp [results,Tryz.results53,go_sem, *]) rfl ⟨rfl,by (repeat (first | exact Zks _ _ | exact HB2.out | refine Below.drew ?_ | refine Below.al ?_ _ | refine Below.sc ?_ _))⟩
end
end Go.Proofs.YtfidcfjcmlgkbaaGreat
