/-
  Texts put together: PutSym, NewSym, KitSyms, RefBefore, KeepNeq, VaryEl, VaryRef, VaryRo, VaryN5.
-/
import Derived.Test.YtldndkngpdfpfaaGreatPLg
import Derived.Test.YtldndkngpdfpfaaGreatPLc
import Derived.Test.YtldndkngpdfpfaaGreatPLb
import Derived.IntWalk
import Derived.Maps.RangeWalk
namespace Go.Proofs.YtldndkngpdfpfaaGreat
set_option maxRecDepth 100000
set_option maxHeartbeats 32000000
section
open Go.RowKit
def PutPostSym (w:World) (b:Nat) (sn:Bool) (A:Option Addr) (l:List Sym) (x:Sym) (e:Ending) (w':World):Prop:=
 e = .returned (.bool (!has cmpSym l x))∧∃sn' A' c',SymSet w' b sn' A' c' (put cmpSym l x)∧Fr (SetMod b sn A) w w'∧Moved w sn A sn' A'
theorem put_there_Sym (b c:Nat) (sn:Bool) (A:Option Addr) (l:List Sym) (x:Sym) (w:World) (hS:SymSet w b sn A c l) (hs:Srt cmpSym l) (hl:(l.length:Int)≤100000000) (hh:has cmpSym l x=true) :
 Calls Tryz.prog 86 #[.pointer (some ⟨b,0,none⟩),.agg #[.int .i64 x.kind,.string x.text,.int .i64 x.n]] w (PutPostSym w b sn A l x):=by
 have HS:=Lib.hid hS;have HO:=Lib.hid hs;clear hS hs;go_enter Tryz.func86,Tryz.ntmps86;(go_wp2_with fail);refine (find_Sym b c sn A l x _ (HS.out.new_ ((Below.refl _ _).alloc (Nat.le_refl _) _)) HO.out (by omega)).mono ?_;rintro e w1 ⟨rfl,hb1⟩;(go_wp2_with fail);go_ret;refine ⟨by rw [hh];rfl,sn,A,c,?_,Fr.of_new (((Below.refl _ _).alloc (Nat.le_refl _) _).trans (hb1.mono (by simp))),.inl ⟨rfl,rfl⟩⟩;rw [put_has hh];exact HS.out.new_ (((Below.refl _ _).alloc (Nat.le_refl _) _).trans (hb1.mono (by simp)))
theorem put_new_Sym (b c:Nat) (sn:Bool) (A:Option Addr) (l:List Sym) (x:Sym) (w:World) (hS:SymSet w b sn A c l) (hs:Srt cmpSym l) (hl:(l.length:Int)≤100000000) (hh:has cmpSym l x=false) :
 Calls Tryz.prog 86 #[.pointer (some ⟨b,0,none⟩),.agg #[.int .i64 x.kind,.string x.text,.int .i64 x.n]] w (PutPostSym w b sn A l x):=by
 obtain ⟨i0,hi,hz0,hz1,hz2⟩:=info_parts info_Sym;have HS:=Lib.hid hS;have HO:=Lib.hid hs;have hb:=hS.lt;clear hS hs;have hrk:=rank_le (cmp:=cmpSym) l x;go_enter Tryz.func86,Tryz.ntmps86;(go_wp2_with fail);have hSa:=HS.out.new_ ((Below.refl w.heap.size w).alloc (Nat.le_refl _) (.cells #[.int .i64 x.kind,.string x.text,.int .i64 x.n] 23));have HSa:=Lib.hid hSa;clear hSa;refine (find_Sym b c sn A l x _ HSa.out HO.out (by omega)).mono ?_;rintro e w1 ⟨rfl,hb1⟩;have HS1:=Lib.hid (HSa.out.new_ hb1);(have hsz1:w.heap.size+1≤w1.heap.size:=by have:=hb1.size;(try simp at this);omega);have y0:=(hb1.cell (p:=⟨w.heap.size,0,none⟩) (by simp)).trans ((Blk.new w 23 #[.int .i64 x.kind,.string x.text,.int .i64 x.n]).cell 0);have y1:=(hb1.cell (p:=⟨w.heap.size,1,none⟩) (by simp)).trans ((Blk.new w 23 #[.int .i64 x.kind,.string x.text,.int .i64 x.n]).cell 1);have y2:=(hb1.cell (p:=⟨w.heap.size,2,none⟩) (by simp)).trans ((Blk.new w 23 #[.int .i64 x.kind,.string x.text,.int .i64 x.n]).cell 2);have HB1:=Lib.hid hb1;clear hb1;(go_wp2_with fail);refine (own_Sym b c sn A l _ HS1.out (by omega)).mono ?_;rintro e w2 ⟨rfl,A1,c1,hS2,hF2,hM2⟩;have hsz2:w1.heap.size≤w2.heap.size:=hF2.size;have x0:w2.cell? ⟨w.heap.size,0,none⟩=some (.int .i64 x.kind):=(hF2.cell (p:=⟨w.heap.size,0,none⟩) (by dsimp only;omega) (by dsimp only;omega)).trans y0;have x1:w2.cell? ⟨w.heap.size,1,none⟩=some (.string x.text):=(hF2.cell (p:=⟨w.heap.size,1,none⟩) (by dsimp only;omega) (by dsimp only;omega)).trans y1;have x2:w2.cell? ⟨w.heap.size,2,none⟩=some (.int .i64 x.n):=(hF2.cell (p:=⟨w.heap.size,2,none⟩) (by dsimp only;omega) (by dsimp only;omega)).trans y2;have s0:=hS2.cell0;have f0:=hS2.blk.frozen 0;(have hb2:b<w2.heap.size:=by omega);(have hk2:w.heap.size<w2.heap.size:=by omega);have HS2:=Lib.hid hS2;have HF2:=Lib.hid hF2;have HM2:=Lib.hid hM2;clear hS2 hF2 hM2 y0 y1 y2;(go_wp2_with fail);refine wp_region_E (fun w9=>Below w2.heap.size w2 w9) [(0,0),(1,0),(2,0),(3,0),(4,1),(5,1),(6,2),(7,2),(8,0),(9,0),(10,2)] (by kernel_rfl) (by kernel_rfl) (fun KK hKK=>?_);simp only [beside,List.filterMap_cons,List.filterMap_nil,List.getElem?_toArray,List.getElem?_cons_zero,List.getElem?_cons_succ,Option.map_some];(repeat ((first | (refine wpX_w ?_ (Or.inl ⟨by rfl,fun w9=>?_⟩) ?_;rotate_left 1;go_simp;with_reducible rfl) | (refine wpX_l ?_ (((Below.refl _ _).drew)) (Or.inl ⟨by rfl,fun w9 hw9=>?_⟩) ?_;rotate_left 1;obtain ⟨hc9,hf9⟩:=bcell hw9;go_simp;with_reducible rfl) | refine wpX_w undef (Or.inr ⟨by rfl,rfl⟩) ?_ | refine wpX_l undef (((Below.refl _ _).drew)) (Or.inr ⟨by rfl,rfl⟩) ?_);go_frame));refine wpX_es (fun K9 hK9=>?_);go_simp
 refine hK9 _ _ (((Below.refl _ _).drew).alloc (Nat.le_refl _) _) ?_;clear hK9 K9;refine wpX_e (by kernel_rfl) (fun K9 hK9=>?_)
 refine step_append_src _ (by rfl) _ _ _ (by rfl) 23 i0 _ 3 32 Tryz.underlying36 hi hz0 hz1 hz2 rfl (by omega) _ l.length (l.flatMap Sym.cells) (by rfl) (ownsRow_new HS2.out.row (((Below.refl _ _).drew).alloc (Nat.le_refl _) _)) (some ⟨w2.heap.size,0,none⟩) 1 1 (Sym.cells x) (by rfl) (by rfl)
  (fun _=>⟨_,rfl,World.news_of_block (heap_alloc_new _ _)⟩) (Sym.one x) (by unfold maxLen;omega) (by omega) ?_
 intro v2 w3 hown hgr hnil hat;refine hK9 _ _ ?_;clear hK9 K9
 obtain ⟨g,c2,rfl⟩ : ∃g c2,v2 = .slice (some ⟨g,0,none⟩) (l.length+1) c2:=by
  rcases ownsRow_form hown with ⟨_,h0,_⟩ | ⟨g,c2,h,_⟩
  · omega
  · exact ⟨g,c2,h⟩
 have HXN:(Value.slice A1 l.length c1).ownBlock≠some w.heap.size:=by
  intro h;rcases HM2.out with ⟨hsn,hA⟩ | ⟨_,g2,hg2,hA⟩
  · rcases A1 with _ | a1
    · cases h
    · have h1:=HS.out.row_lt _ hA.symm
      simp only [Value.ownBlock,Option.some.injEq] at h;omega
  · subst hA
    simp only [Value.ownBlock,Option.some.injEq] at h;omega
 have HB3':=(HS2.out.blk.drew.alloc (.cells #[.int .i64 x.kind,.string x.text,.int .i64 x.n] 23)).grown hgr (own_blk_ne HS2.out.row HS2.out.blk (by decide));have c0:=(HB3'.cell 0).trans rfl;have z0:=HB3'.frozen 0;have HB3:=Lib.hid HB3';have HOWN:=Lib.hid hown;have HGR:=Lib.hid hgr;clear HB3' hown hgr;(repeat ((first | (refine wpX_w ?_ (Or.inl ⟨by rfl,fun w9=>?_⟩) ?_;rotate_left 1;go_simp;with_reducible rfl) | (refine wpX_l ?_ (((Below.refl _ _).drew).alloc (Nat.le_refl _) _) (Or.inl ⟨by rfl,fun w9 hw9=>?_⟩) ?_;rotate_left 1;obtain ⟨hc9,hf9⟩:=bcell hw9;go_simp;with_reducible rfl) | refine wpX_w undef (Or.inr ⟨by rfl,rfl⟩) ?_ | refine wpX_l undef (((Below.refl _ _).drew).alloc (Nat.le_refl _) _) (Or.inr ⟨by rfl,rfl⟩) ?_);go_frame));refine wpX_e (by kernel_rfl) (fun K9 hK9=>?_);go_simp;refine hK9 _ _ ?_;clear hK9 K9;refine wpX_nil ?_;simp only [OnlyN_normal];refine hKK _ _ ?_;clear hKK KK;have hlg:((l.length+1:Nat):Int)=(l.length:Int)+1:=by omega
 have hG:(SetMod b sn A g∨w.heap.size≤g)∧Moved w sn A false (some ⟨g,0,none⟩)∧g≠w.heap.size∧g≠b:=by
  rcases hat with h | h
  · rcases A1 with _ | a1
    · simp [Value.ownBlock] at h
    · obtain ⟨A',c',hv,_,_,hz⟩:=own_form2 HS2.out.row
      injection hv with hv _ _;obtain ⟨g',rfl⟩:=hz a1 hv.symm;(have hgg:g'=g:=by simpa [Value.ownBlock] using h.symm);subst hgg;have hne:g'≠b:=HS2.out.row_ne (by decide) _ rfl;rcases HM2.out with ⟨hsn,hA⟩ | ⟨_,g2,hg2,hA⟩
      · have h1:=HS.out.row_lt _ hA.symm
        exact ⟨.inl (.inr ⟨hsn.symm,_,hA.symm,rfl⟩),.inl ⟨hsn,hA⟩,by dsimp only at h1;omega,hne⟩
      · injection hA with hA
        injection hA with hA;subst hA;exact ⟨.inr (by omega),.inr ⟨rfl,_,by omega,rfl⟩,by omega,hne⟩
  · have hgg:g=w2.heap.size+1:=by simpa [Value.ownBlock] using h
    subst hgg;exact ⟨.inr (by omega),.inr ⟨rfl,_,by omega,rfl⟩,by omega,by omega⟩
 obtain ⟨hgM,hgMv,hgk1,hgb⟩:=hG;obtain ⟨w4,hw4⟩ : ∃w4,w4=w3.setCell ⟨b,0,none⟩ (.slice (some ⟨g,0,none⟩) (l.length+1) c2):=⟨_,rfl⟩;have hB4:Blk w4 b 216 #[.slice (some ⟨g,0,none⟩) (l.length+1) c2,.bool false]:=by rw [hw4];exact HB3.out.set_ 0 _
 have hR4:w4.ownsRow 0 23 3 (.slice (some ⟨g,0,none⟩) (l.length+1) c2) (l.length+1) ((shiftAt l x l.length).flatMap Sym.cells):=by
  rw [hw4,shiftAt_start];refine ownsRow_setCell_other (a:=⟨b,0,none⟩) ?_ (by simpa [Value.ownBlock] using hgb) _;rw [List.flatMap_append,List.flatMap_singleton];exact HOWN.out
 have hF4:Fr (SetMod b sn A) w w4:=by
  rw [hw4];have h1:Fr (SetMod b sn A) w w1:=Fr.of_new (((Below.refl _ _).alloc (Nat.le_refl _) _).trans (HB1.out.mono (by simp)));have h2:Fr (SetMod b sn A) w w2:=h1.trans (HF2.out.mono (fun k _ h=>.inl h));refine ((h2.drew.alloc _).grown HGR.out (fun k hk=>?_)).setCell (p:=⟨b,0,none⟩) (.inl (.inl rfl)) _;rcases A1 with _ | a1
  · cases hk
  · simp only [Value.ownBlock,Option.some.injEq] at hk
    subst hk;rcases HM2.out with ⟨hsn,hA⟩ | ⟨_,g',hg',hA⟩
    · left;right;exact ⟨hsn.symm,a1,hA.symm,rfl⟩
    · injection hA with hA
      subst hA;right;dsimp only;omega
 have z0:w4.cell? ⟨w.heap.size,0,none⟩=some (.int .i64 x.kind):=by
  rw [hw4,World.cell?_setCell_other _ _ _ _ (by intro h;injection h;omega)];refine HGR.out.cell ((World.cell?_alloc_lt w2.drew _ ⟨w.heap.size,0,none⟩ hk2).trans x0) ?_;intro h;exact HXN (by simpa using h.symm)
 have z1:w4.cell? ⟨w.heap.size,1,none⟩=some (.string x.text):=by
  rw [hw4,World.cell?_setCell_other _ _ _ _ (by intro h;injection h;omega)];refine HGR.out.cell ((World.cell?_alloc_lt w2.drew _ ⟨w.heap.size,1,none⟩ hk2).trans x1) ?_;intro h;exact HXN (by simpa using h.symm)
 have z2:w4.cell? ⟨w.heap.size,2,none⟩=some (.int .i64 x.n):=by
  rw [hw4,World.cell?_setCell_other _ _ _ _ (by intro h;injection h;omega)];refine HGR.out.cell ((World.cell?_alloc_lt w2.drew _ ⟨w.heap.size,2,none⟩ hk2).trans x2) ?_;intro h;exact HXN (by simpa using h.symm)
 (have hk4:w.heap.size<w4.heap.size:=by rw [hw4];have:=HGR.out.size;simp at this ⊢;omega);rw [← hw4];have HgM:=Lib.hid hgM;have HgMv:=Lib.hid hgMv;have HB4:=Lib.hid hB4;have HR4:=Lib.hid hR4;have HF4:=Lib.hid hF4;have s4:=hB4.cell 0;have s4':w4.cell? ⟨b,0,none⟩=some (.slice (some ⟨g,0,none⟩) (l.length+1) c2):=s4;clear s4 hw4 hB4 hR4 hF4 hat hgM hgMv hnil x0 x1 x2 s0 f0;go_wp2_with fail
 go_loopw [7] (fun s wr=>∃i:Nat,s = .int .i64 i∧rank cmpSym l x≤i∧i≤l.length∧wr.ownsRow 0 23 3 (.slice (some ⟨g,0,none⟩) (l.length+1) c2) (l.length+1) ((shiftAt l x i).flatMap Sym.cells)∧Fr (· = g) w4 wr) (fun s wr=>(intOf s).toNat)
 case atStart=>exact ⟨l.length,by go_num,hrk,Nat.le_refl _,HR4.out,Fr.refl _ _⟩
 case round=>
  obtain ⟨i,rfl,hi1,hi2,hown,hfr⟩:=hrel;have hgw:g<wr.heap.size:=(hown.lt g rfl).2;have r0:wr.cell? ⟨b,0,none⟩=some (.slice (some ⟨g,0,none⟩) (l.length+1) c2):=(hfr.cell (p:=⟨b,0,none⟩) HB4.out.lt (fun h=>hgb h.symm)).trans s4';have fz : ∀o,wr.frozen? ⟨g,o,none⟩=false:=fun o=>hown.frozenAt o;have HOW:=Lib.hid hown;have HFR:=Lib.hid hfr;clear hown hfr;by_cases hlt:rank cmpSym l x<i
  · obtain ⟨j,rfl⟩ : ∃j,i=j+1:=⟨i - 1,by omega⟩
    (have hj:j<l.length:=by omega);have hrd:=ownsRow_rd (A:=some ⟨g,0,none⟩) (c:=c2) (l:=shiftAt l x (j+1)) Sym.cells_length (by rw [shiftAt_length l x hi2];exact HOW.out);obtain ⟨g',o',hgo,_,hcell⟩:=hrd.at_ (k:=j) (by rw [shiftAt_length l x hi2];omega);injection hgo with hgo;injection hgo with hg1 hg2;subst hg1;subst hg2;rw [shiftAt_read l x hj] at hcell;(have q0:wr.cell? ⟨g,j*3,none⟩=some (.int .i64 l[j].kind):=by simpa using hcell 0 _ rfl);(have q1:wr.cell? ⟨g,j*3+1,none⟩=some (.string l[j].text):=by simpa using hcell 1 _ rfl);have q2:wr.cell? ⟨g,j*3+2,none⟩=some (.int .i64 l[j].n):=by simpa using hcell 2 _ rfl
    have rmj:Room wr g 23 (c2*3)∧l.length+1≤c2:=by
     rcases ownsRow_form HOW.out with ⟨hv,_⟩ | ⟨g',cap,hv,hn,_,hr,_⟩
     · cases hv
     · injection hv with hA _ hc
       injection hA with hA;injection hA with hA;subst hA;subst hc;exact ⟨hr,hn⟩
    obtain ⟨hrm,hcap⟩:=rmj;obtain ⟨u0,t0⟩:=hrm.cell (i:=(j+1)*3) (by omega);obtain ⟨u1,t1⟩:=hrm.cell (i:=(j+1)*3+1) (by omega);obtain ⟨u2,t2⟩:=hrm.cell (i:=(j+1)*3+2) (by omega);(have b0:(0:Int)≤(j:Int)+1:=by omega);(have b1:(0:Int)≤(j:Int):=by omega);(have b4:(j:Int)<(l.length:Int):=by omega);(have b2:(j:Int)<(l.length:Int)+1:=by omega);(have b3:(j:Int)+1<(l.length:Int)+1:=by omega);have w1:IntKind.i64.wrap ((j:Int))=(j:Int):=IntWalk.i64_in _ (by omega);(have w2:IntKind.i64.wrap ((j:Int)+1 - 1)=(j:Int):=by rw [IntWalk.i64_in _ (by omega)];omega);clear hcell hrd hrm;obtain ⟨y,hy⟩ : ∃y,y=l[j]:=⟨_,rfl⟩;rw [← hy] at q0 q1 q2;have HY:=Lib.hid hy;have hbw:b<wr.heap.size:=World.block_lt_of_cell? wr _ r0;clear hy;(go_wp2_with fail);refine wp_region_E (fun w9=>Below wr.heap.size wr w9) [(0,0),(1,0),(2,0),(3,1),(4,0),(5,0),(6,0),(7,0),(8,1),(9,0),(10,0),(11,0),(12,1),(13,0),(14,2)] (by kernel_rfl) (by kernel_rfl) (fun KK hKK=>?_);simp only [beside,List.filterMap_cons,List.filterMap_nil,List.getElem?_toArray,List.getElem?_cons_zero,List.getElem?_cons_succ,Option.map_some];(repeat ((first | (refine wpX_w ?_ (Or.inl ⟨by rfl,fun w9=>?_⟩) ?_;rotate_left 1;go_simp;with_reducible rfl) | (refine wpX_l ?_ (((Below.refl _ _).drew)) (Or.inl ⟨by rfl,fun w9 hw9=>?_⟩) ?_;rotate_left 1;obtain ⟨hc9,hf9⟩:=bcell hw9;go_simp;with_reducible rfl) | refine wpX_w undef (Or.inr ⟨by rfl,rfl⟩) ?_ | refine wpX_l undef (((Below.refl _ _).drew)) (Or.inr ⟨by rfl,rfl⟩) ?_);go_frame));refine wpX_e (by kernel_rfl) (fun K9 hK9=>?_);go_simp;refine hK9 _ _ ?_;clear hK9 K9;refine wpX_nil ?_;simp only [OnlyN_normal];refine hKK _ _ ?_;clear hKK KK;(go_wp2_with fail);go_roundw
    case rel=>
     refine ⟨j,by go_num,by omega,by omega,?_,Fr.drew ((((HFR.out).setCell (p:=⟨g,(j+1)*3,none⟩) (.inl rfl) (_)).setCell (p:=⟨g,(j+1)*3+1,none⟩) (.inl rfl) (_)).setCell (p:=⟨g,(j+1)*3+2,none⟩) (.inl rfl) (_))⟩;have hst:=((((((HOW.out).stored ((j+1)*3) (.int .i64 y.kind)).1).stored ((j+1)*3+1) (.string y.text)).1).stored ((j+1)*3+2) (.int .i64 y.n)).1
     have he:setAll ((shiftAt l x (j+1)).flatMap Sym.cells) ((j+1)*3) (Sym.cells y)=(shiftAt l x j).flatMap Sym.cells:=by
      rw [flat_set Sym.cells_length (by omega) _ (j+1) (by rw [shiftAt_length l x hi2];omega),HY.out,shiftAt_step l x hj]
     rw [← he];exact hst
    case measure=>simp [intOf]<;>omega
  · obtain rfl:i=rank cmpSym l x:=by omega
    have rmj:Room wr g 23 (c2*3)∧l.length+1≤c2:=by
     rcases ownsRow_form HOW.out with ⟨hv,_⟩ | ⟨g',cap,hv,hn,_,hr,_⟩
     · cases hv
     · injection hv with hA _ hc
       injection hA with hA;injection hA with hA;subst hA;subst hc;exact ⟨hr,hn⟩
    obtain ⟨hrm,hcap⟩:=rmj;obtain ⟨k,hk⟩ : ∃k,k=rank cmpSym l x:=⟨_,rfl⟩;rw [← hk] at hi2 hlt ⊢;obtain ⟨u0,t0⟩:=hrm.cell (i:=k*3) (by omega);obtain ⟨u1,t1⟩:=hrm.cell (i:=k*3+1) (by omega);obtain ⟨u2,t2⟩:=hrm.cell (i:=k*3+2) (by omega);have x0:=(HFR.out.cell (p:=⟨w.heap.size,0,none⟩) hk4 (fun h=>hgk1 h.symm)).trans z0;have x1:=(HFR.out.cell (p:=⟨w.heap.size,1,none⟩) hk4 (fun h=>hgk1 h.symm)).trans z1;have x2:=(HFR.out.cell (p:=⟨w.heap.size,2,none⟩) hk4 (fun h=>hgk1 h.symm)).trans z2;(have b1:(0:Int)≤(k:Int):=by omega);(have b2:(k:Int)<(l.length:Int)+1:=by omega);have HK:=Lib.hid hk;(have hkw:w.heap.size<wr.heap.size:=by have:=HFR.out.size;omega);have hbw:b<wr.heap.size:=World.block_lt_of_cell? wr _ r0;clear hrm hk z0 z1 z2;(go_wp2_with fail);refine wp_region_E (fun w9=>Below wr.heap.size wr w9) [(0,0),(1,0),(2,0),(3,1),(4,0),(5,1),(6,0),(7,2)] (by kernel_rfl) (by kernel_rfl) (fun KK hKK=>?_);simp only [beside,List.filterMap_cons,List.filterMap_nil,List.getElem?_toArray,List.getElem?_cons_zero,List.getElem?_cons_succ,Option.map_some];(repeat ((first | (refine wpX_w ?_ (Or.inl ⟨by rfl,fun w9=>?_⟩) ?_;rotate_left 1;go_simp;with_reducible rfl) | (refine wpX_l ?_ (((Below.refl _ _).drew)) (Or.inl ⟨by rfl,fun w9 hw9=>?_⟩) ?_;rotate_left 1;obtain ⟨hc9,hf9⟩:=bcell hw9;go_simp;with_reducible rfl) | refine wpX_w undef (Or.inr ⟨by rfl,rfl⟩) ?_ | refine wpX_l undef (((Below.refl _ _).drew)) (Or.inr ⟨by rfl,rfl⟩) ?_);go_frame));refine wpX_e (by kernel_rfl) (fun K9 hK9=>?_);go_simp;refine hK9 _ _ ?_;clear hK9 K9;refine wpX_nil ?_;simp only [OnlyN_normal];refine hKK _ _ ?_;clear hKK KK;(go_wp2_with fail);go_ret;have HOWk:=HOW.out;rw [← HK.out] at HOWk;have hst:=((((((HOWk).stored (k*3) (.int .i64 x.kind)).1).stored (k*3+1) (.string x.text)).1).stored (k*3+2) (.int .i64 x.n)).1
    have he:setAll ((shiftAt l x k).flatMap Sym.cells) (k*3) (Sym.cells x)=(put cmpSym l x).flatMap Sym.cells:=by
     rw [flat_set Sym.cells_length (by omega) _ k (by rw [shiftAt_length l x hi2];omega),shiftAt_end l x hi2,put_eq tc_sym HO.out hh,HK.out]
    have hln:=length_put tc_sym HO.out hh;refine ⟨by rw [hh];rfl,false,some ⟨g,0,none⟩,c2,⟨?_,?_⟩,?_,?_⟩
    · rw [hln]
      exact (((HB4.out.fr HFR.out (fun h=>hgb h.symm)).far (p:=⟨g,k*3,none⟩) (fun h=>hgb h.symm) _).far (p:=⟨g,k*3+1,none⟩) (fun h=>hgb h.symm) _).far (p:=⟨g,k*3+2,none⟩) (fun h=>hgb h.symm) _
    · rw [hln,← he]
      exact hst
    · exact HF4.out.into (Fr.drew ((((HFR.out).setCell (p:=⟨g,k*3,none⟩) (.inl rfl) (_)).setCell (p:=⟨g,k*3+1,none⟩) (.inl rfl) (_)).setCell (p:=⟨g,k*3+2,none⟩) (.inl rfl) (_))) (fun k hk=>by subst hk;exact HgM.out)
    · exact HgMv.out
theorem put_Sym (b c:Nat) (sn:Bool) (A:Option Addr) (l:List Sym) (x:Sym) (w:World) (hS:SymSet w b sn A c l) (hs:Srt cmpSym l) (hl:(l.length:Int)≤100000000) :
 Calls Tryz.prog 86 #[.pointer (some ⟨b,0,none⟩),.agg #[.int .i64 x.kind,.string x.text,.int .i64 x.n]] w (PutPostSym w b sn A l x):=by
 cases hh:has cmpSym l x
 · exact put_new_Sym b c sn A l x w hS hs hl hh
 · exact put_there_Sym b c sn A l x w hS hs hl hh
end
section
open Go.RowKit
def NewPostSym (w:World) (xs:List Sym) (e:Ending) (w':World):Prop:=
 ∃k,e = .returned (.pointer (some ⟨k,0,none⟩))∧w.heap.size≤k∧∃sn A c,SymSet w' k sn A c (puts cmpSym [] xs)∧AIn A (w.heap.size≤·)∧Below w.heap.size w w'
theorem new_Sym (A:Option Addr) (c:Nat) (xs:List Sym) (w:World) (hrd:RowRd w 3 Sym.cells A c xs) (hl:(xs.length:Int)≤10000000) :
 Calls Tryz.prog 85 #[.slice A xs.length c] w (NewPostSym w xs):=by
 have HRD:=Lib.hid hrd;clear hrd;go_enter Tryz.func85,Tryz.ntmps85;(go_wp2_with fail);obtain ⟨W0,hW0⟩ : ∃W0,W0=w.alloc (.cells #[.slice none 0 0,.bool false] 216):=⟨_,rfl⟩;(have hb0:Below w.heap.size w W0:=by rw [hW0];exact (Below.refl _ _).alloc (Nat.le_refl _) _);have hS0:SymSet W0 w.heap.size false none 0 []:=⟨by rw [hW0];exact Blk.new _ _ _,⟨by simp,.inl ⟨rfl,rfl⟩⟩⟩;rw [← hW0];clear hW0;have HB0:=Lib.hid hb0;have HS0:=Lib.hid hS0;clear hb0 hS0
 go_loopw [10] (fun s wr=>∃i:Nat,s = .int .i64 i∧i≤xs.length∧∃sn A' c',SymSet wr w.heap.size sn A' c' (puts cmpSym [] (xs.take i))∧AIn A' (w.heap.size≤·)∧Below w.heap.size w wr) (fun s wr=>xs.length - (intOf s).toNat)
 case atStart=>exact ⟨0,rfl,Nat.zero_le _,false,none,0,HS0.out,AIn.none_ _,HB0.out⟩
 case round=>
  obtain ⟨i,rfl,hi,sn,A',c',hS,hA',hB⟩:=hrel;have HS:=Lib.hid hS;have HA:=Lib.hid hA';have HB:=Lib.hid hB;clear hS hA' hB;by_cases hlt:i<xs.length
  · obtain ⟨x,hx⟩ : ∃x,x=xs[i]:=⟨_,rfl⟩
    obtain ⟨g,off,rfl,hgs,hcell⟩:=(HRD.out.fr (Fr.of_new (M:=fun _=>False) HB.out) (fun _ _ h=>h)).at_ hlt;rw [← hx] at hcell;(have q0:wr.cell? ⟨g,off+i*3,none⟩=some (.int .i64 x.kind):=by simpa using hcell 0 _ rfl);(have q1:wr.cell? ⟨g,off+i*3+1,none⟩=some (.string x.text):=by simpa using hcell 1 _ rfl);(have q2:wr.cell? ⟨g,off+i*3+2,none⟩=some (.int .i64 x.n):=by simpa using hcell 2 _ rfl);(have b1:(0:Int)≤(i:Int):=by omega);(have b2:(i:Int)<(xs.length:Int):=by omega);have HX:=Lib.hid hx;clear hcell hx;(go_wp2_with fail);have hsr:=Srt.puts tc_sym (xs.take i) (Srt.nil (cmp:=cmpSym))
    have hlen:(((puts cmpSym [] (xs.take i)).length:Nat):Int)≤100000000:=by
     have:=length_puts_le tc_sym (xs.take i) (Srt.nil (cmp:=cmpSym));simp at this;omega
    refine (put_Sym w.heap.size c' sn A' _ x _ (HS.out.new_ ((Below.refl _ _).alloc (Nat.le_refl _) _)) hsr hlen).mono ?_;rintro e w1 ⟨rfl,sn2,A2,c2,hS2,hF2,hM2⟩
    have hB1:Below w.heap.size w w1:=(HB.out.alloc HB.out.size _).trans (hF2.below (by have:=HB.out.size;(try simp);omega) (fun k hk hm=>by
     rcases hm with hm | ⟨_,a,ha,hm⟩
     · omega
     · have:=HA.out a ha;omega))
    have hA2:AIn A2 (w.heap.size≤·):=by
     rcases hM2 with ⟨_,rfl⟩ | ⟨_,g2,hg2,rfl⟩
     · exact HA.out
     · intro a ha;cases ha;have:=HB.out.size;(try simp at hg2 ⊢);omega
    have HS2:=Lib.hid hS2;have HB1:=Lib.hid hB1;have HA2:=Lib.hid hA2;clear hS2 hB1 hA2 hF2 hM2 hsr hlen q0 q1 q2;(go_wp2_with fail);go_roundw
    case rel=>
     refine ⟨i+1,by go_num,by omega,sn2,A2,c2,?_,HA2.out,HB1.out⟩;rw [List.take_add_one,List.getElem?_eq_getElem hlt,← HX.out];simp only [Option.toList_some,puts_snoc];exact HS2.out
    case measure=>simp [intOf]<;>omega
  · have hie:i=xs.length:=by omega
    subst hie;(go_wp2_with fail);go_ret;refine ⟨w.heap.size,rfl,Nat.le_refl _,sn,A',c',?_,HA.out,HB.out⟩;have:=HS.out;rwa [List.take_length] at this
end
section
open Go.RowKit
theorem eql_sym (x y:Sym) (W:World):(binOp .eql 23 (.agg #[.int .i64 x.kind,.string x.text,.int .i64 x.n]) (.agg #[.int .i64 y.kind,.string y.text,.int .i64 y.n])).run Tryz.prog W = .ok (.bool (decide (x=y))) W:=by
 rw [run_eql_struct];go_simp;by_cases h:x=y
 · subst h;simp
 · have h2 : ¬(x.kind=y.kind∧x.text.toList=y.text.toList∧x.n=y.n):=fun ⟨h1,h2,h3⟩=>h (Sym.ext' h1 (toList_inj h2) h3)
   rw [decide_eq_false h]
   split
   · split
     · split
       · exact absurd ⟨by assumption,by assumption,by assumption⟩ h2
       · rfl
     · rfl
   · rfl
theorem neq_sym (x y:Sym) (W:World):(binOp .neq 23 (.agg #[.int .i64 x.kind,.string x.text,.int .i64 x.n]) (.agg #[.int .i64 y.kind,.string y.text,.int .i64 y.n])).run Tryz.prog W = .ok (.bool (!decide (x=y))) W:=by
 rw [run_neq_struct];go_simp;by_cases h:x=y
 · subst h;simp
 · have h2 : ¬(x.kind=y.kind∧x.text.toList=y.text.toList∧x.n=y.n):=fun ⟨h1,h2,h3⟩=>h (Sym.ext' h1 (toList_inj h2) h3)
   rw [decide_eq_false h]
   split
   · split
     · split
       · exact absurd ⟨by assumption,by assumption,by assumption⟩ h2
       · rfl
     · rfl
   · rfl
attribute [local go_sem] eql_sym neq_sym
def within (v n:Int):Int:=if n<1 then 0 else v % n
theorem sym_at {w:World} {A:Option Addr} {c k:Nat} {l:List Sym} (h:RowRd w 3 Sym.cells A c l) (hk:k<l.length) : ∃g off,A=some ⟨g,off,none⟩∧g<w.heap.size∧
 w.cell? ⟨g,off+k*3,none⟩=some (.int .i64 l[k].kind)∧w.cell? ⟨g,off+k*3+1,none⟩=some (.string l[k].text)∧w.cell? ⟨g,off+k*3+2,none⟩=some (.int .i64 l[k].n):=by
 obtain ⟨g,off,hA,hg,hc⟩:=h.at_ hk;exact ⟨g,off,hA,hg,by simpa using hc 0 _ rfl,by simpa using hc 1 _ rfl,by simpa using hc 2 _ rfl⟩
theorem within_nat (v:Int) {n:Nat} (h:0<n) : ∃j:Nat,within v n=j∧j<n:=by
 (have h1 : ¬(n:Int)<1:=by omega);have h2:=Int.emod_nonneg v (show (n:Int)≠0 by omega);have h3:=Int.emod_lt_of_pos v (show (0:Int)<n by omega);refine ⟨(v % (n:Int)).toNat,?_,by omega⟩;simp only [within,if_neg h1];omega
theorem within_is (v n:Int) (w:World) (hn:n≤9223372036854775807) :
 Calls Tryz.prog 25 #[.int .i64 v,.int .i64 n] w fun e w'=>e = .returned (.int .i64 (within v n))∧w=w':=by
 by_cases h:n<1
 · have hw:within v n=0:=by simp [within,h]
   rw [hw];go_enter Tryz.func25,Tryz.ntmps25;(go_wp2_with fail);go_ret;exact ⟨rfl,rfl⟩
 · have hw:within v n=v % n:=by simp [within,h]
   rw [hw];(have e0:n≠0:=by omega);have h1:v.tmod n<n:=Int.tmod_lt_of_pos v (by omega)
   have h2 : -n<v.tmod n:=by
    have:=Int.lt_tmod_of_pos v (show 0<n by omega);omega
   have e1:IntKind.i64.wrap (v.tmod n)=v.tmod n:=IntWalk.i64_in _ (by omega)
   have e2:v.tmod n<0→v % n=v.tmod n+n:=fun h3=>by
    have h4:=Int.emod_emod_of_dvd v (Int.dvd_refl n)
    have h5:(v.tmod n) % n=v % n:=by
     have:=Int.mul_tdiv_add_tmod v n;(have h6:v % n=(v.tmod n+n*v.tdiv n) % n:=by congr 1;omega);rw [h6,Int.add_mul_emod_self_left]
    (have h7:(v.tmod n+n) % n=v.tmod n % n:=by simp);rw [← h5,← h7,Int.emod_eq_of_lt (by omega) (by omega)]
   have e3 : ¬v.tmod n<0→v % n=v.tmod n:=fun h3=>by
    have h5:(v.tmod n) % n=v % n:=by
     have:=Int.mul_tdiv_add_tmod v n;(have h6:v % n=(v.tmod n+n*v.tdiv n) % n:=by congr 1;omega);rw [h6,Int.add_mul_emod_self_left]
    rw [← h5,Int.emod_eq_of_lt (by omega) (by omega)]
   have E2:=Lib.hid e2;have E3:=Lib.hid e3;clear e2 e3;go_enter Tryz.func25,Tryz.ntmps25;by_cases h3:v.tmod n<0
   · have E:=Lib.hid (E2.out h3)
     have e4:IntKind.i64.wrap (v.tmod n+n)=v.tmod n+n:=IntWalk.i64_in _ (by omega);clear E2 E3;(go_wp2_with fail);go_ret;exact ⟨by rw [E.out];rfl,rfl⟩
   · have E:=Lib.hid (E3.out h3)
     clear E2 E3;(go_wp2_with fail);go_ret;exact ⟨by rw [E.out];rfl,rfl⟩
end
section
open Go.RowKit
attribute [local go_sem] eql_sym neq_sym
end
section
open Go.RowKit
theorem Elem.ext' : ∀{x y:Elem},x.id=y.id→x.attr=y.attr→x.value=y.value→x.acc=y.acc→x.goal=y.goal→x.tag=y.tag→x=y
 | ⟨_,_,_,_,_,_⟩,⟨_,_,_,_,_,_⟩,rfl,rfl,rfl,rfl,rfl,rfl=>rfl
instance decElem22:DecidableEq Elem:=fun a b=>decidable_of_iff (a.id=b.id∧a.attr=b.attr∧a.value=b.value∧a.acc=b.acc∧a.goal=b.goal∧a.tag=b.tag) ⟨fun ⟨h1,h2,h3,h4,h5,h6⟩=>Elem.ext' h1 h2 h3 h4 h5 h6,fun h=>by subst h;exact ⟨rfl,rfl,rfl,rfl,rfl,rfl⟩⟩
end
section
open Go.RowKit Go.Shelf
attribute [local go_sem] Oper.semAt_some
set_option linter.unusedSimpArgs false
end
section
open Go.RowKit Go.Shelf
attribute [local go_sem] Oper.semAt_some
set_option linter.unusedSimpArgs false
end
section
open Go.RowKit Go.Shelf
attribute [local go_sem] Oper.semAt_some
set_option linter.unusedSimpArgs false
structure RS (X:World) (ns:List Sym) (left out:List Elem) (AL:Option Addr) (cL:Nat) (AO:Option Addr) (cO:Nat) (AN:Option Addr) (cN:Nat) (w:World):Prop where
 lo:w.ownsRow 0 55 12 (.slice AL left.length cL) left.length (left.flatMap Elem.cells)
 la:AIn AL (X.heap.size≤·)
 oo:w.ownsRow 0 55 12 (.slice AO out.length cO) out.length (out.flatMap Elem.cells)
 oa:AIn AO (X.heap.size≤·)
 no:w.ownsRow 0 23 3 (.slice AN ns.length cN) ns.length (ns.flatMap Sym.cells)
 na:AIn AN (X.heap.size≤·)
 ne : ∀a b,AL=some a→AO=some b→a.block≠b.block
 bel:Below X.heap.size X w
section
variable {X w w':World} {ns:List Sym} {left out:List Elem} {AL:Option Addr} {cL:Nat} {AO:Option Addr} {cO:Nat} {AN:Option Addr} {cN:Nat}
end
end
section
open Go.RowKit Go.Shelf
attribute [local go_sem] Oper.semAt_some
set_option linter.unusedSimpArgs false
theorem vdigits_step (n:Nat) (h : ¬n<10) (hn:n<9223372036854775808) (ih : ∀w,Calls Tryz.prog 57 #[.int .i64 ((n / 10:Nat):Int)] w fun e w'=>e = .returned (.string (decB (n / 10)))∧Below w.heap.size w w') (w:World):Calls Tryz.prog 57 #[.int .i64 n] w fun e w'=>e = .returned (.string (decB n))∧Below w.heap.size w w':=by
 (have t1:decide ((n:Int)<10)=false:=by simp;omega);(have b0:(0:Int)≤(n:Int):=by omega);(have b1:(n:Int)<9223372036854775808:=by omega);have hc:=conv1 (n % 10) (by omega);(have e1:((n:Int) / 10)=((n / 10:Nat):Int):=by omega);(have e2:((n:Int) % 10)=((n % 10:Nat):Int):=by omega);(have m0:(0:Int)≤((n % 10:Nat):Int):=by omega);(have m1:((n % 10:Nat):Int)≤9:=by omega);obtain ⟨m,hm⟩ : ∃m,m=n % 10:=⟨_,rfl⟩;obtain ⟨q,hq⟩ : ∃q,q=n / 10:=⟨_,rfl⟩;rw [← hm] at hc e2 m0 m1;rw [← hq] at e1 ih;(have HD:Hid (decB n=decB q++byte1 m):=by rw [decB,if_neg h,hm,hq];rfl);have v1:IntKind.i64.wrap (q:Int)=(q:Int):=IntWalk.i64_in _ (by omega);(have v2:((n:Int)).tmod 10=(m:Int):=by rw [Int.tmod_eq_emod_of_nonneg b0,e2]);have v3:IntKind.i64.wrap (48+(m:Int))=48+(m:Int):=IntWalk.i64_in _ (by omega);(have v4:IntKind.u8.wrap (48+(m:Int))=48+(m:Int):=by simp [IntKind.wrap,IntKind.signed,IntKind.bits];omega);(have hz : ¬9223372036854775807<(decB q).size+(byte1 m).size:=by have:=decB_long (n:=q) (by omega);rw [byte1_size];omega);clear e2;have IH:=Lib.hid ih;have HC:=Lib.hid hc;clear ih h hm hq hc;go_enter Tryz.func57,Tryz.ntmps57;(go_wp2_with fail);refine wp_region_Pl (fun _=>True) [0,1,3,4,5,6,9,10] [] (.fork [(0,0),(1,0),(3,0),(4,0),(5,0),(6,0)] 2 (.fin [(7,2),(8,2),(9,0),(10,0)]) 7 (.fork [] 2 (.fin [(8,2),(9,0),(10,0)]) 8 (.fin [(2,2),(9,0),(10,0)]))) (by kernel_rfl) (by kernel_rfl) (by kernel_rfl) (fun KK hKK=>?_);simp only [wpPl,beside,List.filterMap_cons,List.filterMap_nil,List.getElem?_toArray,List.getElem?_cons_zero,List.getElem?_cons_succ,Option.map_some,List.any_nil];(repeat (refine wpY_w ?_ (Or.inl ⟨by rfl,fun w9=>?_⟩) ?_;rotate_left 1;go_simp;with_reducible rfl;go_frame));refine wpY_nil ⟨?_,?_⟩
 · refine wpOp_c (fun _=>by simp) rfl (fun K9 hK9=>?_)
   go_simp;refine (IH.out _).mono ?_;rintro e w1 ⟨rfl,hb1⟩;refine hK9 _ _ ?_;clear hK9 K9;(try go_frame);refine wpY_e (by rfl) (fun K9 hK9=>?_);go_simp;refine hK9 _ _ ?_;clear hK9 K9;(try go_frame);refine wpY_e (by rfl) (fun K9 hK9=>?_);have hc:=HC.out (w1.alloc (.cells #[.int .u8 (48+(m:Int))] 5)) w1.heap.size ((Blk.new _ _ _).cell 0);go_simp;refine hK9 _ _ ?_;clear hK9 K9 hc;(try go_frame);(repeat (refine wpY_w ?_ (Or.inl ⟨by rfl,fun w9=>?_⟩) ?_;rotate_left 1;go_simp;with_reducible rfl;go_frame));refine wpY_nil ?_;simp only [OnlyN_normal];refine hKK _ _ ?_;clear hKK KK;(go_wp2_with fail);go_ret;exact ⟨by rw [HD.out];rfl,((Below.refl _ _).drew.trans (hb1.mono (by simp))).alloc (by have:=hb1.size;simpa using this) _⟩
 · refine wpOp_c (fun _=>by simp) rfl (fun K9 hK9=>?_)
   go_simp;refine hK9 _ _ ?_;clear hK9 K9;(try go_frame);(try simp only [beside]);refine wpY_nil ⟨?_,?_⟩
   · refine wpOp_c (fun _=>by simp) rfl (fun K9 hK9=>?_)
     go_simp;refine (IH.out _).mono ?_;rintro e w1 ⟨rfl,hb1⟩;refine hK9 _ _ ?_;clear hK9 K9;(try go_frame);refine wpY_e (by rfl) (fun K9 hK9=>?_);have hc:=HC.out w1 w.heap.size ((hb1.cell (by simp)).trans ((Blk.new w.drew 5 #[.int .u8 (48+(m:Int))]).cell 0));go_simp;refine hK9 _ _ ?_;clear hK9 K9 hc;(try go_frame);(repeat (refine wpY_w ?_ (Or.inl ⟨by rfl,fun w9=>?_⟩) ?_;rotate_left 1;go_simp;with_reducible rfl;go_frame));refine wpY_nil ?_;simp only [OnlyN_normal];refine hKK _ _ ?_;clear hKK KK;(go_wp2_with fail);go_ret;exact ⟨by rw [HD.out];rfl,((Below.refl _ _).drew.alloc (by simp) _).trans (hb1.mono (by simp))⟩
   · refine wpOp_c (fun _=>by simp) rfl (fun K9 hK9=>?_)
     have hc:=HC.out (w.alloc (.cells #[.int .u8 (48+(m:Int))] 5)).drew w.heap.size (((Blk.new w 5 #[.int .u8 (48+(m:Int))]).drew.cell 0).trans rfl);go_simp;refine hK9 _ _ ?_;clear hK9 K9 hc;(try go_frame);refine wpY_e (by rfl) (fun K9 hK9=>?_);go_simp;refine (IH.out _).mono ?_;rintro e w1 ⟨rfl,hb1⟩;refine hK9 _ _ ?_;clear hK9 K9;(try go_frame);(repeat (refine wpY_w ?_ (Or.inl ⟨by rfl,fun w9=>?_⟩) ?_;rotate_left 1;go_simp;with_reducible rfl;go_frame));refine wpY_nil ?_;simp only [OnlyN_normal];refine hKK _ _ ?_;clear hKK KK;(go_wp2_with fail);go_ret;exact ⟨by rw [HD.out];rfl,((Below.refl _ _).drew.alloc (by simp) _).trans (hb1.mono (by simp))⟩
theorem vdigits_base (n:Nat) (h:n<10) (w:World):Calls Tryz.prog 57 #[.int .i64 n] w fun e w'=>e = .returned (.string (decB n))∧Below w.heap.size w w':=by
 (have t1:decide ((n:Int)<10)=true:=by simp;omega);(have b0:(0:Int)≤(n:Int):=by omega);(have b1:(n:Int)≤9:=by omega);have hc:=conv1 n h (w.alloc (.cells #[.int .u8 (48+(n:Int))] 5)) w.heap.size ((Blk.new _ _ _).cell 0);(have HD:Hid (decB n=byte1 n):=by rw [decB,if_pos h];rfl);clear h;go_enter Tryz.func57,Tryz.ntmps57;(go_wp2_with fail);go_ret;exact ⟨by rw [HD.out];rfl,(Below.refl _ _).alloc (Nat.le_refl _) _⟩
theorem vdigits_is (n:Nat) (hn:n<9223372036854775808) (w:World):Calls Tryz.prog 57 #[.int .i64 n] w fun e w'=>e = .returned (.string (decB n))∧Below w.heap.size w w':=by
 induction n using Nat.strongRecOn generalizing w with
 | _ n ih=>
   by_cases h:n<10
   · exact vdigits_base n h w
   · exact vdigits_step n h hn (fun w=>ih (n / 10) (by omega) (by omega) w) w
theorem rdigitsL_is (n:Nat) (hn:n<9223372036854775808) (w:World):Calls Tryz.prog 72 #[.int .i64 n] w fun e w'=>e = .returned (.string (decB n))∧Below w.heap.size w w':=by
 have hsz:=decB_long (n:=n) hn;go_enter Tryz.func72,Tryz.ntmps72;go_wp2_with fail
 go_loopw [0,3] (fun a b wr=>∃(q:Nat) (t:ByteArray),a = .int .i64 q∧b = .string t∧q≤n∧decB q++t=decB n∧Below w.heap.size w wr) (fun a b wr=>(intOf a).toNat)
 case atStart=>exact ⟨n,⟨#[]⟩,rfl,rfl,Nat.le_refl _,ByteArray.append_empty,Below.refl _ _⟩
 case round=>
  obtain ⟨q,t,rfl,rfl,hq,he,hB⟩:=hrel;(have hts:t.size≤19:=by have:=congrArg ByteArray.size he;rw [ByteArray.size_append] at this;omega);have HB:=Lib.hid hB;clear hB hsz;by_cases h9:9<q
  · obtain ⟨m,hm⟩ : ∃m,m=q % 10:=⟨_,rfl⟩
    obtain ⟨p,hp⟩ : ∃p,p=q / 10:=⟨_,rfl⟩;have hpq:p<q:=by omega
    have HE:Hid (decB p++(byte1 m++t)=decB n):=by
     have e:=he;rw [decB,if_neg (by omega),← hm,← hp,ByteArray.append_assoc] at e;exact e
    have hc:=conv1 m (by omega) (wr.alloc (.cells #[.int .u8 (48+(m:Int))] 5)) wr.heap.size ((Blk.new _ _ _).cell 0);(have t1:decide ((9:Int)<(q:Int))=true:=by simp;omega);(have v2:((q:Int)).tmod 10=(m:Int):=by rw [Int.tmod_eq_emod_of_nonneg (by omega)];omega);(have v5:((q:Int)) % 10=(m:Int):=by omega);(have v6:((q:Int)) / 10=(p:Int):=by omega);(have v7:((q:Int)).tdiv 10=(p:Int):=by rw [Int.tdiv_eq_ediv_of_nonneg (by omega)];omega);have v3:IntKind.i64.wrap (48+(m:Int))=48+(m:Int):=IntWalk.i64_in _ (by omega);(have v4:IntKind.u8.wrap (48+(m:Int))=48+(m:Int):=by simp [IntKind.wrap,IntKind.signed,IntKind.bits];omega);(have hz : ¬9223372036854775807<(byte1 m).size+t.size:=by rw [byte1_size];omega);(have hpn:p≤n:=by omega);have HPQ:=Lib.hid hpq;clear he hm hp h9 hpq;(go_wp2_with fail);go_roundw
    case rel=>exact ⟨p,byte1 m++t,by first | rfl | go_num,rfl,hpn,HE.out,HB.out.alloc HB.out.size _⟩
    case measure=>have:=HPQ.out;simp [intOf]<;>omega
  · have t1:decide ((9:Int)<(q:Int))=false:=by simp;omega
    have hc:=conv1 q (by omega) (wr.alloc (.cells #[.int .u8 (48+(q:Int))] 5)) wr.heap.size ((Blk.new _ _ _).cell 0)
    have HE:Hid (byte1 q++t=decB n):=by
     have e:=he;rw [decB,if_pos (by omega)] at e;exact e
    have v3:IntKind.i64.wrap (48+(q:Int))=48+(q:Int):=IntWalk.i64_in _ (by omega);(have v4:IntKind.u8.wrap (48+(q:Int))=48+(q:Int):=by simp [IntKind.wrap,IntKind.signed,IntKind.bits];omega);(have hz : ¬9223372036854775807<(byte1 q).size+t.size:=by rw [byte1_size];omega);clear he h9;(go_wp2_with fail);go_ret;exact ⟨by rw [HE.out];rfl,HB.out.alloc HB.out.size _⟩
theorem tl1 (c:UInt8):(⟨#[c]⟩:ByteArray).toList = [c]:=by kernel_rfl
theorem one_byte {t:ByteArray} (h:t.size=1):t.toList = [t[0]]:=by
 obtain ⟨⟨l⟩⟩:=t
 match l,h with
 | [c],_=>exact tl1 c
def chB (d:Nat):ByteArray:=⟨#[UInt8.ofNat d]⟩
theorem chB_size (d:Nat):(chB d).size=1:=rfl
theorem convC (d:Nat) (h:d<256) (W:World) (g:Nat) (hc:W.cell? ⟨g,0,none⟩=some (.int .u8 (d:Int))):(convert 118 9 (.slice (some ⟨g,0,none⟩) 1 1)).run Tryz.prog W = .ok (.string (chB d)) W:=
 Lib.run_convert_whole (P:=Tryz.prog) W 118 5 9 Tryz.underlying118 Tryz.underlying5 Tryz.underlying9 g 0 (chB d) (fun i hi=>by
  (have:i=0:=by have:(chB d).size=1:=rfl;omega);subst this;rw [Nat.add_zero,hc];have e:(chB d)[0].toNat=d:=by show (UInt8.ofNat d).toNat=d;simp;omega
  rw [e]) 1
theorem nameV_none {s:Sym} {n:Int} (h:letV s=none):nameV s n=⟨#[]⟩:=by
 unfold nameV;split;rfl;rw [h]
theorem nameV_low {s:Sym} {n:Int} (h:n<1):nameV s n=⟨#[]⟩:=by unfold nameV;rw [if_pos h]
theorem letV_kind {s:Sym} (h:s.kind≠1):letV s=none:=by unfold letV;rw [if_neg (fun e=>h e.1)]
theorem letV_size {s:Sym} (h:s.text.size≠1):letV s=none:=by unfold letV;rw [if_neg (fun e=>h e.2.1)]
theorem letV_low {s:Sym} (h:s.text.size=1) (h2:s.text[0].toNat<65):letV s=none:=by
 unfold letV;rw [if_neg];rintro ⟨_,_,e,_⟩;rw [one_byte h] at e;simp at e;omega
theorem letV_high {s:Sym} (h:s.text.size=1) (h2:90<s.text[0].toNat):letV s=none:=by
 unfold letV;rw [if_neg];rintro ⟨_,_,_,e⟩;rw [one_byte h] at e;simp at e;omega
theorem nameV_yes {s:Sym} {k:Nat} (hk:s.kind=1) (h:s.text.size=1) (h1:65≤s.text[0].toNat) (h2:s.text[0].toNat≤90) (hn:1≤k) (hm:k<9223372036854775808):nameV s (k:Int)=chB (s.text[0].toNat+32)++decB k:=by
 have e:letV s=some s.text[0]:=by
  unfold letV;rw [if_pos ⟨hk,h,by rw [one_byte h];simpa using h1,by rw [one_byte h];simpa using h2⟩,one_byte h];rfl
 unfold nameV;rw [if_neg (by omega),e];simp only;rw [show (k:Int).toNat=k from rfl,decF_long hm];congr 1;unfold chB
 have e2:(s.text[0]'(by omega):UInt8) - (65:UInt8)+(97:UInt8)=UInt8.ofNat (s.text[0].toNat+32):=by
  apply UInt8.toNat_inj.1;rw [UInt8.toNat_add,UInt8.toNat_sub];simp;omega
 rw [e2]
theorem vname_is (s:Sym) (n:Int) (hn:n<9223372036854775808) (w:World):Calls Tryz.prog 14 #[.agg #[.int .i64 s.kind,.string s.text,.int .i64 s.n],.int .i64 n] w fun e w'=>e = .returned (.string (nameV s n))∧Below w.heap.size w w':=by
 have HA:=Lib.hid ((Below.refl w.heap.size w).alloc (Nat.le_refl _) (.cells #[.int .i64 s.kind,.string s.text,.int .i64 s.n] 23));obtain ⟨v,hv⟩ : ∃v,v=nameV s n:=⟨_,rfl⟩;rw [← hv];by_cases k1:s.kind=1
 case neg=>
  have HV:=Lib.hid (show v=⟨#[]⟩ from hv.trans (nameV_none (letV_kind k1)));(have e1:(s.kind != 1)=true:=by simp [k1]);clear hv k1;go_enter Tryz.func14,Tryz.ntmps14;go_wp2_with fail
  all_goals (go_ret;exact ⟨by rw [HV.out]<;>rfl,HA.out⟩)
 by_cases k2:s.text.size=1
 case neg=>
  have HV:=Lib.hid (show v=⟨#[]⟩ from hv.trans (nameV_none (letV_size k2)));(have e1:(s.kind != 1)=false:=by simp [k1]);(have e2:((s.text.size:Int) != 1)=true:=by simp;omega);clear hv k1;go_enter Tryz.func14,Tryz.ntmps14;go_wp2_with fail
  all_goals (go_ret;exact ⟨by rw [HV.out]<;>rfl,HA.out⟩)
 (have e1:(s.kind != 1)=false:=by simp [k1]);(have e2:((s.text.size:Int) != 1)=false:=by simp;omega);(have h0:0<s.text.size:=by omega);by_cases k3:s.text[0].toNat<65
 case pos=>
  have HV:=Lib.hid (show v=⟨#[]⟩ from hv.trans (nameV_none (letV_low k2 k3)));(have e3:decide ((s.text[0].toNat:Int)<65)=true:=by simp;omega);(have e4:(s.text[0].toNat:Int)<65:=by omega);clear hv k1;go_enter Tryz.func14,Tryz.ntmps14;go_wp2_with fail
  all_goals (go_ret;exact ⟨by rw [HV.out]<;>rfl,HA.out⟩)
 (have e3:decide ((s.text[0].toNat:Int)<65)=false:=by simp;omega);(have e4 : ¬(s.text[0].toNat:Int)<65:=by omega);by_cases k4:90<s.text[0].toNat
 case pos=>
  have HV:=Lib.hid (show v=⟨#[]⟩ from hv.trans (nameV_none (letV_high k2 k4)));(have e5:decide (90<(s.text[0].toNat:Int))=true:=by simp;omega);(have e6:90<(s.text[0].toNat:Int):=by omega);clear hv k1;go_enter Tryz.func14,Tryz.ntmps14;go_wp2_with fail
  all_goals (go_ret;exact ⟨by rw [HV.out]<;>rfl,HA.out⟩)
 (have e5:decide (90<(s.text[0].toNat:Int))=false:=by simp;omega);(have e6 : ¬90<(s.text[0].toNat:Int):=by omega);by_cases k5:n<1
 case pos=>
  have HV:=Lib.hid (show v=⟨#[]⟩ from hv.trans (nameV_low k5));(have e7:decide (n<1)=true:=by simpa using k5);clear hv k1;go_enter Tryz.func14,Tryz.ntmps14;go_wp2_with fail
  all_goals (go_ret;exact ⟨by rw [HV.out]<;>rfl,HA.out⟩)
 (have e7:decide (n<1)=false:=by simpa using k5);obtain ⟨k,hkn⟩ : ∃k:Nat,n=(k:Int):=⟨n.toNat,by omega⟩;have HKN:=Lib.hid hkn;have HV:=Lib.hid (show v=chB (s.text[0].toNat+32)++decB k from hv.trans (by rw [hkn];exact nameV_yes k1 k2 (by omega) (by omega) (by omega) (by omega)));obtain ⟨d,hd⟩ : ∃d,d=s.text[0].toNat+32:=⟨_,rfl⟩;rw [← hd] at HV;(have v3:IntKind.u8.wrap ((s.text[0].toNat:Int) - 65)=(s.text[0].toNat:Int) - 65:=by simp [IntKind.wrap,IntKind.signed,IntKind.bits];omega);(have v4:IntKind.u8.wrap ((s.text[0].toNat:Int) - 65+97)=(d:Int):=by simp [IntKind.wrap,IntKind.signed,IntKind.bits];omega);have HC:=Lib.hid (convC d (by omega));(have hz : ¬9223372036854775807<(chB d).size+(decB k).size:=by have:=decB_long (n:=k) (by omega);rw [chB_size];omega);have HDG:=Lib.hid (vdigits_is k (by omega));have HX:=Lib.hid (And.intro v3 (And.intro v4 hz));clear hv k1 k2 k3 k4 hd v3 v4 hz hkn;go_enter Tryz.func14,Tryz.ntmps14;(go_upto_region 3 with fail);obtain ⟨w1,hw1⟩ : ∃w1,w1=w.alloc (.cells #[.int .i64 s.kind,.string s.text,.int .i64 s.n] 23):=⟨_,rfl⟩;rw [← hw1] at HA;have HK:=Lib.hid (show Blk w1 w.heap.size 23 #[.int .i64 s.kind,.string s.text,.int .i64 s.n] by rw [hw1];exact Blk.new _ _ _);obtain ⟨c0,c1,c2⟩:=HK.out.c3;have cz:=HK.out.lt;rw [← hw1];obtain ⟨v3,v4,hz⟩:=HX.out;have hkn:=HKN.out;subst hkn;clear hw1 e1 e2 e3 e4 e5 e6 e7 HX HKN k5;refine wp_region_Pl (fun w9=>Below w1.heap.size w1 w9) [0,1,2,3,4,7,9,10] [1] (.fork [(0,0),(1,1),(2,0),(3,0),(4,0),(7,0)] 5 (.fork [] 6 (.fin [(8,2),(9,0),(10,0)]) 8 (.fin [(6,2),(9,0),(10,0)])) 8 (.fin [(5,2),(6,2),(9,0),(10,0)])) (by kernel_rfl) (by kernel_rfl) (by kernel_rfl) (fun KK hKK=>?_);simp only [wpPl,beside,List.filterMap_cons,List.filterMap_nil,List.getElem?_toArray,List.getElem?_cons_zero,List.getElem?_cons_succ,Option.map_some];(repeat ((first | (refine wpY_w ?_ (Or.inl ⟨by rfl,fun w9=>?_⟩) ?_;rotate_left 1;go_simp;with_reducible rfl) | (refine wpY_l ?_ ((Below.refl _ _).drew) (Or.inl ⟨by rfl,fun w9 hw9=>?_⟩) ?_;rotate_left 1;obtain ⟨hc9,hf9⟩:=bcell hw9;go_simp;with_reducible rfl) | refine wpY_w undef (Or.inr ⟨by rfl,rfl⟩) ?_ | refine wpY_l undef ((Below.refl _ _).drew) (Or.inr ⟨by rfl,rfl⟩) ?_);go_frame));refine wpY_nil ⟨?_,?_⟩
 · refine wpOp_cs rfl (fun K9 hK9=>?_)
   go_simp;obtain ⟨V2,hV⟩ : ∃V,V=(w1.alloc (.cells #[.int .u8 (d:Int)] 5)).drew:=⟨_,rfl⟩;(have hb2:Below w1.heap.size w1 V2:=by rw [hV];exact ((Below.refl w1.heap.size w1).alloc (Nat.le_refl _) _).drew);(have KA:Blk V2 w1.heap.size 5 #[.int .u8 (d:Int)]:=by rw [hV];exact Blk.new _ _ _);have KAc:=KA.c1;have KAH:=Lib.hid KA;rw [← hV];clear hV KA;have hc:=HC.out V2 _ KAc;refine hK9 _ _ (fun _=>hb2) ?_;clear hK9 K9;(try go_frame);(try simp only [beside,List.filterMap_nil]);refine wpY_nil ⟨?_,?_⟩
   · refine wpOp_cs rfl (fun K9 hK9=>?_)
     go_simp;refine hK9 _ _ (fun _=>hb2) ?_;clear hK9 K9;(try go_frame);(try simp only [beside,List.filterMap_nil]);refine wpY_es (fun K9 hK9=>?_);go_simp;refine (HDG.out _).mono ?_;rintro e V3 ⟨rfl,hb⟩;have hb3:Below w1.heap.size w1 V3:=(hb2).trans (hb.mono (hb2).size);have hc:=HC.out V3 _ (KAH.out.new_ hb).c1;clear hb;refine hK9 _ _ (hb3) ?_;clear hK9 K9;(try go_frame);(repeat ((first | (refine wpY_w ?_ (Or.inl ⟨by rfl,fun w9=>?_⟩) ?_;rotate_left 1;go_simp;with_reducible rfl) | (refine wpY_l ?_ ((Below.refl _ _).drew) (Or.inl ⟨by rfl,fun w9 hw9=>?_⟩) ?_;rotate_left 1;obtain ⟨hc9,hf9⟩:=bcell hw9;go_simp;with_reducible rfl) | refine wpY_w undef (Or.inr ⟨by rfl,rfl⟩) ?_ | refine wpY_l undef ((Below.refl _ _).drew) (Or.inr ⟨by rfl,rfl⟩) ?_);go_frame));refine wpY_nil ?_;simp only [OnlyN_normal];refine hKK _ _ ?_;clear hKK KK;clear c0 c1 c2;(go_wp2_with fail);go_ret;exact ⟨by rw [HV.out]<;>rfl,HA.out.trans ((hb3).mono HA.out.size)⟩
   · refine wpOp_cs rfl (fun K9 hK9=>?_)
     go_simp;refine (HDG.out _).mono ?_;rintro e V3 ⟨rfl,hb⟩;have hb3:Below w1.heap.size w1 V3:=(hb2).trans (hb.mono (hb2).size);have hc:=HC.out V3 _ (KAH.out.new_ hb).c1;clear hb;refine hK9 _ _ (fun _=>hb3) ?_;clear hK9 K9;(try go_frame);(try simp only [beside,List.filterMap_nil]);refine wpY_es (fun K9 hK9=>?_);go_simp;refine hK9 _ _ (hb3) ?_;clear hK9 K9;(try go_frame);(repeat ((first | (refine wpY_w ?_ (Or.inl ⟨by rfl,fun w9=>?_⟩) ?_;rotate_left 1;go_simp;with_reducible rfl) | (refine wpY_l ?_ ((Below.refl _ _).drew) (Or.inl ⟨by rfl,fun w9 hw9=>?_⟩) ?_;rotate_left 1;obtain ⟨hc9,hf9⟩:=bcell hw9;go_simp;with_reducible rfl) | refine wpY_w undef (Or.inr ⟨by rfl,rfl⟩) ?_ | refine wpY_l undef ((Below.refl _ _).drew) (Or.inr ⟨by rfl,rfl⟩) ?_);go_frame));refine wpY_nil ?_;simp only [OnlyN_normal];refine hKK _ _ ?_;clear hKK KK;clear c0 c1 c2;(go_wp2_with fail);go_ret;exact ⟨by rw [HV.out]<;>rfl,HA.out.trans ((hb3).mono HA.out.size)⟩
 · refine wpOp_cs rfl (fun K9 hK9=>?_)
   go_simp;refine (HDG.out _).mono ?_;rintro e V2 ⟨rfl,hb⟩;have hb2:Below w1.heap.size w1 V2:=((Below.refl w1.heap.size w1).drew).trans (hb.mono ((Below.refl w1.heap.size w1).drew).size);clear hb;refine hK9 _ _ (fun _=>hb2) ?_;clear hK9 K9;(try go_frame);(try simp only [beside,List.filterMap_nil]);refine wpY_es (fun K9 hK9=>?_);go_simp;obtain ⟨V3,hV⟩ : ∃V,V=V2.alloc (.cells #[.int .u8 (d:Int)] 5):=⟨_,rfl⟩;(have hb3:Below w1.heap.size w1 V3:=by rw [hV];exact (hb2).alloc (hb2).size _);(have KA:Blk V3 V2.heap.size 5 #[.int .u8 (d:Int)]:=by rw [hV];exact Blk.new _ _ _);have KAc:=KA.c1;have KAH:=Lib.hid KA;rw [← hV];clear hV KA;have hc:=HC.out V3 _ KAc;refine hK9 _ _ (hb3) ?_;clear hK9 K9;(try go_frame);refine wpY_es (fun K9 hK9=>?_);go_simp;refine hK9 _ _ (hb3) ?_;clear hK9 K9;(try go_frame);(repeat ((first | (refine wpY_w ?_ (Or.inl ⟨by rfl,fun w9=>?_⟩) ?_;rotate_left 1;go_simp;with_reducible rfl) | (refine wpY_l ?_ ((Below.refl _ _).drew) (Or.inl ⟨by rfl,fun w9 hw9=>?_⟩) ?_;rotate_left 1;obtain ⟨hc9,hf9⟩:=bcell hw9;go_simp;with_reducible rfl) | refine wpY_w undef (Or.inr ⟨by rfl,rfl⟩) ?_ | refine wpY_l undef ((Below.refl _ _).drew) (Or.inr ⟨by rfl,rfl⟩) ?_);go_frame));refine wpY_nil ?_;simp only [OnlyN_normal];refine hKK _ _ ?_;clear hKK KK;clear c0 c1 c2;(go_wp2_with fail);go_ret;exact ⟨by rw [HV.out]<;>rfl,HA.out.trans ((hb3).mono HA.out.size)⟩
end
end Go.Proofs.YtldndkngpdfpfaaGreat
