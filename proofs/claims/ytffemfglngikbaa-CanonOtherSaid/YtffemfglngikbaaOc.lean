/-
  Texts put together: PutPgW, MiscPgW, NewPgW, EagerT, BkStrG, BkStr, SymWord, SymDigits.
-/
import Derived.Test.YtffemfglngikbaaOb
import Derived.Test.YtffemfglngikbaaOa
import Derived.Deep.Cut
import Derived.Lib.SlBytesRow
import Derived.Maps.RangeWalk
namespace Go.Proofs.Ytffemfglngikbaa
open Go.RowKit
def PutPostPgW (w:World) (b:Nat) (sn:Bool) (A:Option Addr) (l:List PgW) (x:PgW) (e:Ending) (w':World):Prop:=
 e = .returned (.bool (!has cmpPgW l x))∧∃sn' A' c',PgWSet w' b sn' A' c' (put cmpPgW l x)∧Fr (SetMod b sn A) w w'∧Moved w sn A sn' A'
set_option maxRecDepth 100000 in
set_option maxHeartbeats 1000000 in
theorem put_there_PgW (b c:Nat) (sn:Bool) (A:Option Addr) (l:List PgW) (x:PgW) (w:World) (hS:PgWSet w b sn A c l) (hs:Srt cmpPgW l) (hl:(l.length:Int)≤100000000) (hh:has cmpPgW l x=true) :
 Calls Try.prog 64 #[.pointer (some ⟨b,0,none⟩),.agg #[.string x.kk,.string x.v]] w (PutPostPgW w b sn A l x):=by
 have HS:=Lib.hid hS
 have HO:=Lib.hid hs
 clear hS hs
 go_enter Try.func64,Try.ntmps64
 go_wp2_with fail
 refine (find_PgW b c sn A l x _ (HS.out.new_ ((Below.refl _ _).alloc (Nat.le_refl _) _)) HO.out (by omega)).mono ?_
 rintro e w1 ⟨rfl,hb1⟩
 go_wp2_with fail
 go_ret
 refine ⟨by rw [hh];rfl,sn,A,c,?_,Fr.of_new (((Below.refl _ _).alloc (Nat.le_refl _) _).trans (hb1.mono (by simp))),.inl ⟨rfl,rfl⟩⟩
 rw [put_has hh]
 exact HS.out.new_ (((Below.refl _ _).alloc (Nat.le_refl _) _).trans (hb1.mono (by simp)))
set_option maxRecDepth 100000 in
set_option maxHeartbeats 4000000 in
theorem put_new_PgW (b c:Nat) (sn:Bool) (A:Option Addr) (l:List PgW) (x:PgW) (w:World) (hS:PgWSet w b sn A c l) (hs:Srt cmpPgW l) (hl:(l.length:Int)≤100000000) (hh:has cmpPgW l x=false) :
 Calls Try.prog 64 #[.pointer (some ⟨b,0,none⟩),.agg #[.string x.kk,.string x.v]] w (PutPostPgW w b sn A l x):=by
 obtain ⟨i0,hi,hz0,hz1,hz2⟩:=info_parts info_PgW
 have HS:=Lib.hid hS
 have HO:=Lib.hid hs
 have hb:=hS.lt
 clear hS hs
 have hrk:=rank_le (cmp:=cmpPgW) l x
 go_enter Try.func64,Try.ntmps64
 go_wp2_with fail
 have hSa:=HS.out.new_ ((Below.refl w.heap.size w).alloc (Nat.le_refl _) (.cells #[Value.string x.kk,Value.string x.v] 104))
 have HSa:=Lib.hid hSa
 clear hSa
 refine (find_PgW b c sn A l x _ HSa.out HO.out (by omega)).mono ?_
 rintro e w1 ⟨rfl,hb1⟩
 have HS1:=Lib.hid (HSa.out.new_ hb1)
 have hsz1:w.heap.size+1≤w1.heap.size:=by have:=hb1.size;(try simp at this);omega
 have y0:=(hb1.cell (p:=⟨w.heap.size,0,none⟩) (by simp)).trans ((Blk.new w 104 #[Value.string x.kk,Value.string x.v]).cell 0)
 have y1:=(hb1.cell (p:=⟨w.heap.size,1,none⟩) (by simp)).trans ((Blk.new w 104 #[Value.string x.kk,Value.string x.v]).cell 1)
 have HB1:=Lib.hid hb1
 clear hb1
 go_wp2_with fail
 refine (own_PgW b c sn A l _ HS1.out (by omega)).mono ?_
 rintro e w2 ⟨rfl,A1,c1,hS2,hF2,hM2⟩
 have hsz2:w1.heap.size≤w2.heap.size:=hF2.size
 have x0:w2.cell? ⟨w.heap.size,0,none⟩=some (.string x.kk):=(hF2.cell (p:=⟨w.heap.size,0,none⟩) (by dsimp only;omega) (by dsimp only;omega)).trans y0
 have x1:w2.cell? ⟨w.heap.size,1,none⟩=some (.string x.v):=(hF2.cell (p:=⟨w.heap.size,1,none⟩) (by dsimp only;omega) (by dsimp only;omega)).trans y1
 have s0:=hS2.cell0
 have f0:=hS2.blk.frozen 0
 have hb2:b<w2.heap.size:=by omega
 have hk2:w.heap.size<w2.heap.size:=by omega
 have HS2:=Lib.hid hS2
 have HF2:=Lib.hid hF2
 have HM2:=Lib.hid hM2
 clear hS2 hF2 hM2 y0 y1
 go_wp2_with fail
 refine wp_region_E (fun w9=>Below w2.heap.size w2 w9) [(0,0),(1,0),(2,0),(3,0),(4,1),(5,1),(6,2),(7,2),(8,0),(9,0),(10,2)] (by kernel_rfl) (by kernel_rfl) (fun KK hKK=>?_)
 simp only [beside,List.filterMap_cons,List.filterMap_nil,List.getElem?_toArray,List.getElem?_cons_zero,List.getElem?_cons_succ,Option.map_some]
 repeat ((first | (refine wpX_w ?_ (Or.inl ⟨by rfl,fun w9=>?_⟩) ?_;rotate_left 1;go_simp;with_reducible rfl) | (refine wpX_l ?_ (((Below.refl _ _).drew)) (Or.inl ⟨by rfl,fun w9 hw9=>?_⟩) ?_;rotate_left 1;obtain ⟨hc9,hf9⟩:=bcell hw9;go_simp;with_reducible rfl) | refine wpX_w undef (Or.inr ⟨by rfl,rfl⟩) ?_ | refine wpX_l undef (((Below.refl _ _).drew)) (Or.inr ⟨by rfl,rfl⟩) ?_);go_frame)
 refine wpX_es (fun K9 hK9=>?_)
 go_simp
 refine hK9 _ _ (((Below.refl _ _).drew).alloc (Nat.le_refl _) _) ?_
 clear hK9 K9
 refine wpX_e (by kernel_rfl) (fun K9 hK9=>?_)
 refine step_append_src _ (by rfl) _ _ _ (by rfl) 104 i0 _ 2 32 Try.underlying119 hi hz0 hz1 hz2 rfl (by omega) _ l.length (l.flatMap PgW.cells) (by rfl) (ownsRow_new HS2.out.row (((Below.refl _ _).drew).alloc (Nat.le_refl _) _)) (some ⟨w2.heap.size,0,none⟩) 1 1 (PgW.cells x) (by rfl) (by rfl)
  (fun _=>⟨_,rfl,World.news_of_block (heap_alloc_new _ _)⟩) (PgW.one x) (by unfold maxLen;omega) (by omega) ?_
 intro v2 w3 hown hgr hnil hat
 refine hK9 _ _ ?_
 clear hK9 K9
 obtain ⟨g,c2,rfl⟩ : ∃g c2,v2 = .slice (some ⟨g,0,none⟩) (l.length+1) c2:=by
  rcases ownsRow_form hown with ⟨_,h0,_⟩ | ⟨g,c2,h,_⟩
  · omega
  · exact ⟨g,c2,h⟩
 have HXN:(Value.slice A1 l.length c1).ownBlock≠some w.heap.size:=by
  intro h
  rcases HM2.out with ⟨hsn,hA⟩ | ⟨_,g2,hg2,hA⟩
  · rcases A1 with _ | a1
    · cases h
    · have h1:=HS.out.row_lt _ hA.symm
      simp only [Value.ownBlock,Option.some.injEq] at h
      omega
  · subst hA
    simp only [Value.ownBlock,Option.some.injEq] at h
    omega
 have HB3':=(HS2.out.blk.drew.alloc (.cells #[Value.string x.kk,Value.string x.v] 104)).grown hgr (own_blk_ne HS2.out.row HS2.out.blk (by decide))
 have c0:=(HB3'.cell 0).trans rfl
 have z0:=HB3'.frozen 0
 have HB3:=Lib.hid HB3'
 have HOWN:=Lib.hid hown
 have HGR:=Lib.hid hgr
 clear HB3' hown hgr
 repeat ((first | (refine wpX_w ?_ (Or.inl ⟨by rfl,fun w9=>?_⟩) ?_;rotate_left 1;go_simp;with_reducible rfl) | (refine wpX_l ?_ (((Below.refl _ _).drew).alloc (Nat.le_refl _) _) (Or.inl ⟨by rfl,fun w9 hw9=>?_⟩) ?_;rotate_left 1;obtain ⟨hc9,hf9⟩:=bcell hw9;go_simp;with_reducible rfl) | refine wpX_w undef (Or.inr ⟨by rfl,rfl⟩) ?_ | refine wpX_l undef (((Below.refl _ _).drew).alloc (Nat.le_refl _) _) (Or.inr ⟨by rfl,rfl⟩) ?_);go_frame)
 refine wpX_e (by kernel_rfl) (fun K9 hK9=>?_)
 go_simp
 refine hK9 _ _ ?_
 clear hK9 K9
 refine wpX_nil ?_
 simp only [OnlyN_normal]
 refine hKK _ _ ?_
 clear hKK KK
 have hlg:((l.length+1:Nat):Int)=(l.length:Int)+1:=by omega
 have hG:(SetMod b sn A g∨w.heap.size≤g)∧Moved w sn A false (some ⟨g,0,none⟩)∧g≠w.heap.size∧g≠b:=by
  rcases hat with h | h
  · rcases A1 with _ | a1
    · simp [Value.ownBlock] at h
    · obtain ⟨A',c',hv,_,_,hz⟩:=own_form2 HS2.out.row
      injection hv with hv _ _
      obtain ⟨g',rfl⟩:=hz a1 hv.symm
      have hgg:g'=g:=by simpa [Value.ownBlock] using h.symm
      subst hgg
      have hne:g'≠b:=HS2.out.row_ne (by decide) _ rfl
      rcases HM2.out with ⟨hsn,hA⟩ | ⟨_,g2,hg2,hA⟩
      · have h1:=HS.out.row_lt _ hA.symm
        exact ⟨.inl (.inr ⟨hsn.symm,_,hA.symm,rfl⟩),.inl ⟨hsn,hA⟩,by dsimp only at h1;omega,hne⟩
      · injection hA with hA
        injection hA with hA
        subst hA
        exact ⟨.inr (by omega),.inr ⟨rfl,_,by omega,rfl⟩,by omega,hne⟩
  · have hgg:g=w2.heap.size+1:=by simpa [Value.ownBlock] using h
    subst hgg
    exact ⟨.inr (by omega),.inr ⟨rfl,_,by omega,rfl⟩,by omega,by omega⟩
 obtain ⟨hgM,hgMv,hgk1,hgb⟩:=hG
 obtain ⟨w4,hw4⟩ : ∃w4,w4=w3.setCell ⟨b,0,none⟩ (.slice (some ⟨g,0,none⟩) (l.length+1) c2):=⟨_,rfl⟩
 have hB4:Blk w4 b 121 #[.slice (some ⟨g,0,none⟩) (l.length+1) c2,.bool false]:=by rw [hw4];exact HB3.out.set_ 0 _
 have hR4:w4.ownsRow 0 104 2 (.slice (some ⟨g,0,none⟩) (l.length+1) c2) (l.length+1) ((shiftAt l x l.length).flatMap PgW.cells):=by
  rw [hw4,shiftAt_start]
  refine ownsRow_setCell_other (a:=⟨b,0,none⟩) ?_ (by simpa [Value.ownBlock] using hgb) _
  rw [List.flatMap_append,List.flatMap_singleton]
  exact HOWN.out
 have hF4:Fr (SetMod b sn A) w w4:=by
  rw [hw4]
  have h1:Fr (SetMod b sn A) w w1:=Fr.of_new (((Below.refl _ _).alloc (Nat.le_refl _) _).trans (HB1.out.mono (by simp)))
  have h2:Fr (SetMod b sn A) w w2:=h1.trans (HF2.out.mono (fun k _ h=>.inl h))
  refine ((h2.drew.alloc _).grown HGR.out (fun k hk=>?_)).setCell (p:=⟨b,0,none⟩) (.inl (.inl rfl)) _
  rcases A1 with _ | a1
  · cases hk
  · simp only [Value.ownBlock,Option.some.injEq] at hk
    subst hk
    rcases HM2.out with ⟨hsn,hA⟩ | ⟨_,g',hg',hA⟩
    · left;right;exact ⟨hsn.symm,a1,hA.symm,rfl⟩
    · injection hA with hA
      subst hA
      right;dsimp only;omega
 have z0:w4.cell? ⟨w.heap.size,0,none⟩=some (.string x.kk):=by
  rw [hw4,World.cell?_setCell_other _ _ _ _ (by intro h;injection h;omega)]
  refine HGR.out.cell ((World.cell?_alloc_lt w2.drew _ ⟨w.heap.size,0,none⟩ hk2).trans x0) ?_
  intro h
  exact HXN (by simpa using h.symm)
 have z1:w4.cell? ⟨w.heap.size,1,none⟩=some (.string x.v):=by
  rw [hw4,World.cell?_setCell_other _ _ _ _ (by intro h;injection h;omega)]
  refine HGR.out.cell ((World.cell?_alloc_lt w2.drew _ ⟨w.heap.size,1,none⟩ hk2).trans x1) ?_
  intro h
  exact HXN (by simpa using h.symm)
 have hk4:w.heap.size<w4.heap.size:=by rw [hw4];have:=HGR.out.size;simp at this ⊢;omega
 rw [← hw4]
 have HgM:=Lib.hid hgM
 have HgMv:=Lib.hid hgMv
 have HB4:=Lib.hid hB4
 have HR4:=Lib.hid hR4
 have HF4:=Lib.hid hF4
 have s4:=hB4.cell 0
 have s4':w4.cell? ⟨b,0,none⟩=some (.slice (some ⟨g,0,none⟩) (l.length+1) c2):=s4
 clear s4 hw4 hB4 hR4 hF4 hat hgM hgMv hnil x0 x1 s0 f0
 go_wp2_with fail
 go_loopw [7] (fun s wr=>∃i:Nat,s = .int .i64 i∧rank cmpPgW l x≤i∧i≤l.length∧wr.ownsRow 0 104 2 (.slice (some ⟨g,0,none⟩) (l.length+1) c2) (l.length+1) ((shiftAt l x i).flatMap PgW.cells)∧Fr (· = g) w4 wr) (fun s wr=>(intOf s).toNat)
 case atStart=>exact ⟨l.length,by go_num,hrk,Nat.le_refl _,HR4.out,Fr.refl _ _⟩
 case round=>
  obtain ⟨i,rfl,hi1,hi2,hown,hfr⟩:=hrel
  have hgw:g<wr.heap.size:=(hown.lt g rfl).2
  have r0:wr.cell? ⟨b,0,none⟩=some (.slice (some ⟨g,0,none⟩) (l.length+1) c2):=(hfr.cell (p:=⟨b,0,none⟩) HB4.out.lt (fun h=>hgb h.symm)).trans s4'
  have fz : ∀o,wr.frozen? ⟨g,o,none⟩=false:=fun o=>hown.frozenAt o
  have HOW:=Lib.hid hown
  have HFR:=Lib.hid hfr
  clear hown hfr
  by_cases hlt:rank cmpPgW l x<i
  · obtain ⟨j,rfl⟩ : ∃j,i=j+1:=⟨i - 1,by omega⟩
    have hj:j<l.length:=by omega
    have hrd:=ownsRow_rd (A:=some ⟨g,0,none⟩) (c:=c2) (l:=shiftAt l x (j+1)) PgW.cells_length (by rw [shiftAt_length l x hi2];exact HOW.out)
    obtain ⟨g',o',hgo,_,hcell⟩:=hrd.at_ (k:=j) (by rw [shiftAt_length l x hi2];omega)
    injection hgo with hgo
    injection hgo with hg1 hg2
    subst hg1;subst hg2
    rw [shiftAt_read l x hj] at hcell
    have q0:wr.cell? ⟨g,j*2,none⟩=some (.string l[j].kk):=by simpa using hcell 0 _ rfl
    have q1:wr.cell? ⟨g,j*2+1,none⟩=some (.string l[j].v):=by simpa using hcell 1 _ rfl
    have rmj:Room wr g 104 (c2*2)∧l.length+1≤c2:=by
     rcases ownsRow_form HOW.out with ⟨hv,_⟩ | ⟨g',cap,hv,hn,_,hr,_⟩
     · cases hv
     · injection hv with hA _ hc
       injection hA with hA
       injection hA with hA
       subst hA;subst hc
       exact ⟨hr,hn⟩
    obtain ⟨hrm,hcap⟩:=rmj
    obtain ⟨u0,t0⟩:=hrm.cell (i:=(j+1)*2) (by omega)
    obtain ⟨u1,t1⟩:=hrm.cell (i:=(j+1)*2+1) (by omega)
    have b0:(0:Int)≤(j:Int)+1:=by omega
    have b1:(0:Int)≤(j:Int):=by omega
    have b4:(j:Int)<(l.length:Int):=by omega
    have b2:(j:Int)<(l.length:Int)+1:=by omega
    have b3:(j:Int)+1<(l.length:Int)+1:=by omega
    have w1:IntKind.i64.wrap ((j:Int))=(j:Int):=IntWalk.i64_in _ (by omega)
    have w2:IntKind.i64.wrap ((j:Int)+1 - 1)=(j:Int):=by rw [IntWalk.i64_in _ (by omega)];omega
    clear hcell hrd hrm
    obtain ⟨y,hy⟩ : ∃y,y=l[j]:=⟨_,rfl⟩
    rw [← hy] at q0 q1
    have HY:=Lib.hid hy
    have hbw:b<wr.heap.size:=World.block_lt_of_cell? wr _ r0
    clear hy
    go_wp2_with fail
    refine wp_region_E (fun w9=>Below wr.heap.size wr w9) [(0,0),(1,0),(2,0),(3,1),(4,0),(5,0),(6,0),(7,0),(8,1),(9,0),(10,0),(11,0),(12,1),(13,0),(14,2)] (by kernel_rfl) (by kernel_rfl) (fun KK hKK=>?_)
    simp only [beside,List.filterMap_cons,List.filterMap_nil,List.getElem?_toArray,List.getElem?_cons_zero,List.getElem?_cons_succ,Option.map_some]
    repeat ((first | (refine wpX_w ?_ (Or.inl ⟨by rfl,fun w9=>?_⟩) ?_;rotate_left 1;go_simp;with_reducible rfl) | (refine wpX_l ?_ (((Below.refl _ _).drew)) (Or.inl ⟨by rfl,fun w9 hw9=>?_⟩) ?_;rotate_left 1;obtain ⟨hc9,hf9⟩:=bcell hw9;go_simp;with_reducible rfl) | refine wpX_w undef (Or.inr ⟨by rfl,rfl⟩) ?_ | refine wpX_l undef (((Below.refl _ _).drew)) (Or.inr ⟨by rfl,rfl⟩) ?_);go_frame)
    refine wpX_e (by kernel_rfl) (fun K9 hK9=>?_)
    go_simp
    refine hK9 _ _ ?_
    clear hK9 K9
    refine wpX_nil ?_
    simp only [OnlyN_normal]
    refine hKK _ _ ?_
    clear hKK KK
    go_wp2_with fail
    go_roundw
    case rel=>
     refine ⟨j,by go_num,by omega,by omega,?_,Fr.drew (((HFR.out).setCell (p:=⟨g,(j+1)*2,none⟩) (.inl rfl) (_)).setCell (p:=⟨g,(j+1)*2+1,none⟩) (.inl rfl) (_))⟩
     have hst:=((((HOW.out).stored ((j+1)*2) (.string y.kk)).1).stored ((j+1)*2+1) (.string y.v)).1
     have he:setAll ((shiftAt l x (j+1)).flatMap PgW.cells) ((j+1)*2) (PgW.cells y)=(shiftAt l x j).flatMap PgW.cells:=by
      rw [flat_set PgW.cells_length (by omega) _ (j+1) (by rw [shiftAt_length l x hi2];omega),HY.out,shiftAt_step l x hj]
     rw [← he]
     exact hst
    case measure=>simp [intOf]<;>omega
  · obtain rfl:i=rank cmpPgW l x:=by omega
    have rmj:Room wr g 104 (c2*2)∧l.length+1≤c2:=by
     rcases ownsRow_form HOW.out with ⟨hv,_⟩ | ⟨g',cap,hv,hn,_,hr,_⟩
     · cases hv
     · injection hv with hA _ hc
       injection hA with hA
       injection hA with hA
       subst hA;subst hc
       exact ⟨hr,hn⟩
    obtain ⟨hrm,hcap⟩:=rmj
    obtain ⟨k,hk⟩ : ∃k,k=rank cmpPgW l x:=⟨_,rfl⟩
    rw [← hk] at hi2 hlt ⊢
    obtain ⟨u0,t0⟩:=hrm.cell (i:=k*2) (by omega)
    obtain ⟨u1,t1⟩:=hrm.cell (i:=k*2+1) (by omega)
    have x0:=(HFR.out.cell (p:=⟨w.heap.size,0,none⟩) hk4 (fun h=>hgk1 h.symm)).trans z0
    have x1:=(HFR.out.cell (p:=⟨w.heap.size,1,none⟩) hk4 (fun h=>hgk1 h.symm)).trans z1
    have b1:(0:Int)≤(k:Int):=by omega
    have b2:(k:Int)<(l.length:Int)+1:=by omega
    have HK:=Lib.hid hk
    have hkw:w.heap.size<wr.heap.size:=by have:=HFR.out.size;omega
    have hbw:b<wr.heap.size:=World.block_lt_of_cell? wr _ r0
    clear hrm hk z0 z1
    go_wp2_with fail
    refine wp_region_E (fun w9=>Below wr.heap.size wr w9) [(0,0),(1,0),(2,0),(3,1),(4,0),(5,1),(6,0),(7,2)] (by kernel_rfl) (by kernel_rfl) (fun KK hKK=>?_)
    simp only [beside,List.filterMap_cons,List.filterMap_nil,List.getElem?_toArray,List.getElem?_cons_zero,List.getElem?_cons_succ,Option.map_some]
    repeat ((first | (refine wpX_w ?_ (Or.inl ⟨by rfl,fun w9=>?_⟩) ?_;rotate_left 1;go_simp;with_reducible rfl) | (refine wpX_l ?_ (((Below.refl _ _).drew)) (Or.inl ⟨by rfl,fun w9 hw9=>?_⟩) ?_;rotate_left 1;obtain ⟨hc9,hf9⟩:=bcell hw9;go_simp;with_reducible rfl) | refine wpX_w undef (Or.inr ⟨by rfl,rfl⟩) ?_ | refine wpX_l undef (((Below.refl _ _).drew)) (Or.inr ⟨by rfl,rfl⟩) ?_);go_frame)
    refine wpX_e (by kernel_rfl) (fun K9 hK9=>?_)
    go_simp
    refine hK9 _ _ ?_
    clear hK9 K9
    refine wpX_nil ?_
    simp only [OnlyN_normal]
    refine hKK _ _ ?_
    clear hKK KK
    go_wp2_with fail
    go_ret
    have HOWk:=HOW.out
    rw [← HK.out] at HOWk
    have hst:=((((HOWk).stored (k*2) (.string x.kk)).1).stored (k*2+1) (.string x.v)).1
    have he:setAll ((shiftAt l x k).flatMap PgW.cells) (k*2) (PgW.cells x)=(put cmpPgW l x).flatMap PgW.cells:=by
     rw [flat_set PgW.cells_length (by omega) _ k (by rw [shiftAt_length l x hi2];omega),shiftAt_end l x hi2,put_eq tc_pgw HO.out hh,HK.out]
    have hln:=length_put tc_pgw HO.out hh
    refine ⟨by rw [hh];rfl,false,some ⟨g,0,none⟩,c2,⟨?_,?_⟩,?_,?_⟩
    · rw [hln]
      exact ((HB4.out.fr HFR.out (fun h=>hgb h.symm)).far (p:=⟨g,k*2,none⟩) (fun h=>hgb h.symm) _).far (p:=⟨g,k*2+1,none⟩) (fun h=>hgb h.symm) _
    · rw [hln,← he]
      exact hst
    · exact HF4.out.into (Fr.drew (((HFR.out).setCell (p:=⟨g,k*2,none⟩) (.inl rfl) (_)).setCell (p:=⟨g,k*2+1,none⟩) (.inl rfl) (_))) (fun k hk=>by subst hk;exact HgM.out)
    · exact HgMv.out
theorem put_PgW (b c:Nat) (sn:Bool) (A:Option Addr) (l:List PgW) (x:PgW) (w:World) (hS:PgWSet w b sn A c l) (hs:Srt cmpPgW l) (hl:(l.length:Int)≤100000000) :
 Calls Try.prog 64 #[.pointer (some ⟨b,0,none⟩),.agg #[.string x.kk,.string x.v]] w (PutPostPgW w b sn A l x):=by
 cases hh:has cmpPgW l x
 · exact put_new_PgW b c sn A l x w hS hs hl hh
 · exact put_there_PgW b c sn A l x w hS hs hl hh
end Go.Proofs.Ytffemfglngikbaa
namespace Go.Proofs.Ytffemfglngikbaa
open Go.RowKit
set_option maxHeartbeats 400000 in
theorem len_PgW (b c:Nat) (sn:Bool) (A:Option Addr) (l:List PgW) (w:World) (hS:PgWSet w b sn A c l) :
 Calls Try.prog 66 #[.pointer (some ⟨b,0,none⟩)] w fun e w'=>e = .returned (.int .i64 l.length)∧w=w':=by
 have s0:=hS.cell0
 clear hS
 go_enter Try.func66,Try.ntmps66
 go_wp2
 go_ret
 exact ⟨rfl,rfl⟩
set_option maxRecDepth 100000 in
set_option maxHeartbeats 1000000 in
theorem get_no_PgW (b c:Nat) (sn:Bool) (A:Option Addr) (l:List PgW) (x:PgW) (w:World) (hS:PgWSet w b sn A c l) (hs:Srt cmpPgW l) (hl:(l.length:Int)≤1000000000) (hh:has cmpPgW l x=false) :
 Calls Try.prog 62 #[.pointer (some ⟨b,0,none⟩),.agg #[.string x.kk,.string x.v]] w fun e w'=>e = .returned (.tuple #[.agg #[.string ⟨#[]⟩,.string ⟨#[]⟩],.bool false])∧Below w.heap.size w w':=by
 have HS:=Lib.hid hS
 have HO:=Lib.hid hs
 clear hS hs
 go_enter Try.func62,Try.ntmps62
 go_wp2_with fail
 refine (find_PgW b c sn A l x _ (HS.out.new_ ((((Below.refl _ _).alloc (Nat.le_refl _) _).alloc (by simp) _).alloc (by simp;omega) _)) HO.out (by omega)).mono ?_
 rintro e w1 ⟨rfl,hb1⟩
 obtain ⟨hc1,hf1⟩:=bcell hb1
 have hz1:w.heap.size+2<w1.heap.size:=by have:=hb1.size;simp at this;omega
 have HB:=Lib.hid ((((((Below.refl w.heap.size w).alloc (Nat.le_refl _) _).alloc (by simp) _).alloc (by simp;omega) _)).trans (hb1.mono (by simp;omega)))
 clear hb1
 go_wp2_with fail
 exact bodyPost_ret (v:=.tuple #[.agg #[.string ⟨#[]⟩,.string ⟨#[]⟩],.bool false]) (by simp [results,Try.results62,go_sem,hc1]) rfl ⟨rfl,by (repeat (first | exact Below.refl _ _ | exact HB.out | refine Below.drew ?_ | refine Below.al ?_ _ | refine Below.sc ?_ _))⟩
set_option maxRecDepth 100000 in
set_option maxHeartbeats 1000000 in
theorem get_is_PgW (b c:Nat) (sn:Bool) (A:Option Addr) (l:List PgW) (x y:PgW) (w:World) (hS:PgWSet w b sn A c l) (hs:Srt cmpPgW l) (hl:(l.length:Int)≤1000000000) (hh:has cmpPgW l x=true) (hy:l[rank cmpPgW l x]? = some y) :
 Calls Try.prog 62 #[.pointer (some ⟨b,0,none⟩),.agg #[.string x.kk,.string x.v]] w fun e w'=>e = .returned (.tuple #[.agg #[.string y.kk,.string y.v],.bool true])∧Below w.heap.size w w':=by
 have HS:=Lib.hid hS
 have HO:=Lib.hid hs
 obtain ⟨hrk,hye⟩:=List.getElem?_eq_some_iff.1 hy
 have hrd:=hS.rd PgW.cells_length
 have s0:=hS.cell0
 have hb:=hS.lt
 clear hS hs hy
 obtain ⟨g,off,rfl,hgs,hcell⟩:=hrd.at_ hrk
 rw [hye] at hcell
 obtain ⟨k,hk⟩ : ∃k,k=rank cmpPgW l x:=⟨_,rfl⟩
 rw [← hk] at hcell hrk
 have q0:w.cell? ⟨g,off+k*2,none⟩=some (.string y.kk):=by simpa using hcell 0 _ rfl
 have q1:w.cell? ⟨g,off+k*2+1,none⟩=some (.string y.v):=by simpa using hcell 1 _ rfl
 have b1:(0:Int)≤(k:Int):=by omega
 have b2:(k:Int)<(l.length:Int):=by omega
 have HK:=Lib.hid hk
 clear hcell hrd hye hk
 go_enter Try.func62,Try.ntmps62
 go_wp2_with fail
 refine (find_PgW b c sn _ l x _ (HS.out.new_ ((((Below.refl _ _).alloc (Nat.le_refl _) _).alloc (by simp) _).alloc (by simp;omega) _)) HO.out (by omega)).mono ?_
 rintro e w1 ⟨rfl,hb1⟩
 rw [← HK.out]
 obtain ⟨hc1,hf1⟩:=bcell hb1
 have hz1:w.heap.size+2<w1.heap.size:=by have:=hb1.size;simp at this;omega
 have HB:=Lib.hid ((((((Below.refl w.heap.size w).alloc (Nat.le_refl _) _).alloc (by simp) _).alloc (by simp;omega) _)).trans (hb1.mono (by simp;omega)))
 clear hb1
 have r0:=(HB.out.cell (p:=⟨b,0,none⟩) hb).trans s0
 have r1:=(HB.out.cell (p:=⟨g,off+k*2,none⟩) hgs).trans q0
 have r2:=(HB.out.cell (p:=⟨g,off+k*2+1,none⟩) hgs).trans q1
 clear s0 q0 q1
 go_wp2_with fail
 exact bodyPost_ret (v:=.tuple #[.agg #[.string y.kk,.string y.v],.bool true]) (by simp [results,Try.results62,go_sem,hc1]) rfl ⟨rfl,by (repeat (first | exact Below.refl _ _ | exact HB.out | refine Below.drew ?_ | refine Below.al ?_ _ | refine Below.sc ?_ _))⟩
end Go.Proofs.Ytffemfglngikbaa
namespace Go.Proofs.Ytffemfglngikbaa
open Go.RowKit
def NewPostPgW (w:World) (xs:List PgW) (e:Ending) (w':World):Prop:=
 ∃k,e = .returned (.pointer (some ⟨k,0,none⟩))∧w.heap.size≤k∧∃sn A c,PgWSet w' k sn A c (puts cmpPgW [] xs)∧AIn A (w.heap.size≤·)∧Below w.heap.size w w'
set_option maxRecDepth 100000 in
set_option maxHeartbeats 2000000 in
theorem new_PgW (A:Option Addr) (c:Nat) (xs:List PgW) (w:World) (hrd:RowRd w 2 PgW.cells A c xs) (hl:(xs.length:Int)≤10000000) :
 Calls Try.prog 61 #[.slice A xs.length c] w (NewPostPgW w xs):=by
 have HRD:=Lib.hid hrd
 clear hrd
 go_enter Try.func61,Try.ntmps61
 go_wp2_with fail
 obtain ⟨W0,hW0⟩ : ∃W0,W0=w.alloc (.cells #[.slice none 0 0,.bool false] 121):=⟨_,rfl⟩
 have hb0:Below w.heap.size w W0:=by rw [hW0];exact (Below.refl _ _).alloc (Nat.le_refl _) _
 have hS0:PgWSet W0 w.heap.size false none 0 []:=⟨by rw [hW0];exact Blk.new _ _ _,⟨by simp,.inl ⟨rfl,rfl⟩⟩⟩
 rw [← hW0]
 clear hW0
 have HB0:=Lib.hid hb0
 have HS0:=Lib.hid hS0
 clear hb0 hS0
 go_loopw [10] (fun s wr=>∃i:Nat,s = .int .i64 i∧i≤xs.length∧∃sn A' c',PgWSet wr w.heap.size sn A' c' (puts cmpPgW [] (xs.take i))∧AIn A' (w.heap.size≤·)∧Below w.heap.size w wr) (fun s wr=>xs.length - (intOf s).toNat)
 case atStart=>exact ⟨0,rfl,Nat.zero_le _,false,none,0,HS0.out,AIn.none_ _,HB0.out⟩
 case round=>
  obtain ⟨i,rfl,hi,sn,A',c',hS,hA',hB⟩:=hrel
  have HS:=Lib.hid hS
  have HA:=Lib.hid hA'
  have HB:=Lib.hid hB
  clear hS hA' hB
  by_cases hlt:i<xs.length
  · obtain ⟨x,hx⟩ : ∃x,x=xs[i]:=⟨_,rfl⟩
    obtain ⟨g,off,rfl,hgs,hcell⟩:=(HRD.out.fr (Fr.of_new (M:=fun _=>False) HB.out) (fun _ _ h=>h)).at_ hlt
    rw [← hx] at hcell
    have q0:wr.cell? ⟨g,off+i*2,none⟩=some (.string x.kk):=by simpa using hcell 0 _ rfl
    have q1:wr.cell? ⟨g,off+i*2+1,none⟩=some (.string x.v):=by simpa using hcell 1 _ rfl
    have b1:(0:Int)≤(i:Int):=by omega
    have b2:(i:Int)<(xs.length:Int):=by omega
    have HX:=Lib.hid hx
    clear hcell hx
    go_wp2_with fail
    have hsr:=Srt.puts tc_pgw (xs.take i) (Srt.nil (cmp:=cmpPgW))
    have hlen:(((puts cmpPgW [] (xs.take i)).length:Nat):Int)≤100000000:=by
     have:=length_puts_le tc_pgw (xs.take i) (Srt.nil (cmp:=cmpPgW))
     simp at this
     omega
    refine (put_PgW w.heap.size c' sn A' _ x _ (HS.out.new_ ((Below.refl _ _).alloc (Nat.le_refl _) _)) hsr hlen).mono ?_
    rintro e w1 ⟨rfl,sn2,A2,c2,hS2,hF2,hM2⟩
    have hB1:Below w.heap.size w w1:=(HB.out.alloc HB.out.size _).trans (hF2.below (by have:=HB.out.size;(try simp);omega) (fun k hk hm=>by
     rcases hm with hm | ⟨_,a,ha,hm⟩
     · omega
     · have:=HA.out a ha;omega))
    have hA2:AIn A2 (w.heap.size≤·):=by
     rcases hM2 with ⟨_,rfl⟩ | ⟨_,g2,hg2,rfl⟩
     · exact HA.out
     · intro a ha;cases ha;have:=HB.out.size;(try simp at hg2 ⊢);omega
    have HS2:=Lib.hid hS2
    have HB1:=Lib.hid hB1
    have HA2:=Lib.hid hA2
    clear hS2 hB1 hA2 hF2 hM2 hsr hlen q0 q1
    go_wp2_with fail
    go_roundw
    case rel=>
     refine ⟨i+1,by go_num,by omega,sn2,A2,c2,?_,HA2.out,HB1.out⟩
     rw [List.take_add_one,List.getElem?_eq_getElem hlt,← HX.out]
     simp only [Option.toList_some,puts_snoc]
     exact HS2.out
    case measure=>simp [intOf]<;>omega
  · have hie:i=xs.length:=by omega
    subst hie
    go_wp2_with fail
    go_ret
    refine ⟨w.heap.size,rfl,Nat.le_refl _,sn,A',c',?_,HA.out,HB.out⟩
    have:=HS.out
    rwa [List.take_length] at this
end Go.Proofs.Ytffemfglngikbaa
namespace Go.Proofs.Ytffemfglngikbaa
section
variable {P:Program} {ops:Array Oper} {Q:Exit→Act→World→Prop} {S:World→Prop}
inductive Pl where
 | fin (l:List (Nat×Cls))
 | fork (l:List (Nat×Cls)) (i:Nat) (r:Pl) (j:Nat) (s:Pl)
def setL (listed:Array Bool) (l:List (Nat×Cls)):Array Bool:=l.foldl (fun g x=>g.setIfInBounds x.1 true) listed
def okL (ops:Array Oper):List (Nat×Cls)→Array Bool→Bool
 | [],_=>true
 | (k,c) :: rest,listed=>(if c == 2 then Region.ready .any ops listed == [k] else (Region.ready .any ops listed).contains k && Region.free .any ops listed k) && okL ops rest (listed.setIfInBounds k true)
def chkL (qs ls:List Nat) (l:List (Nat×Cls)):Bool:=l.all fun (k,c)=>(c != 2) == qs.contains k && (c != 1 || ls.contains k)
def okPl (ops:Array Oper) (qs ls:List Nat):Pl→Nat→Array Bool→Bool
 | .fin l,n,listed=>n == l.length && chkL qs ls l && okL ops l listed && (Region.ready .any ops (setL listed l)).isEmpty && l.all fun x=>x.1<ops.size
 | .fork l i r j s,n,listed=>decide (l.length+1≤n) && chkL qs ls l && okL ops l listed && (l.all fun x=>x.1<ops.size) && Region.ready .any ops (setL listed l) == [i,j] && !qs.contains i && !qs.contains j &&
  okPl ops qs ls r (n - l.length - 1) ((setL listed l).setIfInBounds i true) && okPl ops qs ls s (n - l.length - 1) ((setL listed l).setIfInBounds j true)
def wpY (P:Program) (ops:Array Oper) (Q:Exit→Act→World→Prop) (S:World→Prop) (ns:Nat→Bool) (R:Act→World→Prop):List (Nat×Cls×Oper)→Act→World→Prop
 | [],a,w=>R a w
 | (i,c,o) :: rest,a,w=>
   if c=2 then (if Region.wanted o (yielded ops a.tmps)=true then o.wp P a w (fun a' w'=>(ns i=true→S w')∧wpY P ops Q S ns R rest a' w') Q else (ns i=true→S w)∧wpY P ops Q S ns R rest (a.put o.dst undef) w)
   else ∃v,(if c=1 then YieldsIf P ops S o v a∧S w else Yields P ops o v a)∧wpY P ops Q S ns R rest (a.put o.dst v) w
def wpPl (P:Program) (ops:Array Oper) (Q:Exit→Act→World→Prop) (S:World→Prop) (ns:Nat→Bool):Pl→Act→World→Prop
 | .fin l,a,w=>wpY P ops Q S ns (fun a w=>Q .normal a w) (beside ops l) a w
 | .fork l i r j s,a,w=>wpY P ops Q S ns (fun a w=>wpOp P ops Q i (fun a' w'=>(ns i=true→S w')∧wpPl P ops Q S ns r a' w') a w∧wpOp P ops Q j (fun a' w'=>(ns j=true→S w')∧wpPl P ops Q S ns s a' w') a w) (beside ops l) a w
theorem closed_setL : ∀(l:List (Nat×Cls)) (listed:Array Bool),Closed ops listed→okL ops l listed=true→Closed ops (setL listed l)
 | [],_,h,_=>h
 | (k,c) :: rest,listed,h,hB=>by
   simp only [okL,Bool.and_eq_true] at hB
   refine closed_setL rest _ (closed_ready h ?_) hB.2
   by_cases hc:c=2
   · subst hc
     have hB1:=hB.1
     simp only [beq_self_eq_true,if_true] at hB1
     have hr:Region.ready .any ops listed = [k]:=by simpa using hB1
     rw [hr];simp
   · have hB1:=hB.1
     rw [if_neg (by simpa using hc)] at hB1
     simp only [Bool.and_eq_true] at hB1
     simpa using hB1.1
theorem wpAnyE_list {qt ns:Nat→Bool} {R:Act→World→Prop} {n:Nat} (hsel:Region.noSelect ops=true) (hQ : ∀c a a' w,Q (.panic c) a w→Q (.panic c) a' w) :
 ∀(rest:List (Nat×Cls)) (listed:Array Bool) (a:Act) (w:World),Closed ops listed→okL ops rest listed=true→(∀x∈rest,x.1<ops.size)→
  (∀k c,(k,c)∈rest→(qt k=true↔c≠2))→(∀k,(k,1)∈rest→∀j,waitsT ops ops.size j k=false→j≠k→j<ops.size→ns j=true)→
  (∀a w,R a w→wpAnyE P ops Q S qt ns n (setL listed rest) a w)→wpY P ops Q S ns R (beside ops rest) a w→wpAnyE P ops Q S qt ns (rest.length+n) listed a w
 | [],listed,a,w,_,_,_,_,_,hR,h=>by
   have:=hR a w h
   simpa [setL] using this
 | (k,c) :: rest,listed,a,w,hcl,hB,hl,hqt,hns,hR,h=>by
   simp only [okL,Bool.and_eq_true] at hB
   obtain ⟨hB1,hB2⟩:=hB
   have hi:k<ops.size:=hl (k,c) (by simp)
   have ho:ops[k]? = some ops[k]:=Array.getElem?_eq_getElem hi
   have hb:beside ops ((k,c) :: rest)=(k,c,ops[k]) :: beside ops rest:=by simp [beside,ho]
   have ih:=fun listed' a w hcl' hB' hR' h'=>wpAnyE_list (R:=R) (n:=n) hsel hQ rest listed' a w hcl' hB' (fun x hx=>hl x (by simp [hx])) (fun k c hk=>hqt k c (by simp [hk])) (fun k hk=>hns k (by simp [hk])) hR' h'
   rw [hb] at h
   simp only [wpY] at h
   have hlen:((k,c) :: rest).length+n=(rest.length+n)+1:=by simp;omega
   rw [hlen]
   by_cases hc:c=2
   · subst hc
     simp only [beq_self_eq_true,if_true] at hB1
     have hr:Region.ready .any ops listed = [k]:=by simpa using hB1
     simp only [if_true] at h
     have hcl2:=closed_ready hcl (i:=k) (by rw [hr];simp)
     refine ⟨fun h0=>(by rw [hr] at h0;cases h0),fun i hi'=>?_⟩
     rw [hr] at hi'
     obtain rfl:i=k:=by simpa using hi'
     have hbh : ∀w',(ns i=true→S w')→behind S qt ns i w w':=fun w' hs=>by
      unfold behind
      rw [if_neg (fun hq=>(hqt i 2 (by simp)).1 hq rfl)]
      exact hs
     unfold wpOp
     simp only [ho]
     split
     · rename_i hw
       rw [if_pos hw] at h
       exact .inl (Oper.wp_mono (fun a' w' h'=>⟨hbh w' h'.1,ih _ a' w' hcl2 hB2 hR h'.2⟩) h)
     · rename_i hw
       rw [if_neg hw] at h
       exact ⟨hbh w h.1,ih _ _ w hcl2 hB2 hR h.2⟩
   · rw [if_neg (by simpa using hc)] at hB1
     simp only [Bool.and_eq_true] at hB1
     rw [if_neg hc] at h
     obtain ⟨v,hy,hk⟩:=h
     have hrdy:k∈Region.ready .any ops listed:=by simpa using hB1.1
     have hrest:=ih _ _ w (closed_ready hcl hrdy) hB2 hR hk
     by_cases h1:c=1
     · subst h1
       rw [if_pos rfl] at hy
       exact wpAnyE_first ho (Region.noSelect_spec hsel) (fun c a w=>hQ c _ _ w) true ((hqt k 1 (by simp)).2 hc) (fun _=>hns k (by simp)) (rest.length+n) listed a w hcl (Region.free_spec ho hB1.2) hrdy
        (hy.1.imp (fun ⟨p,q⟩=>⟨p,fun w' hw'=>q w' (hw' rfl)⟩) id) (fun _=>hy.2) hrest
     · rw [if_neg h1] at hy
       exact wpAnyE_first ho (Region.noSelect_spec hsel) (fun c a w=>hQ c _ _ w) false ((hqt k c (by simp)).2 hc) (fun h=>by cases h) (rest.length+n) listed a w hcl (Region.free_spec ho hB1.2) hrdy
        (hy.imp (fun ⟨p,q⟩=>⟨p,fun w' _=>q w'⟩) id) (fun h=>by cases h) hrest
theorem wpAnyE_pl {qs ls:List Nat} (hsel:Region.noSelect ops=true) (hQ : ∀c a a' w,Q (.panic c) a w→Q (.panic c) a' w) (p:Pl) :
 ∀(n:Nat) (listed:Array Bool) (a:Act) (w:World),Closed ops listed→okPl ops qs ls p n listed=true→
  wpPl P ops Q S (fun j=>ls.any fun k=>k != j && !waitsT ops ops.size j k) p a w→wpAnyE P ops Q S (fun k=>qs.contains k) (fun j=>ls.any fun k=>k != j && !waitsT ops ops.size j k) n listed a w:=by
 have hq : ∀l,chkL qs ls l=true→∀k c,(k,c)∈l→(qs.contains k=true↔c≠2):=fun l hl k c hk=>by
  have:=List.all_eq_true.1 hl (k,c) hk
  simp only [Bool.and_eq_true,beq_iff_eq] at this
  rw [← this.1];simp
 have hn : ∀l,chkL qs ls l=true→∀k,(k,1)∈l→∀j,waitsT ops ops.size j k=false→j≠k→j<ops.size→(ls.any fun k=>k != j && !waitsT ops ops.size j k)=true:=fun l hl k hk j hw hjk _=>by
  have:=List.all_eq_true.1 hl (k,1) hk
  simp only [Bool.and_eq_true] at this
  have h2:ls.contains k=true:=by simpa using this.2
  rw [List.any_eq_true]
  exact ⟨k,by simpa using h2,by rw [hw];simp [Ne.symm hjk]⟩
 induction p with
 | fin l=>
   intro n listed a w hcl hB h
   simp only [okPl,Bool.and_eq_true,beq_iff_eq] at hB
   obtain ⟨⟨⟨⟨rfl,hc⟩,hL⟩,he⟩,hlt⟩:=hB
   have:=wpAnyE_list (P:=P) (Q:=Q) (S:=S) (qt:=fun k=>qs.contains k) (ns:=fun j=>ls.any fun k=>k != j && !waitsT ops ops.size j k) (R:=fun a w=>Q .normal a w) (n:=0) hsel hQ l listed a w hcl hL (by simpa [List.all_eq_true] using hlt) (hq l hc) (hn l hc)
    (fun a w h=>⟨by simpa using he,h⟩) h
   simpa using this
 | fork l i r j s ihr ihs=>
   intro n listed a w hcl hB h
   simp only [okPl,Bool.and_eq_true,beq_iff_eq,decide_eq_true_eq,Bool.not_eq_true'] at hB
   obtain ⟨⟨⟨⟨⟨⟨⟨⟨hlen,hc⟩,hL⟩,hlt⟩,hrd⟩,hqi⟩,hqj⟩,hr⟩,hs⟩:=hB
   obtain ⟨m,rfl⟩ : ∃m,n=l.length+(m+1):=⟨n - l.length - 1,by omega⟩
   have em:l.length+(m+1) - l.length - 1=m:=by omega
   rw [em] at hr hs
   have hcl2:=closed_setL l listed hcl hL
   refine wpAnyE_list (P:=P) (Q:=Q) (S:=S) (qt:=fun k=>qs.contains k) (ns:=fun j=>ls.any fun k=>k != j && !waitsT ops ops.size j k) (n:=m+1) hsel hQ l listed a w hcl hL (by simpa [List.all_eq_true] using hlt) (hq l hc) (hn l hc) (fun a w hR=>?_) h
   refine ⟨fun h0=>(by rw [hrd] at h0;cases h0),fun k hk=>?_⟩
   have hcl3:=closed_ready hcl2 hk
   rw [hrd] at hk
   simp only [List.mem_cons,List.not_mem_nil,or_false] at hk
   rcases hk with rfl | rfl
   · refine wpOp_mono (fun a' w' h'=>⟨?_,ihr m _ a' w' hcl3 hr h'.2⟩) hR.1
     unfold behind
     rw [if_neg (by simp only [hqi];simp)]
     exact h'.1
   · refine wpOp_mono (fun a' w' h'=>⟨?_,ihs m _ a' w' hcl3 hs h'.2⟩) hR.2
     unfold behind
     rw [if_neg (by simp only [hqj];simp)]
     exact h'.1
theorem wp_region_Pl {id:Nat} {l:List Oper} {a:Act} {w:World} (S:World→Prop) (qs ls:List Nat) (p:Pl) (hm:P.follows .mixedOrders=true) (hsel:Region.noSelect l.toArray=true)
 (hB:okPl l.toArray qs ls p l.toArray.size (Array.replicate l.toArray.size false)=true)
 (h : ∀K:Act→World→Prop,(∀a w,Q .normal a w→K a w)→wpPl P l.toArray (OnlyN K) S (fun j=>ls.any fun k=>k != j && !waitsT l.toArray l.toArray.size j k) p a w.drew):(Code.region id l.toArray true).wp P Q a w:=by
 refine Code.wp_mono (Q:=OnlyN fun a w=>Q .normal a w) (fun e a w hq=>by cases e<;>first | exact hq | exact hq.elim) (wp_region_any hm ?_)
 have hcl:Closed l.toArray (Array.replicate l.toArray.size false):=fun m o hm=>by rw [getD_replicate_false] at hm;cases hm
 exact wpAny_of_E _ _ _ _ (wpAnyE_pl (P:=P) (Q:=OnlyN fun a w=>Q .normal a w) (S:=S) hsel (fun c a a' w h=>h) p _ _ a w.drew hcl hB (h _ (fun _ _ h=>h)))
variable {ns:Nat→Bool} {R:Act→World→Prop} {rest:List (Nat×Cls×Oper)} {a:Act} {w:World} {i:Nat} {o:Oper}
theorem wpY_nil (h:R a w):wpY P ops Q S ns R [] a w:=h
theorem wpY_w (v:Value) (hy:Yields P ops o v a) (h:wpY P ops Q S ns R rest (a.put o.dst v) w):wpY P ops Q S ns R ((i,0,o) :: rest) a w:=by
 simp only [wpY]
 exact ⟨v,by simpa using hy,h⟩
theorem wpY_l (v:Value) (hS:S w) (hy:YieldsIf P ops S o v a) (h:wpY P ops Q S ns R rest (a.put o.dst v) w):wpY P ops Q S ns R ((i,1,o) :: rest) a w:=by
 simp only [wpY]
 exact ⟨v,by simpa using ⟨hy,hS⟩,h⟩
theorem wpY_e (hn:ns i=false)
 (h : ∀K:Act→World→Prop,(∀a w,wpY P ops Q S ns R rest a w→K a w)→if Region.wanted o (yielded ops a.tmps)=true then Oper.wp P o a w K Q else K (a.put o.dst undef) w):wpY P ops Q S ns R ((i,2,o) :: rest) a w:=by
 have:=h (fun a' w'=>(ns i=true→S w')∧wpY P ops Q S ns R rest a' w') (fun a w h2=>⟨fun h=>absurd h (by rw [hn];simp),h2⟩)
 simpa only [wpY,if_true] using this
theorem wpY_es
 (h : ∀K:Act→World→Prop,(∀a w,S w→wpY P ops Q S ns R rest a w→K a w)→if Region.wanted o (yielded ops a.tmps)=true then Oper.wp P o a w K Q else K (a.put o.dst undef) w):wpY P ops Q S ns R ((i,2,o) :: rest) a w:=by
 have:=h (fun a' w'=>(ns i=true→S w')∧wpY P ops Q S ns R rest a' w') (fun a w h1 h2=>⟨fun _=>h1,h2⟩)
 simpa only [wpY,if_true] using this
theorem wpOp_c {C:World→Prop} {H:Act→World→Prop} (hC : ∀w,C w) (ho:ops[i]? = some o)
 (h : ∀K:Act→World→Prop,(∀a w,H a w→K a w)→if Region.wanted o (yielded ops a.tmps)=true then Oper.wp P o a w K Q else K (a.put o.dst undef) w) :
 wpOp P ops Q i (fun a' w'=>C w'∧H a' w') a w:=by
 have h2:=h (fun a' w'=>C w'∧H a' w') (fun a w h2=>⟨hC w,h2⟩)
 unfold wpOp
 simp only [ho]
 split
 · rename_i hw
   rw [if_pos hw] at h2
   exact .inl h2
 · rename_i hw
   rw [if_neg hw] at h2
   exact h2
theorem wpOp_cs {C:World→Prop} {H:Act→World→Prop} (ho:ops[i]? = some o)
 (h : ∀K:Act→World→Prop,(∀a w,C w→H a w→K a w)→if Region.wanted o (yielded ops a.tmps)=true then Oper.wp P o a w K Q else K (a.put o.dst undef) w) :
 wpOp P ops Q i (fun a' w'=>C w'∧H a' w') a w:=by
 have h2:=h (fun a' w'=>C w'∧H a' w') (fun a w h1 h2=>⟨h1,h2⟩)
 unfold wpOp
 simp only [ho]
 split
 · rename_i hw
   rw [if_pos hw] at h2
   exact .inl h2
 · rename_i hw
   rw [if_neg hw] at h2
   exact h2
end
end Go.Proofs.Ytffemfglngikbaa
namespace Go.Proofs.Ytffemfglngikbaa
open Go.RowKit
abbrev zPgW (k:ByteArray):PgW:=⟨k,⟨#[]⟩⟩
set_option maxRecDepth 100000 in
set_option maxHeartbeats 4000000 in
theorem bkat_PgW (k:ByteArray) (w:World):Calls Try.prog 63 #[.string k] w fun e w'=>e = .returned (.agg #[.string k,.string ⟨#[]⟩])∧Below w.heap.size w w':=by
 obtain ⟨W,hW⟩ : ∃W,W=w.alloc (.cells #[Value.string ⟨#[]⟩,Value.string ⟨#[]⟩] 104):=⟨_,rfl⟩
 have hR:Blk W w.heap.size 104 #[Value.string ⟨#[]⟩,Value.string ⟨#[]⟩]:=by rw [hW];exact Blk.new _ _ _
 have hB:Below w.heap.size w W:=by rw [hW];exact (Below.refl _ _).alloc (Nat.le_refl _) _
 have ht:W.there w.heap.size 0 (#[Value.string k,Value.string ⟨#[]⟩]:Array Value).size:=hR.there
 have HT:=Lib.hid ht
 have HB:=Lib.hid hB
 clear ht hR hB
 go_enter Try.func63,Try.ntmps63
 go_upto_region 1 with (fail)
 rw [← hW]
 clear hW
 go_wp2_with (with_reducible refine wpList_store_mid rfl 104 _ _ rfl w.heap.size 0 #[Value.string k,Value.string ⟨#[]⟩] rfl rfl HT.out (by kernel_rfl) (by kernel_rfl) ?_)
 try simp only [Exit.inBlock,Exit.then]
 refine bodyPost_ret (v:=.agg #[.string k,.string ⟨#[]⟩]) ?_ rfl ⟨rfl,Below.setCells' _ _ HB.out (by omega)⟩
 exact results_cell (t:=2) (T:=104) rfl _ _ w.heap.size [Value.string k,Value.string ⟨#[]⟩] _ rfl (World.rangeAt_setCells_same W w.heap.size 0 [Value.string k,Value.string ⟨#[]⟩] HT.out) Try.underlying104 rfl (by kernel_rfl)
set_option maxRecDepth 100000 in
set_option maxHeartbeats 4000000 in
theorem wmapget_no (bm bp cc:Nat) (sn:Bool) (A:Option Addr) (m:List PgW) (k:ByteArray) (w:World) (hM:Blk w bm 106 #[.pointer (some ⟨bp,0,none⟩)]) (hS:PgWSet w bp sn A cc m) (hs:Srt cmpPgW m) (hl:(m.length:Int)≤1000000) (hh:has cmpPgW m ⟨k,⟨#[]⟩⟩=false) :
 Calls Try.prog 43 #[.pointer (some ⟨bm,0,none⟩),.string k] w fun e w'=>e = .returned (.tuple #[.string ⟨#[]⟩,.bool false])∧Below w.heap.size w w':=by
 have s0:=hM.c1
 have hml:=hM.lt
 have HS:=Lib.hid hS
 have HO:=Lib.hid hs
 have HM:=Lib.hid hM
 have HH:=Lib.hid hh
 clear hS hs hM hh
 go_enter Try.func43,Try.ntmps43
 go_upto_region 4 with (fail)
 go_cut [7,8] from 11 (fun p b wc=>b = .bool false∧Below w.heap.size w wc∧∃g,p = .pointer (some ⟨g,0,none⟩)∧w.heap.size≤g∧g<wc.heap.size∧wc.rangeAt g 0 [Value.string ⟨#[]⟩,Value.string ⟨#[]⟩])
 case first=>
  refine wp_region_Pl (fun w9=>Below w.heap.size w w9) [0,1,2,3,4,7,8,9,12] [3] (.fork [(0,0),(1,0),(2,0),(3,1),(4,0)] 5 (.fork [] 6 (.fin [(7,0),(8,0),(9,0),(10,2),(11,2),(12,0)]) 10 (.fin [(6,2),(7,0),(8,0),(9,0),(11,2),(12,0)])) 10 (.fin [(5,2),(6,2),(7,0),(8,0),(9,0),(11,2),(12,0)])) (by kernel_rfl) (by kernel_rfl) (by kernel_rfl) (fun KK hKK=>?_)
  simp only [wpPl,beside,List.filterMap_cons,List.filterMap_nil,List.getElem?_toArray,List.getElem?_cons_zero,List.getElem?_cons_succ,Option.map_some]
  repeat ((first | (refine wpY_w ?_ (Or.inl ⟨by rfl,fun w9=>?_⟩) ?_;rotate_left 1;go_simp;with_reducible rfl) | (refine wpY_l ?_ ((Below.refl _ _).drew) (Or.inl ⟨by rfl,fun w9 hw9=>?_⟩) ?_;rotate_left 1;obtain ⟨hc9,hf9⟩:=bcell hw9;go_simp;with_reducible rfl) | refine wpY_w undef (Or.inr ⟨by rfl,rfl⟩) ?_ | refine wpY_l undef ((Below.refl _ _).drew) (Or.inr ⟨by rfl,rfl⟩) ?_);go_frame)
  refine wpY_nil ⟨?_,?_⟩
  · refine wpOp_cs rfl (fun K9 hK9=>?_)
    go_simp
    refine (bkat_PgW k _).mono ?_
    rintro e wa ⟨rfl,hba⟩
    have HBa:=Lib.hid (((Below.refl w.heap.size w).drew).trans (hba.mono (by first | omega | simp)))
    clear hba
    have hza:=HBa.out.size
    refine hK9 _ _ (fun _=>HBa.out) ?_
    clear hK9 K9
    try go_frame
    try simp only [beside,List.filterMap_nil]
    refine wpY_nil ⟨?_,?_⟩
    · refine wpOp_cs rfl (fun K9 hK9=>?_)
      go_simp
      refine (get_no_PgW bp cc sn A m (zPgW k) _ (HS.out.new_ (HBa.out)) HO.out (by omega) HH.out).mono ?_
      rintro e wg ⟨rfl,hbg⟩
      have HBg:=Lib.hid ((HBa.out).trans (hbg.mono (by have:=HBa.out.size;first | omega | (simp;done) | (simp;omega))))
      clear hbg
      have hzg:=HBg.out.size
      refine hK9 _ _ (fun _=>HBg.out) ?_
      clear hK9 K9
      try go_frame
      try simp only [beside,List.filterMap_nil]
      repeat ((first | (refine wpY_w ?_ (Or.inl ⟨by rfl,fun w9=>?_⟩) ?_;rotate_left 1;go_simp;with_reducible rfl) | (refine wpY_l ?_ (HBg.out) (Or.inl ⟨by rfl,fun w9 hw9=>?_⟩) ?_;rotate_left 1;obtain ⟨hc9,hf9⟩:=bcell hw9;go_simp;with_reducible rfl) | refine wpY_w undef (Or.inr ⟨by rfl,rfl⟩) ?_ | refine wpY_l undef (HBg.out) (Or.inr ⟨by rfl,rfl⟩) ?_);go_frame)
      refine wpY_es (fun K9 hK9=>?_)
      go_simp
      have hB9:=(HBg.out).alloc (by have:=HBg.out.size;first | omega | (simp;done) | (simp;omega)) (.cells #[Value.string ⟨#[]⟩,Value.string ⟨#[]⟩] 104)
      have HB9:=Lib.hid hB9
      have hk9:Blk (wg.alloc (.cells #[Value.string ⟨#[]⟩,Value.string ⟨#[]⟩] 104)) wg.heap.size 104 #[Value.string ⟨#[]⟩,Value.string ⟨#[]⟩]:=Blk.new wg 104 #[Value.string ⟨#[]⟩,Value.string ⟨#[]⟩]
      have HK9:=Lib.hid hk9
      clear hB9 hk9
      have hz9:=HB9.out.size
      refine hK9 _ _ (HB9.out) ?_
      clear hK9 K9
      try go_frame
      refine wpY_es (fun K9 hK9=>?_)
      refine step_store_el rfl 104 _ _ rfl wg.heap.size 0 #[Value.string ⟨#[]⟩,Value.string ⟨#[]⟩] rfl rfl (show _ from (HK9.out).there) (by kernel_rfl) (by kernel_rfl) ?_
      refine hK9 _ _ (Below.setCells' _ _ (HB9.out) (by have:=(HB9.out).size;first | omega | (simp;done) | (simp;omega))) ?_
      clear hK9 K9
      try go_frame
      repeat ((first | (refine wpY_w ?_ (Or.inl ⟨by rfl,fun w9=>?_⟩) ?_;rotate_left 1;go_simp;with_reducible rfl) | (refine wpY_l ?_ (Below.setCells' _ _ (HB9.out) (by have:=(HB9.out).size;first | omega | (simp;done) | (simp;omega))) (Or.inl ⟨by rfl,fun w9 hw9=>?_⟩) ?_;rotate_left 1;obtain ⟨hc9,hf9⟩:=bcell hw9;go_simp;with_reducible rfl) | refine wpY_w undef (Or.inr ⟨by rfl,rfl⟩) ?_ | refine wpY_l undef (Below.setCells' _ _ (HB9.out) (by have:=(HB9.out).size;first | omega | (simp;done) | (simp;omega))) (Or.inr ⟨by rfl,rfl⟩) ?_);go_frame)
      refine wpY_nil ?_
      simp only [OnlyN_normal]
      refine hKK _ _ ?_
      clear hKK KK
      go_wp2_with fail
      go_meet
      case rel=>exact ⟨rfl,Below.setCells' _ _ (HB9.out) (by have:=(HB9.out).size;first | omega | (simp;done) | (simp;omega)),_,rfl,by first | exact hzg | exact hza | omega | simp,by first | (rw [size_setCells];exact (HK9.out).lt) | exact (HK9.out).lt,World.rangeAt_setCells_same _ _ 0 [Value.string ⟨#[]⟩,Value.string ⟨#[]⟩] (show _ from (HK9.out).there)⟩
    · refine wpOp_cs rfl (fun K9 hK9=>?_)
      go_simp
      have hB9:=(HBa.out).alloc (by have:=HBa.out.size;first | omega | (simp;done) | (simp;omega)) (.cells #[Value.string ⟨#[]⟩,Value.string ⟨#[]⟩] 104)
      have HB9:=Lib.hid hB9
      have hk9:Blk (wa.alloc (.cells #[Value.string ⟨#[]⟩,Value.string ⟨#[]⟩] 104)) wa.heap.size 104 #[Value.string ⟨#[]⟩,Value.string ⟨#[]⟩]:=Blk.new wa 104 #[Value.string ⟨#[]⟩,Value.string ⟨#[]⟩]
      have HK9:=Lib.hid hk9
      clear hB9 hk9
      have hz9:=HB9.out.size
      refine hK9 _ _ (fun _=>HB9.out) ?_
      clear hK9 K9
      try go_frame
      try simp only [beside,List.filterMap_nil]
      refine wpY_es (fun K9 hK9=>?_)
      go_simp
      refine (get_no_PgW bp cc sn A m (zPgW k) _ (HS.out.new_ (HB9.out)) HO.out (by omega) HH.out).mono ?_
      rintro e wg ⟨rfl,hbg⟩
      have HBg:=Lib.hid ((HB9.out).trans (hbg.mono (by have:=HB9.out.size;first | omega | (simp at this ⊢;done) | (simp at this ⊢;omega))))
      have HKg:=Lib.hid ((HK9.out).new_ hbg)
      clear hbg
      have hzg:=HBg.out.size
      refine hK9 _ _ (HBg.out) ?_
      clear hK9 K9
      try go_frame
      repeat ((first | (refine wpY_w ?_ (Or.inl ⟨by rfl,fun w9=>?_⟩) ?_;rotate_left 1;go_simp;with_reducible rfl) | (refine wpY_l ?_ (HBg.out) (Or.inl ⟨by rfl,fun w9 hw9=>?_⟩) ?_;rotate_left 1;obtain ⟨hc9,hf9⟩:=bcell hw9;go_simp;with_reducible rfl) | refine wpY_w undef (Or.inr ⟨by rfl,rfl⟩) ?_ | refine wpY_l undef (HBg.out) (Or.inr ⟨by rfl,rfl⟩) ?_);go_frame)
      refine wpY_es (fun K9 hK9=>?_)
      refine step_store_el rfl 104 _ _ rfl wa.heap.size 0 #[Value.string ⟨#[]⟩,Value.string ⟨#[]⟩] rfl rfl (show _ from (HKg.out).there) (by kernel_rfl) (by kernel_rfl) ?_
      refine hK9 _ _ (Below.setCells' _ _ (HBg.out) (by have:=(HBg.out).size;first | omega | (simp;done) | (simp;omega))) ?_
      clear hK9 K9
      try go_frame
      repeat ((first | (refine wpY_w ?_ (Or.inl ⟨by rfl,fun w9=>?_⟩) ?_;rotate_left 1;go_simp;with_reducible rfl) | (refine wpY_l ?_ (Below.setCells' _ _ (HBg.out) (by have:=(HBg.out).size;first | omega | (simp;done) | (simp;omega))) (Or.inl ⟨by rfl,fun w9 hw9=>?_⟩) ?_;rotate_left 1;obtain ⟨hc9,hf9⟩:=bcell hw9;go_simp;with_reducible rfl) | refine wpY_w undef (Or.inr ⟨by rfl,rfl⟩) ?_ | refine wpY_l undef (Below.setCells' _ _ (HBg.out) (by have:=(HBg.out).size;first | omega | (simp;done) | (simp;omega))) (Or.inr ⟨by rfl,rfl⟩) ?_);go_frame)
      refine wpY_nil ?_
      simp only [OnlyN_normal]
      refine hKK _ _ ?_
      clear hKK KK
      go_wp2_with fail
      go_meet
      case rel=>exact ⟨rfl,Below.setCells' _ _ (HBg.out) (by have:=(HBg.out).size;first | omega | (simp;done) | (simp;omega)),_,rfl,by first | exact hzg | exact hza | omega | simp,by first | (rw [size_setCells];exact (HKg.out).lt) | exact (HKg.out).lt,World.rangeAt_setCells_same _ _ 0 [Value.string ⟨#[]⟩,Value.string ⟨#[]⟩] (show _ from (HKg.out).there)⟩
  · refine wpOp_cs rfl (fun K9 hK9=>?_)
    go_simp
    have hB9:=((Below.refl w.heap.size w).drew).alloc (by first | omega | simp) (.cells #[Value.string ⟨#[]⟩,Value.string ⟨#[]⟩] 104)
    have HB9:=Lib.hid hB9
    have hk9:Blk (w.drew.alloc (.cells #[Value.string ⟨#[]⟩,Value.string ⟨#[]⟩] 104)) w.heap.size 104 #[Value.string ⟨#[]⟩,Value.string ⟨#[]⟩]:=Blk.new w.drew 104 #[Value.string ⟨#[]⟩,Value.string ⟨#[]⟩]
    have HK9:=Lib.hid hk9
    clear hB9 hk9
    have hz9:=HB9.out.size
    refine hK9 _ _ (fun _=>HB9.out) ?_
    clear hK9 K9
    try go_frame
    try simp only [beside,List.filterMap_nil]
    refine wpY_es (fun K9 hK9=>?_)
    go_simp
    refine (bkat_PgW k _).mono ?_
    rintro e wa ⟨rfl,hba⟩
    have HBa:=Lib.hid ((HB9.out).trans (hba.mono (by have:=HB9.out.size;first | omega | (simp at this ⊢;done) | (simp at this ⊢;omega))))
    have HKa:=Lib.hid ((HK9.out).new_ hba)
    clear hba
    have hza:=HBa.out.size
    refine hK9 _ _ (HBa.out) ?_
    clear hK9 K9
    try go_frame
    refine wpY_es (fun K9 hK9=>?_)
    go_simp
    refine (get_no_PgW bp cc sn A m (zPgW k) _ (HS.out.new_ (HBa.out)) HO.out (by omega) HH.out).mono ?_
    rintro e wg ⟨rfl,hbg⟩
    have HBg:=Lib.hid ((HBa.out).trans (hbg.mono (by have:=HBa.out.size;first | omega | (simp;done) | (simp;omega))))
    have HKg:=Lib.hid ((HKa.out).new_ hbg)
    clear hbg
    have hzg:=HBg.out.size
    refine hK9 _ _ (HBg.out) ?_
    clear hK9 K9
    try go_frame
    repeat ((first | (refine wpY_w ?_ (Or.inl ⟨by rfl,fun w9=>?_⟩) ?_;rotate_left 1;go_simp;with_reducible rfl) | (refine wpY_l ?_ (HBg.out) (Or.inl ⟨by rfl,fun w9 hw9=>?_⟩) ?_;rotate_left 1;obtain ⟨hc9,hf9⟩:=bcell hw9;go_simp;with_reducible rfl) | refine wpY_w undef (Or.inr ⟨by rfl,rfl⟩) ?_ | refine wpY_l undef (HBg.out) (Or.inr ⟨by rfl,rfl⟩) ?_);go_frame)
    refine wpY_es (fun K9 hK9=>?_)
    refine step_store_el rfl 104 _ _ rfl w.heap.size 0 #[Value.string ⟨#[]⟩,Value.string ⟨#[]⟩] rfl rfl (show _ from (HKg.out).there) (by kernel_rfl) (by kernel_rfl) ?_
    refine hK9 _ _ (Below.setCells' _ _ (HBg.out) (by have:=(HBg.out).size;first | omega | (simp;done) | (simp;omega))) ?_
    clear hK9 K9
    try go_frame
    repeat ((first | (refine wpY_w ?_ (Or.inl ⟨by rfl,fun w9=>?_⟩) ?_;rotate_left 1;go_simp;with_reducible rfl) | (refine wpY_l ?_ (Below.setCells' _ _ (HBg.out) (by have:=(HBg.out).size;first | omega | (simp;done) | (simp;omega))) (Or.inl ⟨by rfl,fun w9 hw9=>?_⟩) ?_;rotate_left 1;obtain ⟨hc9,hf9⟩:=bcell hw9;go_simp;with_reducible rfl) | refine wpY_w undef (Or.inr ⟨by rfl,rfl⟩) ?_ | refine wpY_l undef (Below.setCells' _ _ (HBg.out) (by have:=(HBg.out).size;first | omega | (simp;done) | (simp;omega))) (Or.inr ⟨by rfl,rfl⟩) ?_);go_frame)
    refine wpY_nil ?_
    simp only [OnlyN_normal]
    refine hKK _ _ ?_
    clear hKK KK
    go_wp2_with fail
    go_meet
    case rel=>exact ⟨rfl,Below.setCells' _ _ (HBg.out) (by have:=(HBg.out).size;first | omega | (simp;done) | (simp;omega)),_,rfl,by first | exact hzg | exact hza | omega | simp,by first | (rw [size_setCells];exact (HKg.out).lt) | exact (HKg.out).lt,World.rangeAt_setCells_same _ _ 0 [Value.string ⟨#[]⟩,Value.string ⟨#[]⟩] (show _ from (HKg.out).there)⟩
 case rest=>
  obtain ⟨rfl,hB,g,rfl,hg,hgl,hr⟩:=hcut
  have HB:=Lib.hid hB
  have g1:wc.cell? ⟨g,1,none⟩=some (.string ⟨#[]⟩):=hr 1 _ rfl
  clear hB hr s0
  go_wp2_with fail
  go_ret2
  exact ⟨rfl,HB.out⟩
set_option maxRecDepth 100000 in
set_option maxHeartbeats 4000000 in
theorem wmapget_is (bm bp cc:Nat) (sn:Bool) (A:Option Addr) (m:List PgW) (k:ByteArray) (y:PgW) (w:World) (hM:Blk w bm 106 #[.pointer (some ⟨bp,0,none⟩)]) (hS:PgWSet w bp sn A cc m) (hs:Srt cmpPgW m) (hl:(m.length:Int)≤1000000) (hh:has cmpPgW m ⟨k,⟨#[]⟩⟩=true) (hy:m[rank cmpPgW m ⟨k,⟨#[]⟩⟩]? = some y) :
 Calls Try.prog 43 #[.pointer (some ⟨bm,0,none⟩),.string k] w fun e w'=>e = .returned (.tuple #[.string y.v,.bool true])∧Below w.heap.size w w':=by
 have s0:=hM.c1
 have hml:=hM.lt
 have HS:=Lib.hid hS
 have HO:=Lib.hid hs
 have HM:=Lib.hid hM
 have HH:=Lib.hid hh
 have HY:=Lib.hid hy
 clear hy
 clear hS hs hM hh
 go_enter Try.func43,Try.ntmps43
 go_upto_region 4 with (fail)
 go_cut [7,8] from 11 (fun p b wc=>b = .bool true∧Below w.heap.size w wc∧∃g,p = .pointer (some ⟨g,0,none⟩)∧w.heap.size≤g∧g<wc.heap.size∧wc.rangeAt g 0 [Value.string y.kk,Value.string y.v])
 case first=>
  refine wp_region_Pl (fun w9=>Below w.heap.size w w9) [0,1,2,3,4,7,8,9,12] [3] (.fork [(0,0),(1,0),(2,0),(3,1),(4,0)] 5 (.fork [] 6 (.fin [(7,0),(8,0),(9,0),(10,2),(11,2),(12,0)]) 10 (.fin [(6,2),(7,0),(8,0),(9,0),(11,2),(12,0)])) 10 (.fin [(5,2),(6,2),(7,0),(8,0),(9,0),(11,2),(12,0)])) (by kernel_rfl) (by kernel_rfl) (by kernel_rfl) (fun KK hKK=>?_)
  simp only [wpPl,beside,List.filterMap_cons,List.filterMap_nil,List.getElem?_toArray,List.getElem?_cons_zero,List.getElem?_cons_succ,Option.map_some]
  repeat ((first | (refine wpY_w ?_ (Or.inl ⟨by rfl,fun w9=>?_⟩) ?_;rotate_left 1;go_simp;with_reducible rfl) | (refine wpY_l ?_ ((Below.refl _ _).drew) (Or.inl ⟨by rfl,fun w9 hw9=>?_⟩) ?_;rotate_left 1;obtain ⟨hc9,hf9⟩:=bcell hw9;go_simp;with_reducible rfl) | refine wpY_w undef (Or.inr ⟨by rfl,rfl⟩) ?_ | refine wpY_l undef ((Below.refl _ _).drew) (Or.inr ⟨by rfl,rfl⟩) ?_);go_frame)
  refine wpY_nil ⟨?_,?_⟩
  · refine wpOp_cs rfl (fun K9 hK9=>?_)
    go_simp
    refine (bkat_PgW k _).mono ?_
    rintro e wa ⟨rfl,hba⟩
    have HBa:=Lib.hid (((Below.refl w.heap.size w).drew).trans (hba.mono (by first | omega | simp)))
    clear hba
    have hza:=HBa.out.size
    refine hK9 _ _ (fun _=>HBa.out) ?_
    clear hK9 K9
    try go_frame
    try simp only [beside,List.filterMap_nil]
    refine wpY_nil ⟨?_,?_⟩
    · refine wpOp_cs rfl (fun K9 hK9=>?_)
      go_simp
      refine (get_is_PgW bp cc sn A m (zPgW k) y _ (HS.out.new_ (HBa.out)) HO.out (by omega) HH.out HY.out).mono ?_
      rintro e wg ⟨rfl,hbg⟩
      have HBg:=Lib.hid ((HBa.out).trans (hbg.mono (by have:=HBa.out.size;first | omega | (simp;done) | (simp;omega))))
      clear hbg
      have hzg:=HBg.out.size
      refine hK9 _ _ (fun _=>HBg.out) ?_
      clear hK9 K9
      try go_frame
      try simp only [beside,List.filterMap_nil]
      repeat ((first | (refine wpY_w ?_ (Or.inl ⟨by rfl,fun w9=>?_⟩) ?_;rotate_left 1;go_simp;with_reducible rfl) | (refine wpY_l ?_ (HBg.out) (Or.inl ⟨by rfl,fun w9 hw9=>?_⟩) ?_;rotate_left 1;obtain ⟨hc9,hf9⟩:=bcell hw9;go_simp;with_reducible rfl) | refine wpY_w undef (Or.inr ⟨by rfl,rfl⟩) ?_ | refine wpY_l undef (HBg.out) (Or.inr ⟨by rfl,rfl⟩) ?_);go_frame)
      refine wpY_es (fun K9 hK9=>?_)
      go_simp
      have hB9:=(HBg.out).alloc (by have:=HBg.out.size;first | omega | (simp;done) | (simp;omega)) (.cells #[Value.string ⟨#[]⟩,Value.string ⟨#[]⟩] 104)
      have HB9:=Lib.hid hB9
      have hk9:Blk (wg.alloc (.cells #[Value.string ⟨#[]⟩,Value.string ⟨#[]⟩] 104)) wg.heap.size 104 #[Value.string ⟨#[]⟩,Value.string ⟨#[]⟩]:=Blk.new wg 104 #[Value.string ⟨#[]⟩,Value.string ⟨#[]⟩]
      have HK9:=Lib.hid hk9
      clear hB9 hk9
      have hz9:=HB9.out.size
      refine hK9 _ _ (HB9.out) ?_
      clear hK9 K9
      try go_frame
      refine wpY_es (fun K9 hK9=>?_)
      refine step_store_el rfl 104 _ _ rfl wg.heap.size 0 #[Value.string y.kk,Value.string y.v] rfl rfl (show _ from (HK9.out).there) (by kernel_rfl) (by kernel_rfl) ?_
      refine hK9 _ _ (Below.setCells' _ _ (HB9.out) (by have:=(HB9.out).size;first | omega | (simp;done) | (simp;omega))) ?_
      clear hK9 K9
      try go_frame
      repeat ((first | (refine wpY_w ?_ (Or.inl ⟨by rfl,fun w9=>?_⟩) ?_;rotate_left 1;go_simp;with_reducible rfl) | (refine wpY_l ?_ (Below.setCells' _ _ (HB9.out) (by have:=(HB9.out).size;first | omega | (simp;done) | (simp;omega))) (Or.inl ⟨by rfl,fun w9 hw9=>?_⟩) ?_;rotate_left 1;obtain ⟨hc9,hf9⟩:=bcell hw9;go_simp;with_reducible rfl) | refine wpY_w undef (Or.inr ⟨by rfl,rfl⟩) ?_ | refine wpY_l undef (Below.setCells' _ _ (HB9.out) (by have:=(HB9.out).size;first | omega | (simp;done) | (simp;omega))) (Or.inr ⟨by rfl,rfl⟩) ?_);go_frame)
      refine wpY_nil ?_
      simp only [OnlyN_normal]
      refine hKK _ _ ?_
      clear hKK KK
      go_wp2_with fail
      go_meet
      case rel=>exact ⟨rfl,Below.setCells' _ _ (HB9.out) (by have:=(HB9.out).size;first | omega | (simp;done) | (simp;omega)),_,rfl,by first | exact hzg | exact hza | omega | simp,by first | (rw [size_setCells];exact (HK9.out).lt) | exact (HK9.out).lt,World.rangeAt_setCells_same _ _ 0 [Value.string y.kk,Value.string y.v] (show _ from (HK9.out).there)⟩
    · refine wpOp_cs rfl (fun K9 hK9=>?_)
      go_simp
      have hB9:=(HBa.out).alloc (by have:=HBa.out.size;first | omega | (simp;done) | (simp;omega)) (.cells #[Value.string ⟨#[]⟩,Value.string ⟨#[]⟩] 104)
      have HB9:=Lib.hid hB9
      have hk9:Blk (wa.alloc (.cells #[Value.string ⟨#[]⟩,Value.string ⟨#[]⟩] 104)) wa.heap.size 104 #[Value.string ⟨#[]⟩,Value.string ⟨#[]⟩]:=Blk.new wa 104 #[Value.string ⟨#[]⟩,Value.string ⟨#[]⟩]
      have HK9:=Lib.hid hk9
      clear hB9 hk9
      have hz9:=HB9.out.size
      refine hK9 _ _ (fun _=>HB9.out) ?_
      clear hK9 K9
      try go_frame
      try simp only [beside,List.filterMap_nil]
      refine wpY_es (fun K9 hK9=>?_)
      go_simp
      refine (get_is_PgW bp cc sn A m (zPgW k) y _ (HS.out.new_ (HB9.out)) HO.out (by omega) HH.out HY.out).mono ?_
      rintro e wg ⟨rfl,hbg⟩
      have HBg:=Lib.hid ((HB9.out).trans (hbg.mono (by have:=HB9.out.size;first | omega | (simp at this ⊢;done) | (simp at this ⊢;omega))))
      have HKg:=Lib.hid ((HK9.out).new_ hbg)
      clear hbg
      have hzg:=HBg.out.size
      refine hK9 _ _ (HBg.out) ?_
      clear hK9 K9
      try go_frame
      repeat ((first | (refine wpY_w ?_ (Or.inl ⟨by rfl,fun w9=>?_⟩) ?_;rotate_left 1;go_simp;with_reducible rfl) | (refine wpY_l ?_ (HBg.out) (Or.inl ⟨by rfl,fun w9 hw9=>?_⟩) ?_;rotate_left 1;obtain ⟨hc9,hf9⟩:=bcell hw9;go_simp;with_reducible rfl) | refine wpY_w undef (Or.inr ⟨by rfl,rfl⟩) ?_ | refine wpY_l undef (HBg.out) (Or.inr ⟨by rfl,rfl⟩) ?_);go_frame)
      refine wpY_es (fun K9 hK9=>?_)
      refine step_store_el rfl 104 _ _ rfl wa.heap.size 0 #[Value.string y.kk,Value.string y.v] rfl rfl (show _ from (HKg.out).there) (by kernel_rfl) (by kernel_rfl) ?_
      refine hK9 _ _ (Below.setCells' _ _ (HBg.out) (by have:=(HBg.out).size;first | omega | (simp;done) | (simp;omega))) ?_
      clear hK9 K9
      try go_frame
      repeat ((first | (refine wpY_w ?_ (Or.inl ⟨by rfl,fun w9=>?_⟩) ?_;rotate_left 1;go_simp;with_reducible rfl) | (refine wpY_l ?_ (Below.setCells' _ _ (HBg.out) (by have:=(HBg.out).size;first | omega | (simp;done) | (simp;omega))) (Or.inl ⟨by rfl,fun w9 hw9=>?_⟩) ?_;rotate_left 1;obtain ⟨hc9,hf9⟩:=bcell hw9;go_simp;with_reducible rfl) | refine wpY_w undef (Or.inr ⟨by rfl,rfl⟩) ?_ | refine wpY_l undef (Below.setCells' _ _ (HBg.out) (by have:=(HBg.out).size;first | omega | (simp;done) | (simp;omega))) (Or.inr ⟨by rfl,rfl⟩) ?_);go_frame)
      refine wpY_nil ?_
      simp only [OnlyN_normal]
      refine hKK _ _ ?_
      clear hKK KK
      go_wp2_with fail
      go_meet
      case rel=>exact ⟨rfl,Below.setCells' _ _ (HBg.out) (by have:=(HBg.out).size;first | omega | (simp;done) | (simp;omega)),_,rfl,by first | exact hzg | exact hza | omega | simp,by first | (rw [size_setCells];exact (HKg.out).lt) | exact (HKg.out).lt,World.rangeAt_setCells_same _ _ 0 [Value.string y.kk,Value.string y.v] (show _ from (HKg.out).there)⟩
  · refine wpOp_cs rfl (fun K9 hK9=>?_)
    go_simp
    have hB9:=((Below.refl w.heap.size w).drew).alloc (by first | omega | simp) (.cells #[Value.string ⟨#[]⟩,Value.string ⟨#[]⟩] 104)
    have HB9:=Lib.hid hB9
    have hk9:Blk (w.drew.alloc (.cells #[Value.string ⟨#[]⟩,Value.string ⟨#[]⟩] 104)) w.heap.size 104 #[Value.string ⟨#[]⟩,Value.string ⟨#[]⟩]:=Blk.new w.drew 104 #[Value.string ⟨#[]⟩,Value.string ⟨#[]⟩]
    have HK9:=Lib.hid hk9
    clear hB9 hk9
    have hz9:=HB9.out.size
    refine hK9 _ _ (fun _=>HB9.out) ?_
    clear hK9 K9
    try go_frame
    try simp only [beside,List.filterMap_nil]
    refine wpY_es (fun K9 hK9=>?_)
    go_simp
    refine (bkat_PgW k _).mono ?_
    rintro e wa ⟨rfl,hba⟩
    have HBa:=Lib.hid ((HB9.out).trans (hba.mono (by have:=HB9.out.size;first | omega | (simp at this ⊢;done) | (simp at this ⊢;omega))))
    have HKa:=Lib.hid ((HK9.out).new_ hba)
    clear hba
    have hza:=HBa.out.size
    refine hK9 _ _ (HBa.out) ?_
    clear hK9 K9
    try go_frame
    refine wpY_es (fun K9 hK9=>?_)
    go_simp
    refine (get_is_PgW bp cc sn A m (zPgW k) y _ (HS.out.new_ (HBa.out)) HO.out (by omega) HH.out HY.out).mono ?_
    rintro e wg ⟨rfl,hbg⟩
    have HBg:=Lib.hid ((HBa.out).trans (hbg.mono (by have:=HBa.out.size;first | omega | (simp;done) | (simp;omega))))
    have HKg:=Lib.hid ((HKa.out).new_ hbg)
    clear hbg
    have hzg:=HBg.out.size
    refine hK9 _ _ (HBg.out) ?_
    clear hK9 K9
    try go_frame
    repeat ((first | (refine wpY_w ?_ (Or.inl ⟨by rfl,fun w9=>?_⟩) ?_;rotate_left 1;go_simp;with_reducible rfl) | (refine wpY_l ?_ (HBg.out) (Or.inl ⟨by rfl,fun w9 hw9=>?_⟩) ?_;rotate_left 1;obtain ⟨hc9,hf9⟩:=bcell hw9;go_simp;with_reducible rfl) | refine wpY_w undef (Or.inr ⟨by rfl,rfl⟩) ?_ | refine wpY_l undef (HBg.out) (Or.inr ⟨by rfl,rfl⟩) ?_);go_frame)
    refine wpY_es (fun K9 hK9=>?_)
    refine step_store_el rfl 104 _ _ rfl w.heap.size 0 #[Value.string y.kk,Value.string y.v] rfl rfl (show _ from (HKg.out).there) (by kernel_rfl) (by kernel_rfl) ?_
    refine hK9 _ _ (Below.setCells' _ _ (HBg.out) (by have:=(HBg.out).size;first | omega | (simp;done) | (simp;omega))) ?_
    clear hK9 K9
    try go_frame
    repeat ((first | (refine wpY_w ?_ (Or.inl ⟨by rfl,fun w9=>?_⟩) ?_;rotate_left 1;go_simp;with_reducible rfl) | (refine wpY_l ?_ (Below.setCells' _ _ (HBg.out) (by have:=(HBg.out).size;first | omega | (simp;done) | (simp;omega))) (Or.inl ⟨by rfl,fun w9 hw9=>?_⟩) ?_;rotate_left 1;obtain ⟨hc9,hf9⟩:=bcell hw9;go_simp;with_reducible rfl) | refine wpY_w undef (Or.inr ⟨by rfl,rfl⟩) ?_ | refine wpY_l undef (Below.setCells' _ _ (HBg.out) (by have:=(HBg.out).size;first | omega | (simp;done) | (simp;omega))) (Or.inr ⟨by rfl,rfl⟩) ?_);go_frame)
    refine wpY_nil ?_
    simp only [OnlyN_normal]
    refine hKK _ _ ?_
    clear hKK KK
    go_wp2_with fail
    go_meet
    case rel=>exact ⟨rfl,Below.setCells' _ _ (HBg.out) (by have:=(HBg.out).size;first | omega | (simp;done) | (simp;omega)),_,rfl,by first | exact hzg | exact hza | omega | simp,by first | (rw [size_setCells];exact (HKg.out).lt) | exact (HKg.out).lt,World.rangeAt_setCells_same _ _ 0 [Value.string y.kk,Value.string y.v] (show _ from (HKg.out).there)⟩
 case rest=>
  obtain ⟨rfl,hB,g,rfl,hg,hgl,hr⟩:=hcut
  have HB:=Lib.hid hB
  have g1:wc.cell? ⟨g,1,none⟩=some (.string y.v):=hr 1 _ rfl
  clear hB hr s0
  go_wp2_with fail
  go_ret2
  exact ⟨rfl,HB.out⟩
end Go.Proofs.Ytffemfglngikbaa
namespace Go.Proofs.Ytffemfglngikbaa
open Go.RowKit
theorem Moved.of_PgW {a b:World} (h:Below a.heap.size a b) {sn sn':Bool} {A A':Option Addr} (hm:Moved b sn A sn' A'):Moved a sn A sn' A':=
 hm.imp id (fun ⟨h1,g,h2,h3⟩=>⟨h1,g,by have:=h.size;omega,h3⟩)
set_option maxRecDepth 100000 in
set_option maxHeartbeats 4000000 in
theorem bknew_PgW (w:World):Calls Try.prog 42 #[] w fun e w'=>∃bm bp sn A c,e = .returned (.pointer (some ⟨bm,0,none⟩))∧w.heap.size≤bm∧w.heap.size≤bp∧AIn A (w.heap.size≤·)∧Blk w' bm 106 #[.pointer (some ⟨bp,0,none⟩)]∧PgWSet w' bp sn A c []∧Below w.heap.size w w':=by
 go_enter Try.func42,Try.ntmps42
 go_wp2_with fail
 refine (new_PgW none 0 [] _ (RowRd.nil _ _ _) (by simp)).mono ?_
 rintro e w1 ⟨bp,rfl,hbp,sn,A,c,hS,hA,hB⟩
 have HS:=Lib.hid hS
 have HB:=Lib.hid hB
 clear hS hB
 go_wp2_with fail
 go_ret
 have hb9:Below w1.heap.size w1 (w1.alloc (.cells #[.pointer (some ⟨bp,0,none⟩)] 106)):=(Below.refl _ _).alloc (Nat.le_refl _) _
 exact ⟨w1.heap.size,bp,sn,A,c,rfl,HB.out.size,hbp,hA,Blk.new _ _ _,HS.out.new_ hb9,HB.out.trans (hb9.mono HB.out.size)⟩
set_option maxHeartbeats 1000000 in
theorem bklen_PgW (bm bp c:Nat) (sn:Bool) (A:Option Addr) (m:List PgW) (w:World) (hM:Blk w bm 106 #[.pointer (some ⟨bp,0,none⟩)]) (hS:PgWSet w bp sn A c m) :
 Calls Try.prog 46 #[.pointer (some ⟨bm,0,none⟩)] w fun e w'=>e = .returned (.int .i64 m.length)∧w=w':=by
 have s0:=hM.c1
 have hbl:=hM.lt
 have HS:=Lib.hid hS
 clear hM hS
 go_enter Try.func46,Try.ntmps46
 go_wp2_with fail
 refine (len_PgW bp c sn A m w HS.out).mono ?_
 rintro e w' ⟨rfl,rfl⟩
 go_wp2_with fail
 go_ret
 exact ⟨rfl,rfl⟩
set_option maxRecDepth 100000 in
set_option maxHeartbeats 16000000 in
theorem bkput_PgW (bm bp cc:Nat) (sn:Bool) (A:Option Addr) (m:List PgW) (x:PgW) (w:World) (hM:Blk w bm 106 #[.pointer (some ⟨bp,0,none⟩)]) (hS:PgWSet w bp sn A cc m) (hs:Srt cmpPgW m) (hl:(m.length:Int)≤1000000) (hh:has cmpPgW m x=false) :
 Calls Try.prog 44 #[.pointer (some ⟨bm,0,none⟩),.string x.kk,.string x.v] w fun e w'=>e = .returned (.bool true)∧∃sn' A' c',PgWSet w' bp sn' A' c' (put cmpPgW m x)∧Fr (SetMod bp sn A) w w'∧Moved w sn A sn' A':=by
 obtain ⟨c,hc⟩ : ∃c,c=x.kk:=⟨_,rfl⟩
 obtain ⟨xv,hv⟩ : ∃v,v=x.v:=⟨_,rfl⟩
 have hx:x=⟨c,xv⟩:=by rw [hc,hv]
 rw [← hc,← hv]
 subst hx
 clear hc hv
 have hh0:has cmpPgW m ⟨c,⟨#[]⟩⟩=false:=hh
 have s0:=hM.c1
 have hml:=hM.lt
 have HS:=Lib.hid hS
 have HO:=Lib.hid hs
 have HM:=Lib.hid hM
 have HH0:=Lib.hid hh
 have HH:=Lib.hid hh0
 clear hS hs hM hh hh0
 go_enter Try.func44,Try.ntmps44
 go_upto_region 3 with (fail)
 go_cut [8] from 11 (fun b wc=>b = .bool false∧Below w.heap.size w wc)
 case first=>
  refine wp_region_Pl (fun w9=>Below w.heap.size w w9) [0,1,2,3,4,7,8,9,12] [3] (.fork [(0,0),(1,0),(2,0),(3,1),(4,0)] 5 (.fork [] 6 (.fin [(7,0),(8,0),(9,0),(10,2),(11,2),(12,0)]) 10 (.fin [(6,2),(7,0),(8,0),(9,0),(11,2),(12,0)])) 10 (.fin [(5,2),(6,2),(7,0),(8,0),(9,0),(11,2),(12,0)])) (by kernel_rfl) (by kernel_rfl) (by kernel_rfl) (fun KK hKK=>?_)
  simp only [wpPl,beside,List.filterMap_cons,List.filterMap_nil,List.getElem?_toArray,List.getElem?_cons_zero,List.getElem?_cons_succ,Option.map_some]
  repeat ((first | (refine wpY_w ?_ (Or.inl ⟨by rfl,fun w9=>?_⟩) ?_;rotate_left 1;go_simp;with_reducible rfl) | (refine wpY_l ?_ ((Below.refl _ _).drew) (Or.inl ⟨by rfl,fun w9 hw9=>?_⟩) ?_;rotate_left 1;obtain ⟨hc9,hf9⟩:=bcell hw9;go_simp;with_reducible rfl) | refine wpY_w undef (Or.inr ⟨by rfl,rfl⟩) ?_ | refine wpY_l undef ((Below.refl _ _).drew) (Or.inr ⟨by rfl,rfl⟩) ?_);go_frame)
  refine wpY_nil ⟨?_,?_⟩
  · refine wpOp_cs rfl (fun K9 hK9=>?_)
    go_simp
    refine (bkat_PgW c _).mono ?_
    rintro e wa ⟨rfl,hba⟩
    have HBa:=Lib.hid (((Below.refl w.heap.size w).drew).trans (hba.mono (by first | omega | simp)))
    clear hba
    have hza:=HBa.out.size
    refine hK9 _ _ (fun _=>HBa.out) ?_
    clear hK9 K9
    try go_frame
    try simp only [beside,List.filterMap_nil]
    refine wpY_nil ⟨?_,?_⟩
    · refine wpOp_cs rfl (fun K9 hK9=>?_)
      go_simp
      refine (get_no_PgW bp cc sn A m (zPgW c) _ (HS.out.new_ (HBa.out)) HO.out (by omega) HH.out).mono ?_
      rintro e wg ⟨rfl,hbg⟩
      have HBg:=Lib.hid ((HBa.out).trans (hbg.mono (by have:=HBa.out.size;first | omega | (simp;done) | (simp;omega))))
      clear hbg
      have hzg:=HBg.out.size
      refine hK9 _ _ (fun _=>HBg.out) ?_
      clear hK9 K9
      try go_frame
      try simp only [beside,List.filterMap_nil]
      repeat ((first | (refine wpY_w ?_ (Or.inl ⟨by rfl,fun w9=>?_⟩) ?_;rotate_left 1;go_simp;with_reducible rfl) | (refine wpY_l ?_ (HBg.out) (Or.inl ⟨by rfl,fun w9 hw9=>?_⟩) ?_;rotate_left 1;obtain ⟨hc9,hf9⟩:=bcell hw9;go_simp;with_reducible rfl) | refine wpY_w undef (Or.inr ⟨by rfl,rfl⟩) ?_ | refine wpY_l undef (HBg.out) (Or.inr ⟨by rfl,rfl⟩) ?_);go_frame)
      refine wpY_es (fun K9 hK9=>?_)
      go_simp
      have hB9:=(HBg.out).alloc (by have:=HBg.out.size;first | omega | (simp;done) | (simp;omega)) (.cells #[Value.string ⟨#[]⟩,Value.string ⟨#[]⟩] 104)
      have HB9:=Lib.hid hB9
      have hk9:Blk (wg.alloc (.cells #[Value.string ⟨#[]⟩,Value.string ⟨#[]⟩] 104)) wg.heap.size 104 #[Value.string ⟨#[]⟩,Value.string ⟨#[]⟩]:=Blk.new wg 104 #[Value.string ⟨#[]⟩,Value.string ⟨#[]⟩]
      have HK9:=Lib.hid hk9
      clear hB9 hk9
      have hz9:=HB9.out.size
      refine hK9 _ _ (HB9.out) ?_
      clear hK9 K9
      try go_frame
      refine wpY_es (fun K9 hK9=>?_)
      refine step_store_el rfl 104 _ _ rfl wg.heap.size 0 #[Value.string ⟨#[]⟩,Value.string ⟨#[]⟩] rfl rfl (show _ from (HK9.out).there) (by kernel_rfl) (by kernel_rfl) ?_
      refine hK9 _ _ (Below.setCells' _ _ (HB9.out) (by have:=(HB9.out).size;first | omega | (simp;done) | (simp;omega))) ?_
      clear hK9 K9
      try go_frame
      repeat ((first | (refine wpY_w ?_ (Or.inl ⟨by rfl,fun w9=>?_⟩) ?_;rotate_left 1;go_simp;with_reducible rfl) | (refine wpY_l ?_ (Below.setCells' _ _ (HB9.out) (by have:=(HB9.out).size;first | omega | (simp;done) | (simp;omega))) (Or.inl ⟨by rfl,fun w9 hw9=>?_⟩) ?_;rotate_left 1;obtain ⟨hc9,hf9⟩:=bcell hw9;go_simp;with_reducible rfl) | refine wpY_w undef (Or.inr ⟨by rfl,rfl⟩) ?_ | refine wpY_l undef (Below.setCells' _ _ (HB9.out) (by have:=(HB9.out).size;first | omega | (simp;done) | (simp;omega))) (Or.inr ⟨by rfl,rfl⟩) ?_);go_frame)
      refine wpY_nil ?_
      simp only [OnlyN_normal]
      refine hKK _ _ ?_
      clear hKK KK
      go_wp2_with fail
      go_meet
      case rel=>exact ⟨rfl,Below.setCells' _ _ (HB9.out) (by have:=(HB9.out).size;first | omega | (simp;done) | (simp;omega))⟩
    · refine wpOp_cs rfl (fun K9 hK9=>?_)
      go_simp
      have hB9:=(HBa.out).alloc (by have:=HBa.out.size;first | omega | (simp;done) | (simp;omega)) (.cells #[Value.string ⟨#[]⟩,Value.string ⟨#[]⟩] 104)
      have HB9:=Lib.hid hB9
      have hk9:Blk (wa.alloc (.cells #[Value.string ⟨#[]⟩,Value.string ⟨#[]⟩] 104)) wa.heap.size 104 #[Value.string ⟨#[]⟩,Value.string ⟨#[]⟩]:=Blk.new wa 104 #[Value.string ⟨#[]⟩,Value.string ⟨#[]⟩]
      have HK9:=Lib.hid hk9
      clear hB9 hk9
      have hz9:=HB9.out.size
      refine hK9 _ _ (fun _=>HB9.out) ?_
      clear hK9 K9
      try go_frame
      try simp only [beside,List.filterMap_nil]
      refine wpY_es (fun K9 hK9=>?_)
      go_simp
      refine (get_no_PgW bp cc sn A m (zPgW c) _ (HS.out.new_ (HB9.out)) HO.out (by omega) HH.out).mono ?_
      rintro e wg ⟨rfl,hbg⟩
      have HBg:=Lib.hid ((HB9.out).trans (hbg.mono (by have:=HB9.out.size;first | omega | (simp at this ⊢;done) | (simp at this ⊢;omega))))
      have HKg:=Lib.hid ((HK9.out).new_ hbg)
      clear hbg
      have hzg:=HBg.out.size
      refine hK9 _ _ (HBg.out) ?_
      clear hK9 K9
      try go_frame
      repeat ((first | (refine wpY_w ?_ (Or.inl ⟨by rfl,fun w9=>?_⟩) ?_;rotate_left 1;go_simp;with_reducible rfl) | (refine wpY_l ?_ (HBg.out) (Or.inl ⟨by rfl,fun w9 hw9=>?_⟩) ?_;rotate_left 1;obtain ⟨hc9,hf9⟩:=bcell hw9;go_simp;with_reducible rfl) | refine wpY_w undef (Or.inr ⟨by rfl,rfl⟩) ?_ | refine wpY_l undef (HBg.out) (Or.inr ⟨by rfl,rfl⟩) ?_);go_frame)
      refine wpY_es (fun K9 hK9=>?_)
      refine step_store_el rfl 104 _ _ rfl wa.heap.size 0 #[Value.string ⟨#[]⟩,Value.string ⟨#[]⟩] rfl rfl (show _ from (HKg.out).there) (by kernel_rfl) (by kernel_rfl) ?_
      refine hK9 _ _ (Below.setCells' _ _ (HBg.out) (by have:=(HBg.out).size;first | omega | (simp;done) | (simp;omega))) ?_
      clear hK9 K9
      try go_frame
      repeat ((first | (refine wpY_w ?_ (Or.inl ⟨by rfl,fun w9=>?_⟩) ?_;rotate_left 1;go_simp;with_reducible rfl) | (refine wpY_l ?_ (Below.setCells' _ _ (HBg.out) (by have:=(HBg.out).size;first | omega | (simp;done) | (simp;omega))) (Or.inl ⟨by rfl,fun w9 hw9=>?_⟩) ?_;rotate_left 1;obtain ⟨hc9,hf9⟩:=bcell hw9;go_simp;with_reducible rfl) | refine wpY_w undef (Or.inr ⟨by rfl,rfl⟩) ?_ | refine wpY_l undef (Below.setCells' _ _ (HBg.out) (by have:=(HBg.out).size;first | omega | (simp;done) | (simp;omega))) (Or.inr ⟨by rfl,rfl⟩) ?_);go_frame)
      refine wpY_nil ?_
      simp only [OnlyN_normal]
      refine hKK _ _ ?_
      clear hKK KK
      go_wp2_with fail
      go_meet
      case rel=>exact ⟨rfl,Below.setCells' _ _ (HBg.out) (by have:=(HBg.out).size;first | omega | (simp;done) | (simp;omega))⟩
  · refine wpOp_cs rfl (fun K9 hK9=>?_)
    go_simp
    have hB9:=((Below.refl w.heap.size w).drew).alloc (by first | omega | simp) (.cells #[Value.string ⟨#[]⟩,Value.string ⟨#[]⟩] 104)
    have HB9:=Lib.hid hB9
    have hk9:Blk (w.drew.alloc (.cells #[Value.string ⟨#[]⟩,Value.string ⟨#[]⟩] 104)) w.heap.size 104 #[Value.string ⟨#[]⟩,Value.string ⟨#[]⟩]:=Blk.new w.drew 104 #[Value.string ⟨#[]⟩,Value.string ⟨#[]⟩]
    have HK9:=Lib.hid hk9
    clear hB9 hk9
    have hz9:=HB9.out.size
    refine hK9 _ _ (fun _=>HB9.out) ?_
    clear hK9 K9
    try go_frame
    try simp only [beside,List.filterMap_nil]
    refine wpY_es (fun K9 hK9=>?_)
    go_simp
    refine (bkat_PgW c _).mono ?_
    rintro e wa ⟨rfl,hba⟩
    have HBa:=Lib.hid ((HB9.out).trans (hba.mono (by have:=HB9.out.size;first | omega | (simp at this ⊢;done) | (simp at this ⊢;omega))))
    have HKa:=Lib.hid ((HK9.out).new_ hba)
    clear hba
    have hza:=HBa.out.size
    refine hK9 _ _ (HBa.out) ?_
    clear hK9 K9
    try go_frame
    refine wpY_es (fun K9 hK9=>?_)
    go_simp
    refine (get_no_PgW bp cc sn A m (zPgW c) _ (HS.out.new_ (HBa.out)) HO.out (by omega) HH.out).mono ?_
    rintro e wg ⟨rfl,hbg⟩
    have HBg:=Lib.hid ((HBa.out).trans (hbg.mono (by have:=HBa.out.size;first | omega | (simp;done) | (simp;omega))))
    have HKg:=Lib.hid ((HKa.out).new_ hbg)
    clear hbg
    have hzg:=HBg.out.size
    refine hK9 _ _ (HBg.out) ?_
    clear hK9 K9
    try go_frame
    repeat ((first | (refine wpY_w ?_ (Or.inl ⟨by rfl,fun w9=>?_⟩) ?_;rotate_left 1;go_simp;with_reducible rfl) | (refine wpY_l ?_ (HBg.out) (Or.inl ⟨by rfl,fun w9 hw9=>?_⟩) ?_;rotate_left 1;obtain ⟨hc9,hf9⟩:=bcell hw9;go_simp;with_reducible rfl) | refine wpY_w undef (Or.inr ⟨by rfl,rfl⟩) ?_ | refine wpY_l undef (HBg.out) (Or.inr ⟨by rfl,rfl⟩) ?_);go_frame)
    refine wpY_es (fun K9 hK9=>?_)
    refine step_store_el rfl 104 _ _ rfl w.heap.size 0 #[Value.string ⟨#[]⟩,Value.string ⟨#[]⟩] rfl rfl (show _ from (HKg.out).there) (by kernel_rfl) (by kernel_rfl) ?_
    refine hK9 _ _ (Below.setCells' _ _ (HBg.out) (by have:=(HBg.out).size;first | omega | (simp;done) | (simp;omega))) ?_
    clear hK9 K9
    try go_frame
    repeat ((first | (refine wpY_w ?_ (Or.inl ⟨by rfl,fun w9=>?_⟩) ?_;rotate_left 1;go_simp;with_reducible rfl) | (refine wpY_l ?_ (Below.setCells' _ _ (HBg.out) (by have:=(HBg.out).size;first | omega | (simp;done) | (simp;omega))) (Or.inl ⟨by rfl,fun w9 hw9=>?_⟩) ?_;rotate_left 1;obtain ⟨hc9,hf9⟩:=bcell hw9;go_simp;with_reducible rfl) | refine wpY_w undef (Or.inr ⟨by rfl,rfl⟩) ?_ | refine wpY_l undef (Below.setCells' _ _ (HBg.out) (by have:=(HBg.out).size;first | omega | (simp;done) | (simp;omega))) (Or.inr ⟨by rfl,rfl⟩) ?_);go_frame)
    refine wpY_nil ?_
    simp only [OnlyN_normal]
    refine hKK _ _ ?_
    clear hKK KK
    go_wp2_with fail
    go_meet
    case rel=>exact ⟨rfl,Below.setCells' _ _ (HBg.out) (by have:=(HBg.out).size;first | omega | (simp;done) | (simp;omega))⟩
 case rest=>
  obtain ⟨rfl,hB⟩:=hcut
  have r0:=(HM.out.new_ hB).c1
  have hml2:=(HM.out.new_ hB).lt
  have HB:=Lib.hid hB
  have HS2:=Lib.hid (HS.out.new_ hB)
  clear hB s0
  go_wp2_with fail
  refine (put_PgW bp cc sn A m ⟨c,xv⟩ _ HS2.out HO.out (by omega)).mono ?_
  rintro e w5 ⟨rfl,hch⟩
  have HP:=Lib.hid hch
  clear hch
  go_wp2_with fail
  go_ret
  obtain ⟨sn',A',c',g1,g2,g3⟩:=HP.out
  refine ⟨by rw [HH0.out]<;>rfl,sn',A',c',g1,(Fr.of_new HB.out).trans g2,Moved.of_PgW HB.out g3⟩
end Go.Proofs.Ytffemfglngikbaa
namespace Go.Proofs.Ytffemfglngikbaa
open Go.RowKit
def smallB (c:UInt8):Bool:=decide (97≤c.toNat) && decide (c.toNat≤122)
def greatB (c:UInt8):Bool:=decide (65≤c.toNat) && decide (c.toNat≤90)
def digitB (c:UInt8):Bool:=decide (48≤c.toNat) && decide (c.toNat≤57)
def partB (c:UInt8):Bool:=smallB c || digitB c || c.toNat == 45 || c.toNat == 95
def isWord (t:ByteArray):Bool:=decide (1≤t.size) && decide (t.size≤32) && t.data.toList.head?.any smallB && t.data.toList.all partB
theorem isWord_iff {t:ByteArray}:isWord t=true↔∃h:0<t.size,t.size≤32∧smallB t[0]=true∧∀k,(h:k<t.size)→partB t[k]=true:=by
 unfold isWord
 rw [Bool.and_eq_true,Bool.and_eq_true,Bool.and_eq_true,decide_eq_true_iff,decide_eq_true_iff,List.all_eq_true]
 have hs:t.data.toList.length=t.size:=Array.length_toList
 constructor
 · rintro ⟨⟨⟨h1,h2⟩,h3⟩,h4⟩
   refine ⟨h1,h2,?_,fun k h=>h4 _ ?_⟩
   · rw [List.head?_eq_getElem?,List.getElem?_eq_getElem (by omega)] at h3
     exact (by simpa only [Option.any_some,Array.getElem_toList] using h3:smallB t.data[0]=true)
   · have:t[k]=t.data.toList[k]'(by omega):=by rw [Array.getElem_toList];rfl
     rw [this];exact List.getElem_mem _
 · rintro ⟨h1,h2,h3,h4⟩
   refine ⟨⟨⟨h1,h2⟩,?_⟩,fun x hx=>?_⟩
   · rw [List.head?_eq_getElem?,List.getElem?_eq_getElem (by omega)]
     rw [Option.any_some,Array.getElem_toList]
     exact h3
   · obtain ⟨k,hk,rfl⟩:=List.getElem_of_mem hx
     have:=h4 k (by omega)
     rw [Array.getElem_toList]
     exact this
theorem isWord_no {t:ByteArray} (h : ¬∃h:0<t.size,t.size≤32∧smallB t[0]=true∧∀k,(h:k<t.size)→partB t[k]=true):isWord t=false:=by
 cases e:isWord t
 · rfl
 · exact absurd (isWord_iff.1 e) h
set_option maxHeartbeats 400000 in
theorem small_is (c:UInt8) (w:World):Calls Try.prog 96 #[.int .u8 (c.toNat:Int)] w fun e w'=>e = .returned (.bool (smallB c))∧w=w':=by
 by_cases h1:97≤c.toNat
 · have t1:decide ((97:Int)≤(c.toNat:Int))=true:=by simp;omega
   by_cases h2:c.toNat≤122
   · have t2:decide ((c.toNat:Int)≤122)=true:=by simp;omega
     have HF:Hid (smallB c=true):=by simp [Hid,smallB,h1,h2]
     clear h1 h2
     go_enter Try.func96,Try.ntmps96
     go_wp2
     go_ret
     exact ⟨by rw [HF.out];rfl,rfl⟩
   · have t2:decide ((c.toNat:Int)≤122)=false:=by simp;omega
     have HF:Hid (smallB c=false):=by simp [Hid,smallB,h2]
     clear h1 h2
     go_enter Try.func96,Try.ntmps96
     go_wp2
     go_ret
     exact ⟨by rw [HF.out];rfl,rfl⟩
 · have t1:decide ((97:Int)≤(c.toNat:Int))=false:=by simp;omega
   have HF:Hid (smallB c=false):=by simp [Hid,smallB,h1]
   clear h1
   go_enter Try.func96,Try.ntmps96
   go_wp2
   go_ret
   exact ⟨by rw [HF.out];rfl,rfl⟩
set_option maxHeartbeats 400000 in
theorem great_is (c:UInt8) (w:World):Calls Try.prog 112 #[.int .u8 (c.toNat:Int)] w fun e w'=>e = .returned (.bool (greatB c))∧w=w':=by
 by_cases h1:65≤c.toNat
 · have t1:decide ((65:Int)≤(c.toNat:Int))=true:=by simp;omega
   by_cases h2:c.toNat≤90
   · have t2:decide ((c.toNat:Int)≤90)=true:=by simp;omega
     have HF:Hid (greatB c=true):=by simp [Hid,greatB,h1,h2]
     clear h1 h2
     go_enter Try.func112,Try.ntmps112
     go_wp2
     go_ret
     exact ⟨by rw [HF.out];rfl,rfl⟩
   · have t2:decide ((c.toNat:Int)≤90)=false:=by simp;omega
     have HF:Hid (greatB c=false):=by simp [Hid,greatB,h2]
     clear h1 h2
     go_enter Try.func112,Try.ntmps112
     go_wp2
     go_ret
     exact ⟨by rw [HF.out];rfl,rfl⟩
 · have t1:decide ((65:Int)≤(c.toNat:Int))=false:=by simp;omega
   have HF:Hid (greatB c=false):=by simp [Hid,greatB,h1]
   clear h1
   go_enter Try.func112,Try.ntmps112
   go_wp2
   go_ret
   exact ⟨by rw [HF.out];rfl,rfl⟩
set_option maxHeartbeats 400000 in
theorem digit_is (c:UInt8) (w:World):Calls Try.prog 97 #[.int .u8 (c.toNat:Int)] w fun e w'=>e = .returned (.bool (digitB c))∧w=w':=by
 by_cases h1:48≤c.toNat
 · have t1:decide ((48:Int)≤(c.toNat:Int))=true:=by simp;omega
   by_cases h2:c.toNat≤57
   · have t2:decide ((c.toNat:Int)≤57)=true:=by simp;omega
     have HF:Hid (digitB c=true):=by simp [Hid,digitB,h1,h2]
     clear h1 h2
     go_enter Try.func97,Try.ntmps97
     go_wp2
     go_ret
     exact ⟨by rw [HF.out];rfl,rfl⟩
   · have t2:decide ((c.toNat:Int)≤57)=false:=by simp;omega
     have HF:Hid (digitB c=false):=by simp [Hid,digitB,h2]
     clear h1 h2
     go_enter Try.func97,Try.ntmps97
     go_wp2
     go_ret
     exact ⟨by rw [HF.out];rfl,rfl⟩
 · have t1:decide ((48:Int)≤(c.toNat:Int))=false:=by simp;omega
   have HF:Hid (digitB c=false):=by simp [Hid,digitB,h1]
   clear h1
   go_enter Try.func97,Try.ntmps97
   go_wp2
   go_ret
   exact ⟨by rw [HF.out];rfl,rfl⟩
set_option maxHeartbeats 1000000 in
theorem part_is (c:UInt8) (w:World):Calls Try.prog 67 #[.int .u8 (c.toNat:Int)] w fun e w'=>e = .returned (.bool (partB c))∧w=w':=by
 have HF:Hid (partB c=(((decide (97≤c.toNat) && decide (c.toNat≤122)) || (decide (48≤c.toNat) && decide (c.toNat≤57))) || decide (c.toNat=45) || decide (c.toNat=95))):=rfl
 have t1:decide ((97:Int)≤(c.toNat:Int))=decide (97≤c.toNat):=by apply decide_eq_decide.2;omega
 have t2:decide ((c.toNat:Int)≤122)=decide (c.toNat≤122):=by apply decide_eq_decide.2;omega
 have t3:decide ((48:Int)≤(c.toNat:Int))=decide (48≤c.toNat):=by apply decide_eq_decide.2;omega
 have t4:decide ((c.toNat:Int)≤57)=decide (c.toNat≤57):=by apply decide_eq_decide.2;omega
 have t5:((c.toNat:Int) == 45)=decide (c.toNat=45):=by rw [Bool.eq_iff_iff];simp;omega
 have t6:((c.toNat:Int) == 95)=decide (c.toNat=95):=by rw [Bool.eq_iff_iff];simp;omega
 cases h1:decide (97≤c.toNat)<;>cases h2:decide (c.toNat≤122)<;>cases h3:decide (48≤c.toNat)<;>cases h4:decide (c.toNat≤57)<;>cases h5:decide (c.toNat=45)<;>cases h6:decide (c.toNat=95)
 all_goals
  rw [h1] at t1;rw [h2] at t2;rw [h3] at t3;rw [h4] at t4;rw [h5] at t5;rw [h6] at t6
  have HF2:=HF.out
  rw [h1,h2,h3,h4,h5,h6] at HF2
  have HF3:=Lib.hid HF2
  clear h1 h2 h3 h4 h5 h6 HF HF2
  go_enter Try.func67,Try.ntmps67
  go_wp2
  go_ret
  exact ⟨by rw [HF3.out];rfl,rfl⟩
set_option maxRecDepth 100000 in
set_option maxHeartbeats 2000000 in
theorem word_is (t:ByteArray) (w:World):Calls Try.prog 86 #[.string t] w fun e w'=>e = .returned (.bool (isWord t))∧w=w':=by
 by_cases h1:t.size<1
 · have t1:decide ((t.size:Int)<1)=true:=by simp;omega
   have HF:=Lib.hid (isWord_no (t:=t) (fun ⟨h,_⟩=>by omega))
   clear h1
   go_enter Try.func86,Try.ntmps86
   go_wp2
   go_ret
   exact ⟨by rw [HF.out];rfl,rfl⟩
 have t1:decide ((t.size:Int)<1)=false:=by simp;omega
 by_cases h2:32<t.size
 · have t2:decide ((32:Int)<(t.size:Int))=true:=by simp;omega
   have HF:=Lib.hid (isWord_no (t:=t) (fun ⟨h,h3,_⟩=>by omega))
   clear h1 h2
   go_enter Try.func86,Try.ntmps86
   go_wp2
   go_ret
   exact ⟨by rw [HF.out];rfl,rfl⟩
 have t2:decide ((32:Int)<(t.size:Int))=false:=by simp;omega
 have h0:0<t.size:=by omega
 have h32:t.size≤32:=by omega
 clear h1 h2
 cases h3:smallB t[0]
 · have HF:=Lib.hid (isWord_no (t:=t) (fun ⟨h,_,h4,_⟩=>by rw [h3] at h4;cases h4))
   go_enter Try.func86,Try.ntmps86
   go_wp2_with (go_at_call 96;refine (small_is _ _).mono ?_;rintro e w' ⟨rfl,rfl⟩)
   go_ret
   exact ⟨by rw [HF.out];rfl,rfl⟩
 go_enter Try.func86,Try.ntmps86
 go_wp2_with (go_at_call 96;refine (small_is _ _).mono ?_;rintro e w' ⟨rfl,rfl⟩)
 have H3:=Lib.hid h3
 clear h3 t1 t2
 go_loop [3] (fun s=>∃i:Nat,s = .int .i64 i∧1≤i∧i≤t.size∧∀k,(h:k<t.size)→k<i→partB t[k]=true) (fun s=>t.size - (intOf s).toNat)
 case atStart=>exact ⟨1,rfl,Nat.le_refl _,h0,fun k h hk=>by obtain rfl:k=0:=by omega
                                                            simp [partB,H3.out]⟩
 case round=>
  obtain ⟨i,rfl,hi1,hi,hall⟩:=hrel
  have HALL:=Lib.hid hall
  clear hall
  by_cases hlt:i<t.size
  · have HP:Hid (partB t[i]=(smallB t[i] || digitB t[i] || decide (t[i].toNat=45) || decide (t[i].toNat=95))):=rfl
    have t5:((t[i].toNat:Int) != 45) = !decide (t[i].toNat=45):=by rw [Bool.eq_iff_iff];simp;omega
    have t6:((t[i].toNat:Int) != 95) = !decide (t[i].toNat=95):=by rw [Bool.eq_iff_iff];simp;omega
    cases hs:smallB t[i]<;>cases hd:digitB t[i]<;>cases h5:decide (t[i].toNat=45)<;>cases h6:decide (t[i].toNat=95)
    all_goals
     rw [h5] at t5;rw [h6] at t6
     simp only [Bool.not_true,Bool.not_false] at t5 t6
     have HF1:=HP.out
     rw [hs,hd,h5,h6] at HF1
     have HF2:=Lib.hid HF1
     clear h5 h6 HP HF1
     go_wp2_with (first | (go_at_call 96;refine (small_is _ _).mono ?_;rintro e w' ⟨rfl,rfl⟩) | (go_at_call 97;refine (digit_is _ _).mono ?_;rintro e w' ⟨rfl,rfl⟩))
     first
      | (go_ret
         refine ⟨?_,rfl⟩
         rw [isWord_no (t:=t) (fun ⟨_,_,_,h⟩=>by have h2:=h i hlt;rw [HF2.out] at h2;exact absurd h2 (by decide))];rfl)
      | (go_round
         case rel=>exact ⟨i+1,by go_num,by omega,by omega,fun k h hk=>by
          rcases Nat.lt_or_ge k i with h3 | h3
          · exact HALL.out k h h3
          · obtain rfl:k=i:=by omega
            rw [HF2.out];rfl⟩
         case measure=>simp [intOf]<;>omega)
  · have hie:i=t.size:=by omega
    subst hie
    go_wp2
    go_ret
    exact ⟨by rw [isWord_iff.2 ⟨h0,h32,H3.out,fun k h=>HALL.out k h h⟩];rfl,rfl⟩
set_option maxRecDepth 100000 in
set_option maxHeartbeats 2000000 in
theorem rword_is (t:ByteArray) (w:World):Calls Try.prog 48 #[.string t] w fun e w'=>e = .returned (.bool (isWord t))∧w=w':=by
 by_cases h1:t.size<1
 · have t1:decide ((t.size:Int)<1)=true:=by simp;omega
   have HF:=Lib.hid (isWord_no (t:=t) (fun ⟨h,_⟩=>by omega))
   clear h1
   go_enter Try.func48,Try.ntmps48
   go_wp2
   go_ret
   exact ⟨by rw [HF.out];rfl,rfl⟩
 have t1:decide ((t.size:Int)<1)=false:=by simp;omega
 by_cases h2:32<t.size
 · have t2:decide ((32:Int)<(t.size:Int))=true:=by simp;omega
   have HF:=Lib.hid (isWord_no (t:=t) (fun ⟨h,h3,_⟩=>by omega))
   clear h1 h2
   go_enter Try.func48,Try.ntmps48
   go_wp2
   go_ret
   exact ⟨by rw [HF.out];rfl,rfl⟩
 have t2:decide ((32:Int)<(t.size:Int))=false:=by simp;omega
 have h0:0<t.size:=by omega
 have h32:t.size≤32:=by omega
 clear h1 h2
 by_cases h3:t[0].toNat<97
 · have t3:decide ((t[0].toNat:Int)<97)=true:=by simp;omega
   have HF:=Lib.hid (isWord_no (t:=t) (fun ⟨h,_,h4,_⟩=>by simp [smallB] at h4;omega))
   clear h3
   go_enter Try.func48,Try.ntmps48
   go_wp2
   go_ret
   exact ⟨by rw [HF.out];rfl,rfl⟩
 have t3:decide ((t[0].toNat:Int)<97)=false:=by simp;omega
 by_cases h4:122<t[0].toNat
 · have t4:decide ((122:Int)<(t[0].toNat:Int))=true:=by simp;omega
   have HF:=Lib.hid (isWord_no (t:=t) (fun ⟨h,_,h4,_⟩=>by simp [smallB] at h4;omega))
   clear h3 h4
   go_enter Try.func48,Try.ntmps48
   go_wp2
   go_ret
   exact ⟨by rw [HF.out];rfl,rfl⟩
 have t4:decide ((122:Int)<(t[0].toNat:Int))=false:=by simp;omega
 have h5:smallB t[0]=true:=by simp [smallB];omega
 have H5:=Lib.hid h5
 clear h3 h4 h5
 go_enter Try.func48,Try.ntmps48
 go_wp2
 clear t1 t2 t3 t4
 go_loop [3] (fun s=>∃i:Nat,s = .int .i64 i∧i≤t.size∧∀k,(h:k<t.size)→k<i→partB t[k]=true) (fun s=>t.size - (intOf s).toNat)
 case atStart=>exact ⟨0,rfl,Nat.zero_le _,fun k h hk=>by omega⟩
 case round=>
  obtain ⟨i,rfl,hi,hall⟩:=hrel
  have HALL:=Lib.hid hall
  clear hall
  by_cases hlt:i<t.size
  · cases hp:partB t[i]
    · go_wp2_with (go_at_call 67;refine (part_is _ _).mono ?_;rintro e w' ⟨rfl,rfl⟩)
      go_ret
      refine ⟨?_,rfl⟩
      rw [isWord_no (t:=t) (fun ⟨_,_,_,h⟩=>by have h2:=h i hlt;rw [hp] at h2;cases h2)];rfl
    · have HP:=Lib.hid hp
      go_wp2_with (go_at_call 67;refine (part_is _ _).mono ?_;rintro e w' ⟨rfl,rfl⟩)
      go_round
      case rel=>exact ⟨i+1,by go_num,by omega,fun k h hk=>by
              rcases Nat.lt_or_ge k i with h3 | h3
              · exact HALL.out k h h3
              · obtain rfl:k=i:=by omega
                exact HP.out⟩
      case measure=>simp [intOf]<;>omega
  · have hie:i=t.size:=by omega
    subst hie
    go_wp2
    go_ret
    exact ⟨by rw [isWord_iff.2 ⟨h0,h32,H5.out,fun k h=>HALL.out k h h⟩];rfl,rfl⟩
end Go.Proofs.Ytffemfglngikbaa
namespace Go.Proofs.Ytffemfglngikbaa
open Go.RowKit
def byte1 (n:Nat):ByteArray:=⟨#[UInt8.ofNat (48+n)]⟩
theorem conv1 (n:Nat) (h:n<10) (W:World) (g:Nat) (hc:W.cell? ⟨g,0,none⟩=some (.int .u8 (48+(n:Int)))):(convert 111 9 (.slice (some ⟨g,0,none⟩) 1 1)).run Try.prog W = .ok (.string (byte1 n)) W:=
 Lib.run_convert_whole (P:=Try.prog) W 111 5 9 Try.underlying111 Try.underlying5 Try.underlying9 g 0 (byte1 n) (fun i hi=>by
  have:i=0:=by have:(byte1 n).size=1:=rfl;omega
  subst this
  rw [Nat.add_zero,hc]
  have e:(byte1 n)[0].toNat=48+n:=by show (UInt8.ofNat (48+n)).toNat=48+n;simp;omega
  rw [e]
  simp) 1
def decB (n:Nat):ByteArray:=if n<10 then byte1 n else decB (n / 10)++byte1 (n % 10)
theorem byte1_size (n:Nat):(byte1 n).size=1:=rfl
theorem decB_size (n:Nat):(decB n).size≤n+1:=by
 induction n using Nat.strongRecOn with
 | _ n ih=>
   rw [decB]
   split
   · rw [byte1_size];omega
   · have h1:=ih (n / 10) (by omega)
     rw [ByteArray.size_append,byte1_size];omega
set_option maxRecDepth 100000 in
set_option maxHeartbeats 4000000 in
theorem digits_step (n:Nat) (h : ¬n<10) (hn:n≤4000000000) (ih : ∀w,Calls Try.prog 111 #[.int .i64 ((n / 10:Nat):Int)] w fun e w'=>e = .returned (.string (decB (n / 10)))∧Below w.heap.size w w') (w:World):Calls Try.prog 111 #[.int .i64 n] w fun e w'=>e = .returned (.string (decB n))∧Below w.heap.size w w':=by
 have t1:decide ((n:Int)<10)=false:=by simp;omega
 have b0:(0:Int)≤(n:Int):=by omega
 have b1:(n:Int)≤4000000000:=by omega
 have hc:=conv1 (n % 10) (by omega)
 have e1:((n:Int) / 10)=((n / 10:Nat):Int):=by omega
 have e2:((n:Int) % 10)=((n % 10:Nat):Int):=by omega
 have m0:(0:Int)≤((n % 10:Nat):Int):=by omega
 have m1:((n % 10:Nat):Int)≤9:=by omega
 obtain ⟨m,hm⟩ : ∃m,m=n % 10:=⟨_,rfl⟩
 obtain ⟨q,hq⟩ : ∃q,q=n / 10:=⟨_,rfl⟩
 rw [← hm] at hc e2 m0 m1
 rw [← hq] at e1 ih
 have HD:Hid (decB n=decB q++byte1 m):=by rw [decB,if_neg h,hm,hq];rfl
 have v1:IntKind.i64.wrap (q:Int)=(q:Int):=IntWalk.i64_in _ (by omega)
 have v2:((n:Int)).tmod 10=(m:Int):=by rw [Int.tmod_eq_emod_of_nonneg b0,e2]
 have v3:IntKind.i64.wrap (48+(m:Int))=48+(m:Int):=IntWalk.i64_in _ (by omega)
 have v4:IntKind.u8.wrap (48+(m:Int))=48+(m:Int):=by simp [IntKind.wrap,IntKind.signed,IntKind.bits];omega
 have hz : ¬9223372036854775807<(decB q).size+(byte1 m).size:=by have:=decB_size q;rw [byte1_size];omega
 clear e2
 have IH:=Lib.hid ih
 have HC:=Lib.hid hc
 clear ih h hm hq hc
 go_enter Try.func111,Try.ntmps111
 go_wp2_with fail
 refine wp_region_Pl (fun _=>True) [0,1,3,4,5,6,9,10] [] (.fork [(0,0),(1,0),(3,0),(4,0),(5,0),(6,0)] 2 (.fin [(7,2),(8,2),(9,0),(10,0)]) 7 (.fork [] 2 (.fin [(8,2),(9,0),(10,0)]) 8 (.fin [(2,2),(9,0),(10,0)]))) (by kernel_rfl) (by kernel_rfl) (by kernel_rfl) (fun KK hKK=>?_)
 simp only [wpPl,beside,List.filterMap_cons,List.filterMap_nil,List.getElem?_toArray,List.getElem?_cons_zero,List.getElem?_cons_succ,Option.map_some,List.any_nil]
 repeat (refine wpY_w ?_ (Or.inl ⟨by rfl,fun w9=>?_⟩) ?_;rotate_left 1;go_simp;with_reducible rfl;go_frame)
 refine wpY_nil ⟨?_,?_⟩
 · refine wpOp_c (fun _=>by simp) rfl (fun K9 hK9=>?_)
   go_simp
   refine (IH.out _).mono ?_
   rintro e w1 ⟨rfl,hb1⟩
   refine hK9 _ _ ?_
   clear hK9 K9
   try go_frame
   refine wpY_e (by rfl) (fun K9 hK9=>?_)
   go_simp
   refine hK9 _ _ ?_
   clear hK9 K9
   try go_frame
   refine wpY_e (by rfl) (fun K9 hK9=>?_)
   have hc:=HC.out (w1.alloc (.cells #[.int .u8 (48+(m:Int))] 5)) w1.heap.size ((Blk.new _ _ _).cell 0)
   go_simp
   refine hK9 _ _ ?_
   clear hK9 K9 hc
   try go_frame
   repeat (refine wpY_w ?_ (Or.inl ⟨by rfl,fun w9=>?_⟩) ?_;rotate_left 1;go_simp;with_reducible rfl;go_frame)
   refine wpY_nil ?_
   simp only [OnlyN_normal]
   refine hKK _ _ ?_
   clear hKK KK
   go_wp2_with fail
   go_ret
   exact ⟨by rw [HD.out];rfl,((Below.refl _ _).drew.trans (hb1.mono (by simp))).alloc (by have:=hb1.size;simpa using this) _⟩
 · refine wpOp_c (fun _=>by simp) rfl (fun K9 hK9=>?_)
   go_simp
   refine hK9 _ _ ?_
   clear hK9 K9
   try go_frame
   try simp only [beside]
   refine wpY_nil ⟨?_,?_⟩
   · refine wpOp_c (fun _=>by simp) rfl (fun K9 hK9=>?_)
     go_simp
     refine (IH.out _).mono ?_
     rintro e w1 ⟨rfl,hb1⟩
     refine hK9 _ _ ?_
     clear hK9 K9
     try go_frame
     refine wpY_e (by rfl) (fun K9 hK9=>?_)
     have hc:=HC.out w1 w.heap.size ((hb1.cell (by simp)).trans ((Blk.new w.drew 5 #[.int .u8 (48+(m:Int))]).cell 0))
     go_simp
     refine hK9 _ _ ?_
     clear hK9 K9 hc
     try go_frame
     repeat (refine wpY_w ?_ (Or.inl ⟨by rfl,fun w9=>?_⟩) ?_;rotate_left 1;go_simp;with_reducible rfl;go_frame)
     refine wpY_nil ?_
     simp only [OnlyN_normal]
     refine hKK _ _ ?_
     clear hKK KK
     go_wp2_with fail
     go_ret
     exact ⟨by rw [HD.out];rfl,((Below.refl _ _).drew.alloc (by simp) _).trans (hb1.mono (by simp))⟩
   · refine wpOp_c (fun _=>by simp) rfl (fun K9 hK9=>?_)
     have hc:=HC.out (w.alloc (.cells #[.int .u8 (48+(m:Int))] 5)).drew w.heap.size (((Blk.new w 5 #[.int .u8 (48+(m:Int))]).drew.cell 0).trans rfl)
     go_simp
     refine hK9 _ _ ?_
     clear hK9 K9 hc
     try go_frame
     refine wpY_e (by rfl) (fun K9 hK9=>?_)
     go_simp
     refine (IH.out _).mono ?_
     rintro e w1 ⟨rfl,hb1⟩
     refine hK9 _ _ ?_
     clear hK9 K9
     try go_frame
     repeat (refine wpY_w ?_ (Or.inl ⟨by rfl,fun w9=>?_⟩) ?_;rotate_left 1;go_simp;with_reducible rfl;go_frame)
     refine wpY_nil ?_
     simp only [OnlyN_normal]
     refine hKK _ _ ?_
     clear hKK KK
     go_wp2_with fail
     go_ret
     exact ⟨by rw [HD.out];rfl,((Below.refl _ _).drew.alloc (by simp) _).trans (hb1.mono (by simp))⟩
set_option maxRecDepth 100000 in
set_option maxHeartbeats 1000000 in
theorem digits_base (n:Nat) (h:n<10) (w:World):Calls Try.prog 111 #[.int .i64 n] w fun e w'=>e = .returned (.string (decB n))∧Below w.heap.size w w':=by
 have t1:decide ((n:Int)<10)=true:=by simp;omega
 have b0:(0:Int)≤(n:Int):=by omega
 have b1:(n:Int)≤9:=by omega
 have hc:=conv1 n h (w.alloc (.cells #[.int .u8 (48+(n:Int))] 5)) w.heap.size ((Blk.new _ _ _).cell 0)
 have HD:Hid (decB n=byte1 n):=by rw [decB,if_pos h];rfl
 clear h
 go_enter Try.func111,Try.ntmps111
 go_wp2_with fail
 go_ret
 exact ⟨by rw [HD.out];rfl,(Below.refl _ _).alloc (Nat.le_refl _) _⟩
theorem digits_is (n:Nat) (hn:n≤4000000000) (w:World):Calls Try.prog 111 #[.int .i64 n] w fun e w'=>e = .returned (.string (decB n))∧Below w.heap.size w w':=by
 induction n using Nat.strongRecOn generalizing w with
 | _ n ih=>
   by_cases h:n<10
   · exact digits_base n h w
   · exact digits_step n h hn (fun w=>ih (n / 10) (by omega) (by omega) w) w
set_option maxRecDepth 100000 in
set_option maxHeartbeats 4000000 in
theorem cdigits_step (n:Nat) (h : ¬n<10) (hn:n≤4000000000) (ih : ∀w,Calls Try.prog 45 #[.int .i64 ((n / 10:Nat):Int)] w fun e w'=>e = .returned (.string (decB (n / 10)))∧Below w.heap.size w w') (w:World):Calls Try.prog 45 #[.int .i64 n] w fun e w'=>e = .returned (.string (decB n))∧Below w.heap.size w w':=by
 have t1:decide ((n:Int)<10)=false:=by simp;omega
 have b0:(0:Int)≤(n:Int):=by omega
 have b1:(n:Int)≤4000000000:=by omega
 have hc:=conv1 (n % 10) (by omega)
 have e1:((n:Int) / 10)=((n / 10:Nat):Int):=by omega
 have e2:((n:Int) % 10)=((n % 10:Nat):Int):=by omega
 have m0:(0:Int)≤((n % 10:Nat):Int):=by omega
 have m1:((n % 10:Nat):Int)≤9:=by omega
 obtain ⟨m,hm⟩ : ∃m,m=n % 10:=⟨_,rfl⟩
 obtain ⟨q,hq⟩ : ∃q,q=n / 10:=⟨_,rfl⟩
 rw [← hm] at hc e2 m0 m1
 rw [← hq] at e1 ih
 have HD:Hid (decB n=decB q++byte1 m):=by rw [decB,if_neg h,hm,hq];rfl
 have v1:IntKind.i64.wrap (q:Int)=(q:Int):=IntWalk.i64_in _ (by omega)
 have v2:((n:Int)).tmod 10=(m:Int):=by rw [Int.tmod_eq_emod_of_nonneg b0,e2]
 have v3:IntKind.i64.wrap (48+(m:Int))=48+(m:Int):=IntWalk.i64_in _ (by omega)
 have v4:IntKind.u8.wrap (48+(m:Int))=48+(m:Int):=by simp [IntKind.wrap,IntKind.signed,IntKind.bits];omega
 have hz : ¬9223372036854775807<(decB q).size+(byte1 m).size:=by have:=decB_size q;rw [byte1_size];omega
 clear e2
 have IH:=Lib.hid ih
 have HC:=Lib.hid hc
 clear ih h hm hq hc
 go_enter Try.func45,Try.ntmps45
 go_wp2_with fail
 refine wp_region_Pl (fun _=>True) [0,1,3,4,5,6,9,10] [] (.fork [(0,0),(1,0),(3,0),(4,0),(5,0),(6,0)] 2 (.fin [(7,2),(8,2),(9,0),(10,0)]) 7 (.fork [] 2 (.fin [(8,2),(9,0),(10,0)]) 8 (.fin [(2,2),(9,0),(10,0)]))) (by kernel_rfl) (by kernel_rfl) (by kernel_rfl) (fun KK hKK=>?_)
 simp only [wpPl,beside,List.filterMap_cons,List.filterMap_nil,List.getElem?_toArray,List.getElem?_cons_zero,List.getElem?_cons_succ,Option.map_some,List.any_nil]
 repeat (refine wpY_w ?_ (Or.inl ⟨by rfl,fun w9=>?_⟩) ?_;rotate_left 1;go_simp;with_reducible rfl;go_frame)
 refine wpY_nil ⟨?_,?_⟩
 · refine wpOp_c (fun _=>by simp) rfl (fun K9 hK9=>?_)
   go_simp
   refine (IH.out _).mono ?_
   rintro e w1 ⟨rfl,hb1⟩
   refine hK9 _ _ ?_
   clear hK9 K9
   try go_frame
   refine wpY_e (by rfl) (fun K9 hK9=>?_)
   go_simp
   refine hK9 _ _ ?_
   clear hK9 K9
   try go_frame
   refine wpY_e (by rfl) (fun K9 hK9=>?_)
   have hc:=HC.out (w1.alloc (.cells #[.int .u8 (48+(m:Int))] 5)) w1.heap.size ((Blk.new _ _ _).cell 0)
   go_simp
   refine hK9 _ _ ?_
   clear hK9 K9 hc
   try go_frame
   repeat (refine wpY_w ?_ (Or.inl ⟨by rfl,fun w9=>?_⟩) ?_;rotate_left 1;go_simp;with_reducible rfl;go_frame)
   refine wpY_nil ?_
   simp only [OnlyN_normal]
   refine hKK _ _ ?_
   clear hKK KK
   go_wp2_with fail
   go_ret
   exact ⟨by rw [HD.out];rfl,((Below.refl _ _).drew.trans (hb1.mono (by simp))).alloc (by have:=hb1.size;simpa using this) _⟩
 · refine wpOp_c (fun _=>by simp) rfl (fun K9 hK9=>?_)
   go_simp
   refine hK9 _ _ ?_
   clear hK9 K9
   try go_frame
   try simp only [beside]
   refine wpY_nil ⟨?_,?_⟩
   · refine wpOp_c (fun _=>by simp) rfl (fun K9 hK9=>?_)
     go_simp
     refine (IH.out _).mono ?_
     rintro e w1 ⟨rfl,hb1⟩
     refine hK9 _ _ ?_
     clear hK9 K9
     try go_frame
     refine wpY_e (by rfl) (fun K9 hK9=>?_)
     have hc:=HC.out w1 w.heap.size ((hb1.cell (by simp)).trans ((Blk.new w.drew 5 #[.int .u8 (48+(m:Int))]).cell 0))
     go_simp
     refine hK9 _ _ ?_
     clear hK9 K9 hc
     try go_frame
     repeat (refine wpY_w ?_ (Or.inl ⟨by rfl,fun w9=>?_⟩) ?_;rotate_left 1;go_simp;with_reducible rfl;go_frame)
     refine wpY_nil ?_
     simp only [OnlyN_normal]
     refine hKK _ _ ?_
     clear hKK KK
     go_wp2_with fail
     go_ret
     exact ⟨by rw [HD.out];rfl,((Below.refl _ _).drew.alloc (by simp) _).trans (hb1.mono (by simp))⟩
   · refine wpOp_c (fun _=>by simp) rfl (fun K9 hK9=>?_)
     have hc:=HC.out (w.alloc (.cells #[.int .u8 (48+(m:Int))] 5)).drew w.heap.size (((Blk.new w 5 #[.int .u8 (48+(m:Int))]).drew.cell 0).trans rfl)
     go_simp
     refine hK9 _ _ ?_
     clear hK9 K9 hc
     try go_frame
     refine wpY_e (by rfl) (fun K9 hK9=>?_)
     go_simp
     refine (IH.out _).mono ?_
     rintro e w1 ⟨rfl,hb1⟩
     refine hK9 _ _ ?_
     clear hK9 K9
     try go_frame
     repeat (refine wpY_w ?_ (Or.inl ⟨by rfl,fun w9=>?_⟩) ?_;rotate_left 1;go_simp;with_reducible rfl;go_frame)
     refine wpY_nil ?_
     simp only [OnlyN_normal]
     refine hKK _ _ ?_
     clear hKK KK
     go_wp2_with fail
     go_ret
     exact ⟨by rw [HD.out];rfl,((Below.refl _ _).drew.alloc (by simp) _).trans (hb1.mono (by simp))⟩
set_option maxRecDepth 100000 in
set_option maxHeartbeats 1000000 in
theorem cdigits_base (n:Nat) (h:n<10) (w:World):Calls Try.prog 45 #[.int .i64 n] w fun e w'=>e = .returned (.string (decB n))∧Below w.heap.size w w':=by
 have t1:decide ((n:Int)<10)=true:=by simp;omega
 have b0:(0:Int)≤(n:Int):=by omega
 have b1:(n:Int)≤9:=by omega
 have hc:=conv1 n h (w.alloc (.cells #[.int .u8 (48+(n:Int))] 5)) w.heap.size ((Blk.new _ _ _).cell 0)
 have HD:Hid (decB n=byte1 n):=by rw [decB,if_pos h];rfl
 clear h
 go_enter Try.func45,Try.ntmps45
 go_wp2_with fail
 go_ret
 exact ⟨by rw [HD.out];rfl,(Below.refl _ _).alloc (Nat.le_refl _) _⟩
theorem cdigits_is (n:Nat) (hn:n≤4000000000) (w:World):Calls Try.prog 45 #[.int .i64 n] w fun e w'=>e = .returned (.string (decB n))∧Below w.heap.size w w':=by
 induction n using Nat.strongRecOn generalizing w with
 | _ n ih=>
   by_cases h:n<10
   · exact cdigits_base n h w
   · exact cdigits_step n h hn (fun w=>ih (n / 10) (by omega) (by omega) w) w
def numB (n:Int):ByteArray:=if n<0 then ⟨#[45]⟩++decB (-n).toNat else decB n.toNat
end Go.Proofs.Ytffemfglngikbaa
