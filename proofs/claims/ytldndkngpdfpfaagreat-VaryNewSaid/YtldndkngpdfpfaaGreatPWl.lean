/-
  Texts put together: OpsName, PutName, MiscName, NewName, WorkName, IterBase, Seq, Known1, Known3, Tab, Known2, Known4.
-/
import Derived.Test.YtldndkngpdfpfaaGreatPWk
import Derived.Test.YtldndkngpdfpfaaGreatPWb
import Derived.Test.YtldndkngpdfpfaaGreatPWc
import Derived.Test.YtldndkngpdfpfaaGreatRows
import Derived.Test.YtldndkngpdfpfaaGreatPWa
import Derived.Test.YtldndkngpdfpfaaGreatPWh
import Derived.Test.YtldndkngpdfpfaaGreatPWg
import Derived.Maps.RangeWalk
namespace Go.Proofs.YtldndkngpdfpfaaGreat
open Go.RowKit
theorem info_Name:(Tryz.prog.info? 197).map (fun i=>(i.zero,i.size,i.bytes))=some (some (.string ⟨#[]⟩),1,16):=by kernel_rfl
theorem Name.one (x:Name) : ∀u∈Name.cells x,u.oneCell'=true:=by intro u hu;simp [Name.cells] at hu;rcases hu with rfl<;>rfl
theorem Name.oneAll (l:List Name) : ∀u∈l.flatMap Name.cells,u.oneCell'=true:=by intro u hu;obtain ⟨x,_,hx⟩:=List.mem_flatMap.1 hu;exact Name.one x u hx
def OwnPostName (w:World) (b:Nat) (sn:Bool) (A:Option Addr) (l:List Name) (e:Ending) (w':World):Prop:=
 e = .returned (.tuple #[])∧∃A' c',NameSet w' b false A' c' l∧Fr (· = b) w w'∧Moved w sn A false A'
set_option maxRecDepth 100000 in
set_option maxHeartbeats 1000000 in
theorem own_no_Name (b c:Nat) (A:Option Addr) (l:List Name) (w:World) (hS:NameSet w b false A c l) :
 Calls Tryz.prog 199 #[.pointer (some ⟨b,0,none⟩)] w (OwnPostName w b false A l):=by
 have h1:=hS.cell1
 have HS:=Lib.hid hS
 clear hS
 go_enter Tryz.func199,Tryz.ntmps199
 go_wp2
 go_end0
 exact ⟨rfl,A,c,HS.out,Fr.refl _ _,.inl ⟨rfl,rfl⟩⟩
set_option maxRecDepth 100000 in
set_option maxHeartbeats 1000000 in
theorem own_yes_Name (b c:Nat) (A:Option Addr) (l:List Name) (w:World) (hS:NameSet w b true A c l) (hl:(l.length:Int)≤1000000000) :
 Calls Tryz.prog 199 #[.pointer (some ⟨b,0,none⟩)] w (OwnPostName w b true A l):=by
 obtain ⟨i0,hi,hz0,hz1,hz2⟩:=info_parts info_Name
 have h0:=hS.cell0
 have h1:=hS.cell1
 have hb:=hS.lt
 have f0:=hS.blk.frozen 0
 have f1:=hS.blk.frozen 1
 have hrd:=hS.rd Name.cells_length
 have HB:=Lib.hid hS.blk
 have HRD:=Lib.hid hrd
 clear hS hrd
 have e1:IntKind.i64.wrap ((l.length:Int)+1)=(l.length:Int)+1:=IntWalk.i64_in _ (by omega)
 have hmk : ∀W:World,(Instr.makeSlice 242 (.int .i64 0) (.int .i64 ((l.length:Int)+1))).run Tryz.prog W = .ok (.slice (some ⟨W.heap.size,0,none⟩) 0 (l.length+1)) (W.alloc (.cells (madeCells (Value.cells (.string ⟨#[]⟩)) ((l.length+1))) 197)):=fun W=>by
  have h:=run_make (P:=Tryz.prog) W 242 197 i0 _ Tryz.underlying242 hi hz0 .i64 .i64 0 ((l.length:Int)+1) (by omega) (by omega) (by rw [hz2];omega) (by omega)
  rw [hz1] at h
  simpa [show ((l.length:Int)+1).toNat=l.length+1 by omega] using h
 go_enter Tryz.func199,Tryz.ntmps199
 go_wp2_with fail
 refine wp_region_E (fun w9=>Below w.heap.size w w9) [(0,0),(1,0),(2,0),(3,0),(4,1),(5,0),(6,0),(8,0),(9,0),(10,0),(11,1),(7,2),(12,2),(13,0),(14,0),(15,2)] (by kernel_rfl) (by kernel_rfl) (fun KK hKK=>?_)
 simp only [beside,List.filterMap_cons,List.filterMap_nil,List.getElem?_toArray,List.getElem?_cons_zero,List.getElem?_cons_succ,Option.map_some]
 repeat ((first | (refine wpX_w ?_ (Or.inl ⟨by rfl,fun w9=>?_⟩) ?_;rotate_left 1;go_simp;with_reducible rfl) | (refine wpX_l ?_ (((Below.refl _ _).drew)) (Or.inl ⟨by rfl,fun w9 hw9=>?_⟩) ?_;rotate_left 1;obtain ⟨hc9,hf9⟩:=bcell hw9;go_simp;with_reducible rfl) | refine wpX_w undef (Or.inr ⟨by rfl,rfl⟩) ?_ | refine wpX_l undef (((Below.refl _ _).drew)) (Or.inr ⟨by rfl,rfl⟩) ?_);go_frame)
 refine wpX_es (fun K9 hK9=>?_)
 go_simp
 refine hK9 _ _ (((Below.refl _ _).drew).alloc (Nat.le_refl _) _) ?_
 clear hK9 K9
 refine wpX_e (by kernel_rfl) (fun K9 hK9=>?_)
 refine step_append_src _ (by rfl) _ _ _ (by rfl) 197 i0 _ 1 16 Tryz.underlying242 hi hz0 hz1 hz2 rfl (by omega) _ 0 [] (by rfl) (World.ownsRow_made _ _ _ (Nat.zero_le _) (by unfold maxLen;omega) (by simp [madeCells])) A l.length c (l.flatMap Name.cells) (by rfl) (flat_length Name.cells_length l)
  ((HRD.out.drew.alloc _).news Name.cells_length (by omega)) (Name.oneAll l) (by unfold maxLen;omega) (by omega) ?_
 intro v2 w2 hown hgr hnil hat
 refine hK9 _ _ ?_
 clear hK9 K9
 rw [Nat.zero_add,List.nil_append] at hown
 obtain ⟨A',c',rfl,_,_,hz⟩:=own_form2 hown
 have HB1:=(HB.out.drew.alloc (.cells (madeCells (Value.cells (.string ⟨#[]⟩)) ((l.length+1))) 197)).grown hgr (by simp [Value.ownBlock];omega)
 have c0:=(HB1.cell 0).trans rfl
 have c1:=(HB1.cell 1).trans rfl
 have z0:=HB1.frozen 0
 have z1:=HB1.frozen 1
 have HB2:=Lib.hid HB1
 clear HB1
 repeat ((first | (refine wpX_w ?_ (Or.inl ⟨by rfl,fun w9=>?_⟩) ?_;rotate_left 1;go_simp;with_reducible rfl) | (refine wpX_l ?_ (((Below.refl _ _).drew).alloc (Nat.le_refl _) _) (Or.inl ⟨by rfl,fun w9 hw9=>?_⟩) ?_;rotate_left 1;obtain ⟨hc9,hf9⟩:=bcell hw9;go_simp;with_reducible rfl) | refine wpX_w undef (Or.inr ⟨by rfl,rfl⟩) ?_ | refine wpX_l undef (((Below.refl _ _).drew).alloc (Nat.le_refl _) _) (Or.inr ⟨by rfl,rfl⟩) ?_);go_frame)
 refine wpX_e (by kernel_rfl) (fun K9 hK9=>?_)
 go_simp
 refine hK9 _ _ ?_
 clear hK9 K9
 refine wpX_nil ?_
 simp only [OnlyN_normal]
 refine hKK _ _ ?_
 clear hKK KK
 go_wp2
 go_end0
 have hb2:(Value.slice A' l.length c').ownBlock=some w.heap.size∨(Value.slice A' l.length c').ownBlock=some (w.heap.size+1):=by
  rcases hat with h | h
  · left;rw [h];rfl
  · right;rw [h];simp
 have hA : ∃g,w.heap.size≤g∧A'=some ⟨g,0,none⟩:=by
  rcases A' with _ | a
  · exfalso;simp [Value.ownBlock] at hb2
  · obtain ⟨g,rfl⟩:=hz a rfl
    refine ⟨g,?_,rfl⟩
    simp [Value.ownBlock] at hb2
    omega
 obtain ⟨g,hg,rfl⟩:=hA
 have HB1:=HB2.out
 have HF:Fr (· = b) w w2:=((Fr.refl (· = b) w).drew.alloc _).grown hgr (fun k e=>by simp [Value.ownBlock] at e;right;omega)
 refine ⟨rfl,some ⟨g,0,none⟩,c',⟨(HB1.set_ 0 _).set_ 1 _,?_⟩,(HF.setCell (p:=⟨b,0,none⟩) (.inl rfl) _).setCell (p:=⟨b,1,none⟩) (.inl rfl) _,.inr ⟨rfl,g,hg,rfl⟩⟩
 have hne:(Value.slice (some ⟨g,0,none⟩) l.length c').ownBlock≠some b:=by simp [Value.ownBlock];omega
 exact ownsRow_setCell_other (a:=⟨b,1,none⟩) (ownsRow_setCell_other (a:=⟨b,0,none⟩) hown hne _) hne _
theorem own_Name (b c:Nat) (sn:Bool) (A:Option Addr) (l:List Name) (w:World) (hS:NameSet w b sn A c l) (hl:(l.length:Int)≤1000000000) :
 Calls Tryz.prog 199 #[.pointer (some ⟨b,0,none⟩)] w (OwnPostName w b sn A l):=by
 cases sn
 · exact own_no_Name b c A l w hS
 · exact own_yes_Name b c A l w hS hl
end Go.Proofs.YtldndkngpdfpfaaGreat
namespace Go.Proofs.YtldndkngpdfpfaaGreat
open Go.RowKit
def PutPostName (w:World) (b:Nat) (sn:Bool) (A:Option Addr) (l:List Name) (x:Name) (e:Ending) (w':World):Prop:=
 e = .returned (.bool (!has cmpName l x))∧∃sn' A' c',NameSet w' b sn' A' c' (put cmpName l x)∧Fr (SetMod b sn A) w w'∧Moved w sn A sn' A'
set_option maxRecDepth 100000 in
set_option maxHeartbeats 1000000 in
theorem put_there_Name (b c:Nat) (sn:Bool) (A:Option Addr) (l:List Name) (x:Name) (w:World) (hS:NameSet w b sn A c l) (hs:Srt cmpName l) (hl:(l.length:Int)≤100000000) (hh:has cmpName l x=true) :
 Calls Tryz.prog 160 #[.pointer (some ⟨b,0,none⟩),.string x] w (PutPostName w b sn A l x):=by
 have HS:=Lib.hid hS
 have HO:=Lib.hid hs
 clear hS hs
 go_enter Tryz.func160,Tryz.ntmps160
 go_wp2_with fail
 refine (find_Name b c sn A l x _ (HS.out.new_ (Below.refl _ _)) HO.out (by omega)).mono ?_
 rintro e w1 ⟨rfl,hb1⟩
 go_wp2_with fail
 go_ret
 refine ⟨by rw [hh];rfl,sn,A,c,?_,Fr.of_new ((Below.refl _ _).trans (hb1.mono (by simp))),.inl ⟨rfl,rfl⟩⟩
 rw [put_has hh]
 exact HS.out.new_ ((Below.refl _ _).trans (hb1.mono (by simp)))
set_option maxRecDepth 100000 in
set_option maxHeartbeats 4000000 in
theorem put_new_Name (b c:Nat) (sn:Bool) (A:Option Addr) (l:List Name) (x:Name) (w:World) (hS:NameSet w b sn A c l) (hs:Srt cmpName l) (hl:(l.length:Int)≤100000000) (hh:has cmpName l x=false) :
 Calls Tryz.prog 160 #[.pointer (some ⟨b,0,none⟩),.string x] w (PutPostName w b sn A l x):=by
 obtain ⟨i0,hi,hz0,hz1,hz2⟩:=info_parts info_Name
 have HS:=Lib.hid hS
 have HO:=Lib.hid hs
 have hb:=hS.lt
 clear hS hs
 have hrk:=rank_le (cmp:=cmpName) l x
 go_enter Tryz.func160,Tryz.ntmps160
 go_wp2_with fail
 have hSa:=HS.out.new_ (Below.refl w.heap.size w)
 have HSa:=Lib.hid hSa
 clear hSa
 refine (find_Name b c sn A l x _ HSa.out HO.out (by omega)).mono ?_
 rintro e w1 ⟨rfl,hb1⟩
 have HS1:=Lib.hid (HSa.out.new_ hb1)
 have hsz1:w.heap.size≤w1.heap.size:=by have:=hb1.size;(try simp at this);omega
 have HB1:=Lib.hid hb1
 clear hb1
 go_wp2_with fail
 refine (own_Name b c sn A l _ HS1.out (by omega)).mono ?_
 rintro e w2 ⟨rfl,A1,c1,hS2,hF2,hM2⟩
 have hsz2:w1.heap.size≤w2.heap.size:=hF2.size
 have s0:=hS2.cell0
 have f0:=hS2.blk.frozen 0
 have hb2:b<w2.heap.size:=by omega
 have HS2:=Lib.hid hS2
 have HF2:=Lib.hid hF2
 have HM2:=Lib.hid hM2
 clear hS2 hF2 hM2 
 go_upto_region 8 with
  (at_builtin;refine wpList_append_src (w2.alloc (.cells #[Value.string x] 197)) rfl (.tmp 23) (.tmp 25) 242 rfl 197 i0 _ 1 16 Tryz.underlying242 hi hz0 hz1 hz2 rfl (by omega) (.slice A1 l.length c1) l.length (l.flatMap Name.cells) rfl (ownsRow_new HS2.out.row ((Below.refl _ _).alloc (Nat.le_refl _) _)) (some ⟨w2.heap.size,0,none⟩) 1 1 (Name.cells x) rfl rfl (fun _=>⟨_,rfl,World.news_of_block (heap_alloc_new _ _)⟩) (Name.one x) (by unfold maxLen;omega) (by omega) ?_;
   intro v2 w3 hown hgr hnil hat;
   obtain ⟨g,c2,rfl⟩ : ∃g c2,v2 = .slice (some ⟨g,0,none⟩) (l.length+1) c2:=(by
    rcases ownsRow_form hown with ⟨_,h0,_⟩ | ⟨g,c2,h,_⟩
    · omega
    · exact ⟨g,c2,h⟩);
   have HB3':=(HS2.out.blk.alloc (.cells #[Value.string x] 197)).grown hgr (own_blk_ne HS2.out.row HS2.out.blk (by decide));
   have c0:=(HB3'.cell 0).trans rfl;
   have z0:=HB3'.frozen 0;
   have HB3:=Lib.hid HB3';
   have HOWN:=Lib.hid hown;
   have HGR:=Lib.hid hgr;
   clear HB3' hown hgr)
 have hlg:((l.length+1:Nat):Int)=(l.length:Int)+1:=by omega
 have hG:(SetMod b sn A g∨w.heap.size≤g)∧Moved w sn A false (some ⟨g,0,none⟩)∧True∧g≠b:=by
  rcases hat with h | h
  · rcases A1 with _ | a1
    · simp [Value.ownBlock] at h
    · obtain ⟨A',c',hv,_,_,hz⟩:=own_form2 HS2.out.row
      injection hv with hv _ _
      obtain ⟨g',rfl⟩:=hz a1 hv.symm
      have hgg:g'=g:=by simpa [Value.ownBlock] using h.symm
      subst hgg
      have hne:g'≠b:=HS2.out.row_ne (by decide) _ rfl
      rcases HM2.out with ⟨hsn,hA⟩ | ⟨_,g2,hg2,hA⟩
      · have h1:=HS.out.row_lt _ hA.symm
        exact ⟨.inl (.inr ⟨hsn.symm,_,hA.symm,rfl⟩),.inl ⟨hsn,hA⟩,True.intro,hne⟩
      · injection hA with hA
        injection hA with hA
        subst hA
        exact ⟨.inr (by omega),.inr ⟨rfl,_,by omega,rfl⟩,True.intro,hne⟩
  · have hgg:g=w2.heap.size+1:=by simpa [Value.ownBlock] using h
    subst hgg
    exact ⟨.inr (by omega),.inr ⟨rfl,_,by omega,rfl⟩,True.intro,by omega⟩
 obtain ⟨hgM,hgMv,hgk1,hgb⟩:=hG
 obtain ⟨w4,hw4⟩ : ∃w4,w4=w3.setCell ⟨b,0,none⟩ (.slice (some ⟨g,0,none⟩) (l.length+1) c2):=⟨_,rfl⟩
 have hB4:Blk w4 b 244 #[.slice (some ⟨g,0,none⟩) (l.length+1) c2,.bool false]:=by rw [hw4];exact HB3.out.set_ 0 _
 have hR4:w4.ownsRow 0 197 1 (.slice (some ⟨g,0,none⟩) (l.length+1) c2) (l.length+1) ((shiftAt l x l.length).flatMap Name.cells):=by
  rw [hw4,shiftAt_start]
  refine ownsRow_setCell_other (a:=⟨b,0,none⟩) ?_ (by simpa [Value.ownBlock] using hgb) _
  rw [List.flatMap_append,List.flatMap_singleton]
  exact HOWN.out
 have hF4:Fr (SetMod b sn A) w w4:=by
  rw [hw4]
  have h1:Fr (SetMod b sn A) w w1:=Fr.of_new ((Below.refl _ _).trans (HB1.out.mono (by simp)))
  have h2:Fr (SetMod b sn A) w w2:=h1.trans (HF2.out.mono (fun k _ h=>.inl h))
  refine ((h2.alloc _).grown HGR.out (fun k hk=>?_)).setCell (p:=⟨b,0,none⟩) (.inl (.inl rfl)) _
  rcases A1 with _ | a1
  · cases hk
  · simp only [Value.ownBlock,Option.some.injEq] at hk
    subst hk
    rcases HM2.out with ⟨hsn,hA⟩ | ⟨_,g',hg',hA⟩
    · left;right;exact ⟨hsn.symm,a1,hA.symm,rfl⟩
    · injection hA with hA
      subst hA
      right;dsimp only;omega
 rw [← hw4]
 have HgM:=Lib.hid hgM
 have HgMv:=Lib.hid hgMv
 have HB4:=Lib.hid hB4
 have HR4:=Lib.hid hR4
 have HF4:=Lib.hid hF4
 have s4:=hB4.cell 0
 have s4':w4.cell? ⟨b,0,none⟩=some (.slice (some ⟨g,0,none⟩) (l.length+1) c2):=s4
 clear s4 hw4 hB4 hR4 hF4 hat hgM hgMv hnil  s0 f0
 go_wp2_with fail
 go_loopw [7] (fun s wr=>∃i:Nat,s = .int .i64 i∧rank cmpName l x≤i∧i≤l.length∧wr.ownsRow 0 197 1 (.slice (some ⟨g,0,none⟩) (l.length+1) c2) (l.length+1) ((shiftAt l x i).flatMap Name.cells)∧Fr (· = g) w4 wr) (fun s wr=>(intOf s).toNat)
 case atStart=>exact ⟨l.length,by go_num,hrk,Nat.le_refl _,HR4.out,Fr.refl _ _⟩
 case round=>
  obtain ⟨i,rfl,hi1,hi2,hown,hfr⟩:=hrel
  have hgw:g<wr.heap.size:=(hown.lt g rfl).2
  have r0:wr.cell? ⟨b,0,none⟩=some (.slice (some ⟨g,0,none⟩) (l.length+1) c2):=(hfr.cell (p:=⟨b,0,none⟩) HB4.out.lt (fun h=>hgb h.symm)).trans s4'
  have fz : ∀o,wr.frozen? ⟨g,o,none⟩=false:=fun o=>hown.frozenAt o
  have HOW:=Lib.hid hown
  have HFR:=Lib.hid hfr
  clear hown hfr
  by_cases hlt:rank cmpName l x<i
  · obtain ⟨j,rfl⟩ : ∃j,i=j+1:=⟨i - 1,by omega⟩
    have hj:j<l.length:=by omega
    have hrd:=ownsRow_rd (A:=some ⟨g,0,none⟩) (c:=c2) (l:=shiftAt l x (j+1)) Name.cells_length (by rw [shiftAt_length l x hi2];exact HOW.out)
    obtain ⟨g',o',hgo,_,hcell⟩:=hrd.at_ (k:=j) (by rw [shiftAt_length l x hi2];omega)
    injection hgo with hgo
    injection hgo with hg1 hg2
    subst hg1;subst hg2
    rw [shiftAt_read l x hj] at hcell
    have q0:wr.cell? ⟨g,j,none⟩=some (.string l[j]):=by simpa using hcell 0 _ rfl
    have rmj:Room wr g 197 (c2*1)∧l.length+1≤c2:=by
     rcases ownsRow_form HOW.out with ⟨hv,_⟩ | ⟨g',cap,hv,hn,_,hr,_⟩
     · cases hv
     · injection hv with hA _ hc
       injection hA with hA
       injection hA with hA
       subst hA;subst hc
       exact ⟨hr,hn⟩
    obtain ⟨hrm,hcap⟩:=rmj
    obtain ⟨u0,t0⟩:=hrm.cell (i:=(j+1)) (by omega)
    have b0:(0:Int)≤(j:Int)+1:=by omega
    have b1:(0:Int)≤(j:Int):=by omega
    have b4:(j:Int)<(l.length:Int):=by omega
    have b2:(j:Int)<(l.length:Int)+1:=by omega
    have b3:(j:Int)+1<(l.length:Int)+1:=by omega
    have w1:IntKind.i64.wrap ((j:Int))=(j:Int):=IntWalk.i64_in _ (by omega)
    have w2:IntKind.i64.wrap ((j:Int)+1 - 1)=(j:Int):=by rw [IntWalk.i64_in _ (by omega)];omega
    clear hcell hrd hrm
    obtain ⟨y,hy⟩ : ∃y,y=l[j]:=⟨_,rfl⟩
    rw [← hy] at q0
    have HY:=Lib.hid hy
    have hbw:b<wr.heap.size:=World.block_lt_of_cell? wr _ r0
    clear hy
    go_wp2_with fail
    refine wp_region_E (fun w9=>Below wr.heap.size wr w9) [(0,0),(1,0),(2,0),(3,1),(4,0),(5,0),(6,0),(7,0),(8,1),(9,0),(10,0),(11,0),(12,1),(13,0),(14,2)] (by kernel_rfl) (by kernel_rfl) (fun KK hKK=>?_)
    simp only [beside,List.filterMap_cons,List.filterMap_nil,List.getElem?_toArray,List.getElem?_cons_zero,List.getElem?_cons_succ,Option.map_some]
    repeat ((first | (refine wpX_w ?_ (Or.inl ⟨by rfl,fun w9=>?_⟩) ?_;rotate_left 1;go_simp;with_reducible rfl) | (refine wpX_l ?_ (((Below.refl _ _).drew)) (Or.inl ⟨by rfl,fun w9 hw9=>?_⟩) ?_;rotate_left 1;obtain ⟨hc9,hf9⟩:=bcell hw9;go_simp;with_reducible rfl) | refine wpX_w undef (Or.inr ⟨by rfl,rfl⟩) ?_ | refine wpX_l undef (((Below.refl _ _).drew)) (Or.inr ⟨by rfl,rfl⟩) ?_);go_frame)
    refine wpX_e (by kernel_rfl) (fun K9 hK9=>?_)
    go_simp
    refine hK9 _ _ ?_
    clear hK9 K9
    refine wpX_nil ?_
    simp only [OnlyN_normal]
    refine hKK _ _ ?_
    clear hKK KK
    go_wp2_with fail
    go_roundw
    case rel=>
     refine ⟨j,by go_num,by omega,by omega,?_,Fr.drew ((HFR.out).setCell (p:=⟨g,(j+1),none⟩) (.inl rfl) (_))⟩
     have hst:=((HOW.out).stored ((j+1)) (.string y)).1
     have he:setAll ((shiftAt l x (j+1)).flatMap Name.cells) ((j+1)) (Name.cells y)=(shiftAt l x j).flatMap Name.cells:=by
      rw [flat_set1 Name.cells_length (by omega) _ (j+1) (by rw [shiftAt_length l x hi2];omega),HY.out,shiftAt_step l x hj]
     rw [← he]
     exact hst
    case measure=>simp [intOf]<;>omega
  · obtain rfl:i=rank cmpName l x:=by omega
    have rmj:Room wr g 197 (c2*1)∧l.length+1≤c2:=by
     rcases ownsRow_form HOW.out with ⟨hv,_⟩ | ⟨g',cap,hv,hn,_,hr,_⟩
     · cases hv
     · injection hv with hA _ hc
       injection hA with hA
       injection hA with hA
       subst hA;subst hc
       exact ⟨hr,hn⟩
    obtain ⟨hrm,hcap⟩:=rmj
    obtain ⟨k,hk⟩ : ∃k,k=rank cmpName l x:=⟨_,rfl⟩
    rw [← hk] at hi2 hlt ⊢
    obtain ⟨u0,t0⟩:=hrm.cell (i:=k) (by omega)
    have b1:(0:Int)≤(k:Int):=by omega
    have b2:(k:Int)<(l.length:Int)+1:=by omega
    have HK:=Lib.hid hk
    have hbw:b<wr.heap.size:=World.block_lt_of_cell? wr _ r0
    clear hrm hk 
    go_wp2_with fail
    go_ret
    have HOWk:=HOW.out
    rw [← HK.out] at HOWk
    have hst:=((HOWk).stored (k) (.string x)).1
    have he:setAll ((shiftAt l x k).flatMap Name.cells) (k) (Name.cells x)=(put cmpName l x).flatMap Name.cells:=by
     rw [flat_set1 Name.cells_length (by omega) _ k (by rw [shiftAt_length l x hi2];omega),shiftAt_end l x hi2,put_eq tc_name HO.out hh,HK.out]
    have hln:=length_put tc_name HO.out hh
    refine ⟨by rw [hh];rfl,false,some ⟨g,0,none⟩,c2,⟨?_,?_⟩,?_,?_⟩
    · rw [hln]
      exact (HB4.out.fr HFR.out (fun h=>hgb h.symm)).far (p:=⟨g,k,none⟩) (fun h=>hgb h.symm) _
    · rw [hln,← he]
      exact hst
    · exact HF4.out.into (((HFR.out).setCell (p:=⟨g,k,none⟩) (.inl rfl) (_))) (fun k hk=>by subst hk;exact HgM.out)
    · exact HgMv.out
theorem put_Name (b c:Nat) (sn:Bool) (A:Option Addr) (l:List Name) (x:Name) (w:World) (hS:NameSet w b sn A c l) (hs:Srt cmpName l) (hl:(l.length:Int)≤100000000) :
 Calls Tryz.prog 160 #[.pointer (some ⟨b,0,none⟩),.string x] w (PutPostName w b sn A l x):=by
 cases hh:has cmpName l x
 · exact put_new_Name b c sn A l x w hS hs hl hh
 · exact put_there_Name b c sn A l x w hS hs hl hh
end Go.Proofs.YtldndkngpdfpfaaGreat
namespace Go.Proofs.YtldndkngpdfpfaaGreat
open Go.RowKit
set_option maxRecDepth 100000 in
set_option maxHeartbeats 400000 in
theorem place_Name (b c:Nat) (sn:Bool) (A:Option Addr) (l:List Name) (x:Name) (w:World) (hS:NameSet w b sn A c l) (hs:Srt cmpName l) (hl:(l.length:Int)≤1000000000) :
 Calls Tryz.prog 203 #[.pointer (some ⟨b,0,none⟩),.string x] w (FoundName l x w):=by
 have HS:=Lib.hid hS
 have HO:=Lib.hid hs
 clear hS hs
 go_enter Tryz.func203,Tryz.ntmps203
 go_wp2_with fail
 refine (find_Name b c sn A l x _ (HS.out.new_ (Below.refl _ _)) HO.out (by omega)).mono ?_
 rintro e w1 ⟨rfl,hb1⟩
 go_wp2_with fail
 go_ret2
 exact ⟨rfl,(Below.refl _ _).trans (hb1.mono (by simp))⟩
def ClonePostName (w:World) (b:Nat) (A:Option Addr) (c:Nat) (l:List Name) (e:Ending) (w':World):Prop:=
 ∃k,e = .returned (.pointer (some ⟨k,0,none⟩))∧w.heap.size≤k∧NameSet w' b true A c l∧NameSet w' k true A c l∧Fr (· = b) w w'
set_option maxRecDepth 100000 in
set_option maxHeartbeats 1000000 in
theorem clone_Name (b c:Nat) (sn:Bool) (A:Option Addr) (l:List Name) (w:World) (hS:NameSet w b sn A c l) :
 Calls Tryz.prog 200 #[.pointer (some ⟨b,0,none⟩)] w (ClonePostName w b A c l):=by
 have s0:=hS.cell0
 have s1:=hS.cell1
 have f1:=hS.blk.frozen 1
 have hb:=hS.lt
 have HS:=Lib.hid hS
 clear hS
 go_enter Tryz.func200,Tryz.ntmps200
 go_wp2
 go_ret
 have h1:NameSet (w.setCell ⟨b,1,none⟩ (.bool true)) b true A c l:=⟨HS.out.blk.set_ 1 _,ownsRow_setCell_other HS.out.row (own_blk_ne HS.out.row HS.out.blk (by decide)) _⟩
 refine ⟨w.heap.size,by simp,Nat.le_refl _,h1.new_ ((Below.refl _ _).alloc (Nat.le_refl _) _),⟨?_,ownsRow_new h1.row ((Below.refl _ _).alloc (Nat.le_refl _) _)⟩,((Fr.refl (· = b) w).setCell (p:=⟨b,1,none⟩) (.inl rfl) _).alloc _⟩
 have h2:=Blk.new (w.setCell ⟨b,1,none⟩ (.bool true)) 244 #[.slice A l.length c,.bool true]
 simpa using h2
end Go.Proofs.YtldndkngpdfpfaaGreat
namespace Go.Proofs.YtldndkngpdfpfaaGreat
open Go.RowKit
def NewPostName (w:World) (xs:List Name) (e:Ending) (w':World):Prop:=
 ∃k,e = .returned (.pointer (some ⟨k,0,none⟩))∧w.heap.size≤k∧∃sn A c,NameSet w' k sn A c (puts cmpName [] xs)∧AIn A (w.heap.size≤·)∧Below w.heap.size w w'
set_option maxRecDepth 100000 in
set_option maxHeartbeats 2000000 in
theorem new_Name (A:Option Addr) (c:Nat) (xs:List Name) (w:World) (hrd:RowRd w 1 Name.cells A c xs) (hl:(xs.length:Int)≤10000000) :
 Calls Tryz.prog 119 #[.slice A xs.length c] w (NewPostName w xs):=by
 have HRD:=Lib.hid hrd
 clear hrd
 go_enter Tryz.func119,Tryz.ntmps119
 go_wp2_with fail
 obtain ⟨W0,hW0⟩ : ∃W0,W0=w.alloc (.cells #[.slice none 0 0,.bool false] 244):=⟨_,rfl⟩
 have hb0:Below w.heap.size w W0:=by rw [hW0];exact (Below.refl _ _).alloc (Nat.le_refl _) _
 have hS0:NameSet W0 w.heap.size false none 0 []:=⟨by rw [hW0];exact Blk.new _ _ _,⟨by simp,.inl ⟨rfl,rfl⟩⟩⟩
 rw [← hW0]
 clear hW0
 have HB0:=Lib.hid hb0
 have HS0:=Lib.hid hS0
 clear hb0 hS0
 go_loopw [10] (fun s wr=>∃i:Nat,s = .int .i64 i∧i≤xs.length∧∃sn A' c',NameSet wr w.heap.size sn A' c' (puts cmpName [] (xs.take i))∧AIn A' (w.heap.size≤·)∧Below w.heap.size w wr) (fun s wr=>xs.length - (intOf s).toNat)
 case atStart=>exact ⟨0,rfl,Nat.zero_le _,false,none,0,HS0.out,AIn.none_ _,HB0.out⟩
 case round=>
  obtain ⟨i,rfl,hi,sn,A',c',hS,hA',hB⟩:=hrel
  have HS:=Lib.hid hS
  have HA:=Lib.hid hA'
  have HB:=Lib.hid hB
  clear hS hA' hB
  by_cases hlt:i<xs.length
  · obtain ⟨x,hx⟩ : ∃x,x=xs[i]:=⟨_,rfl⟩
    obtain ⟨g,off,rfl,hgs,hcell⟩:=(HRD.out.fr (Fr.of_new (M:=fun _=>False) HB.out) (fun _ _ h=>h)).at_ hlt
    rw [← hx] at hcell
    have q0:wr.cell? ⟨g,off+i,none⟩=some (.string x):=by simpa using hcell 0 _ rfl
    have b1:(0:Int)≤(i:Int):=by omega
    have b2:(i:Int)<(xs.length:Int):=by omega
    have HX:=Lib.hid hx
    clear hcell hx
    go_wp2_with fail
    have hsr:=Srt.puts tc_name (xs.take i) (Srt.nil (cmp:=cmpName))
    have hlen:(((puts cmpName [] (xs.take i)).length:Nat):Int)≤100000000:=by
     have:=length_puts_le tc_name (xs.take i) (Srt.nil (cmp:=cmpName))
     simp at this
     omega
    refine (put_Name w.heap.size c' sn A' _ x _ (HS.out.new_ (Below.refl _ _)) hsr hlen).mono ?_
    rintro e w1 ⟨rfl,sn2,A2,c2,hS2,hF2,hM2⟩
    have hB1:Below w.heap.size w w1:=(HB.out).trans (hF2.below (by have:=HB.out.size;(try simp);omega) (fun k hk hm=>by
     rcases hm with hm | ⟨_,a,ha,hm⟩
     · omega
     · have:=HA.out a ha;omega))
    have hA2:AIn A2 (w.heap.size≤·):=by
     rcases hM2 with ⟨_,rfl⟩ | ⟨_,g2,hg2,rfl⟩
     · exact HA.out
     · intro a ha;cases ha;have:=HB.out.size;(try simp at hg2 ⊢);omega
    have HS2:=Lib.hid hS2
    have HB1:=Lib.hid hB1
    have HA2:=Lib.hid hA2
    clear hS2 hB1 hA2 hF2 hM2 hsr hlen q0
    go_wp2_with fail
    go_roundw
    case rel=>
     refine ⟨i+1,by go_num,by omega,sn2,A2,c2,?_,HA2.out,HB1.out⟩
     rw [List.take_add_one,List.getElem?_eq_getElem hlt,← HX.out]
     simp only [Option.toList_some,puts_snoc]
     exact HS2.out
    case measure=>simp [intOf]<;>omega
  · have hie:i=xs.length:=by omega
    subst hie
    go_wp2_with fail
    go_ret
    refine ⟨w.heap.size,rfl,Nat.le_refl _,sn,A',c',?_,HA.out,HB.out⟩
    have:=HS.out
    rwa [List.take_length] at this
end Go.Proofs.YtldndkngpdfpfaaGreat
namespace Go.Proofs.YtldndkngpdfpfaaGreat
open Go.RowKit
abbrev NameSets:=Sets (α:=Name) 244 197 1 Name.cells cmpName
section
variable {D:Nat→Prop} {w:World} {S:Nat→Option (List Name)} {σ:Nat→St} {b:Nat} {l:List Name}
def ChangedName (D:Nat→Prop) (w:World) (S:Nat→Option (List Name)) (σ:Nat→St) (b:Nat) (l:List Name) (w':World):Prop:=
 ∃σ',NameSets D w' (upd S b (some l)) σ'∧(∀k,k≠b→σ' k=σ k)∧Fr (fun k=>¬D k) w w'∧Fr (SetMod b (σ b).sn (σ b).A) w w'
theorem sPut_Name (x:Name) (h:NameSets D w S σ) (hb:S b=some l) (hl:(l.length:Int)≤100000000) :
 Calls Tryz.prog 160 #[.pointer (some ⟨b,0,none⟩),.string x] w fun e w'=>e = .returned (.bool (!has cmpName l x))∧ChangedName D w S σ b (put cmpName l x) w':=by
 refine (put_Name b _ _ _ l x w (h.at_ b l hb) (h.srt b l hb) hl).mono ?_
 rintro e w' ⟨he,sn',A',c',h1,hF,hM⟩
 exact ⟨he,_,h.moved (by decide) hb h1 ((h.srt b l hb).put tc_name x) hF hM,fun k hk=>upd_ne _ _ hk,h.mod hb hF,hF⟩
def MadeName (D:Nat→Prop) (w:World) (S:Nat→Option (List Name)) (_:Nat→St) (l:List Name) (e:Ending) (w':World):Prop:=
 ∃k,e = .returned (.pointer (some ⟨k,0,none⟩))∧w.heap.size≤k∧(∀b l,S b=some l→b≠k)∧∃σ',NameSets D w' (upd S k (some l)) σ'∧Fr (fun k=>¬D k) w w'
theorem sNew_Name (A:Option Addr) (c:Nat) (xs:List Name) (h:NameSets D w S σ) (hrd:RowRd w 1 Name.cells A c xs) (hl:(xs.length:Int)≤10000000) :
 Calls Tryz.prog 119 #[.slice A xs.length c] w fun e w'=>MadeName D w S σ (puts cmpName [] xs) e w'∧Below w.heap.size w w':=by
 refine (new_Name A c xs w hrd hl).mono ?_
 rintro e w' ⟨k,he,hk,sn,A',c',h1,hA,hB⟩
 exact ⟨⟨k,he,hk,fun b l hb e=>by have:=h.lt hb;omega,_,h.add hk h1 (Srt.puts tc_name xs Srt.nil) (.inl hA) hB,Fr.of_new hB⟩,hB⟩
theorem sClone_Name (h:NameSets D w S σ) (hb:S b=some l) :
 Calls Tryz.prog 200 #[.pointer (some ⟨b,0,none⟩)] w fun e w'=>∃k,e = .returned (.pointer (some ⟨k,0,none⟩))∧w.heap.size≤k∧(∀b l,S b=some l→b≠k)∧
  ∃σ',NameSets D w' (upd S k (some l)) σ'∧(∀j,j≠k→j≠b→σ' j=σ j)∧(σ' b).sn=true∧(σ' b).A=(σ b).A∧(σ' k).sn=true∧(σ' k).A=(σ b).A∧Fr (fun k=>¬D k) w w'∧Fr (· = b) w w':=by
 refine (clone_Name b _ _ _ l w (h.at_ b l hb)).mono ?_
 rintro e w' ⟨k,he,hk,h1,h2,hF⟩
 have hnb:b≠k:=fun e=>by have:=h.lt hb;omega
 have hD:Fr (fun k=>¬D k) w w':=hF.mono (fun k _ hk=>by rw [hk];exact (h.out b l hb).1)
 have hs:=h.seen (by decide) hb h1 hF
 have hrow:=(h.at_ b l hb).row_lt
 refine ⟨k,he,hk,fun b l hb e=>by have:=h.lt hb;omega,upd (upd σ b ⟨true,(σ b).A,(σ b).c⟩) k ⟨true,(σ b).A,(σ b).c⟩,⟨fun j m hj=>?_,fun j m hj=>?_,fun j m hj=>?_,fun j m j' m' hj hj' hjj hsj a a' ha ha'=>?_,hs.low⟩,fun j h1 h2=>by rw [upd_ne _ _ h1,upd_ne _ _ h2],by rw [upd_ne _ _ hnb,upd_same],by rw [upd_ne _ _ hnb,upd_same],by rw [upd_same],by rw [upd_same],hD,hF⟩
 · by_cases e:j=k
   · subst e;rw [upd_same] at hj ⊢;cases hj;exact h2
   · rw [upd_ne _ _ e] at hj ⊢;exact hs.at_ j m hj
 · by_cases e:j=k
   · subst e;rw [upd_same] at hj;cases hj;exact h.srt b l hb
   · rw [upd_ne _ _ e] at hj;exact h.srt j m hj
 · by_cases e:j=k
   · subst e;rw [upd_same] at hj ⊢;cases hj
     exact ⟨fun hd=>by have:=h.low _ hd;omega,fun hs2=>by cases hs2⟩
   · rw [upd_ne _ _ e] at hj ⊢;exact hs.out j m hj
 · by_cases e:j=k
   · subst e;rw [upd_same] at hsj;cases hsj
   · rw [upd_ne _ _ e] at hj hsj ha
     by_cases e2:j'=k
     · subst e2
       rw [upd_same] at ha'
       by_cases e3:j=b
       · subst e3;rw [upd_same] at hsj;cases hsj
       · exact hs.apart j m b l hj hb e3 hsj a a' ha (by rw [upd_same];exact ha')
     · rw [upd_ne _ _ e2] at hj' ha'
       exact hs.apart j m j' m' hj hj' hjj hsj a a' ha ha'
end
end Go.Proofs.YtldndkngpdfpfaaGreat
namespace Go.Proofs.YtldndkngpdfpfaaGreat
open Go.RowKit Go.Shelf
def RowKeep (A:Option Addr) (W W':World):Prop:=W.heap.size≤W'.heap.size∧∀a,A=some a→a.block<W.heap.size→W'.heap[a.block]? = W.heap[a.block]?
theorem RowKeep.trans {A:Option Addr} {X Y Z:World} (h:RowKeep A X Y) (k:RowKeep A Y Z):RowKeep A X Z:=⟨Nat.le_trans h.1 k.1,fun a e hl=>(k.2 a e (Nat.lt_of_lt_of_le hl h.1)).trans (h.2 a e hl)⟩
theorem RowKeep.rd {α:Type} {size c:Nat} {cells:α→List Value} {A:Option Addr} {l:List α} {W W':World} (hk:RowKeep A W W') (h:RowRd W size cells A c l):RowRd W' size cells A c l:=
 h.keep hk.1 (fun p hp ⟨a,ha,hb⟩=>World.cell?_of_block (by rw [← hb];exact hk.2 a ha (by rw [hb];exact hp)))
def SeenStart (b:Nat) (X Y:World):Prop:=∃X1,Below X.heap.size X X1∧Y=X1.setCell ⟨b,1,none⟩ (.bool true)
theorem SeenStart.set_ {α:Type} {tSet tE size:Nat} {cells:α→List Value} {W W1:World} {b:Nat} {sn:Bool} {A:Option Addr} {c:Nat} {l:List α} (h:SeenStart b W W1) (hS:SetAt tSet tE size cells W b sn A c l) (hne:tE≠tSet):SetAt tSet tE size cells W1 b true A c l:=by
 obtain ⟨X1,hb,rfl⟩:=h
 refine ⟨(hS.new_ hb).blk.set_ 1 _,ownsRow_setCell_other (hS.new_ hb).row ?_ _⟩
 exact own_blk_ne hS.row hS.blk hne
theorem SeenStart.fr {b:Nat} {W W1:World} (h:SeenStart b W W1):Fr (· = b) W W1:=by
 obtain ⟨X1,hb,rfl⟩:=h
 exact (Fr.of_new (M:=(· = b)) hb).setCell (p:=⟨b,1,none⟩) (.inl rfl) _
end Go.Proofs.YtldndkngpdfpfaaGreat
namespace Go.Proofs.YtldndkngpdfpfaaGreat
open Go.RowKit Go.Shelf
attribute [local go_sem] Oper.semAt_some
structure Seq {α:Type} (gf:Nat) (lb:Array Value) (encs:α→Array Value) (xs:List α) (w:World) (start Kp:World→World→Prop):Prop where
 enter : ∀args w,(callFunc gf args).run Tryz.prog w = .ok (.enter gf args) w
 iter : ∀W,Below w.heap.size w W→Iter Tryz.prog gf lb encs xs W start (fun X Y=>Kp X Y∧KeepsFrom W.heap.size X Y)
 trans : ∀A B C,Kp A B→Kp B C→Kp A C
 keep : ∀A B,Priv w.heap.size A B→Kp A B
 below : ∀A B,Below w.heap.size A B→Kp A B
 mods : ∀W W1,start W W1→Fr (· < w.heap.size) W W1
theorem owns_nil (W:World) (base:Nat) (e:TypeId) (size:Nat):W.ownsRow base e size (.slice none 0 0) 0 []:=⟨by simp,.inl ⟨rfl,rfl⟩⟩
theorem Seq.new_ {α:Type} {gf:Nat} {lb:Array Value} {encs:α→Array Value} {xs:List α} {w w':World} {start Kp:World→World→Prop} (h:Seq gf lb encs xs w start Kp) (hb:Below w.heap.size w w'):Seq gf lb encs xs w' start Kp:=
 ⟨h.enter,fun W hW=>h.iter W (hb.trans (hW.mono hb.size)),h.trans,fun A B hp=>h.keep A B (hp.mono hb.size),fun A B hp=>h.below A B (hp.mono hb.size),fun W W1 hs=>(h.mods W W1 hs).mono (fun _ _ hk=>Nat.lt_of_lt_of_le hk hb.size)⟩
end Go.Proofs.YtldndkngpdfpfaaGreat
namespace Go.Proofs.YtldndkngpdfpfaaGreat
open Go.RowKit Go.Shelf
structure KnS (W:World) (S:Nat→Option (List Name)) (kb sb:Nat) (K:Kn) (A:Option Addr) (c:Nat):Prop where
 blk:Blk W kb 199 #[.pointer (some ⟨sb,0,none⟩),.slice A K.2.length c]
 row:W.ownsRow 0 9 1 (.slice A K.2.length c) K.2.length (K.2.map Value.string)
 set:S sb=some K.1
set_option maxHeartbeats 2000000 in
theorem khas_is {D:Nat→Prop} {W:World} {S:Nat→Option (List Name)} {σ:Nat→St} {kb sb:Nat} {K:Kn} {A:Option Addr} {c:Nat} (v:ByteArray) (hN:NameSets D W S σ) (hK:KnS W S kb sb K A c) (hl:(K.1.length:Int)≤1000000) :
 Calls Tryz.prog 163 #[.pointer (some ⟨kb,0,none⟩),.string v] W fun e W'=>e = .returned (.bool (hasK K v))∧Below W.heap.size W W':=by
 have s0:W.cell? ⟨kb,0,none⟩=some (.pointer (some ⟨sb,0,none⟩)):=(hK.blk.cell 0).trans rfl
 have hkl:=hK.blk.lt
 have HS:=Lib.hid (hN.at_ sb K.1 hK.set)
 have HO:=Lib.hid (hN.srt sb K.1 hK.set)
 clear hN hK
 go_enter Tryz.func163,Tryz.ntmps163
 go_wp2_with fail
 refine (place_Name sb _ _ _ K.1 v _ HS.out HO.out (by omega)).mono ?_
 rintro e w1 ⟨rfl,hb1⟩
 go_wp2_with fail
 go_ret
 exact ⟨rfl,hb1⟩
set_option maxHeartbeats 2000000 in
theorem kinner_is {D:Nat→Prop} {W:World} {S:Nat→Option (List Name)} {σ:Nat→St} {kb sb:Nat} {K:Kn} {A:Option Addr} {c:Nat} (hN:NameSets D W S σ) (hK:KnS W S kb sb K A c) :
 Calls Tryz.prog 161 #[.pointer (some ⟨kb,0,none⟩)] W fun e W'=>∃kb' sb',e = .returned (.pointer (some ⟨kb',0,none⟩))∧W.heap.size≤kb'∧W.heap.size≤sb'∧(∃σ',NameSets D W' (upd S sb' (some K.1)) σ')∧KnS W' (upd S sb' (some K.1)) kb' sb' (K.1,[]) none 0∧Fr (fun j=>¬D j) W W'∧Fr (· = sb) W W':=by
 have s0:W.cell? ⟨kb,0,none⟩=some (.pointer (some ⟨sb,0,none⟩)):=(hK.blk.cell 0).trans rfl
 have hkl:=hK.blk.lt
 have HN:=Lib.hid hN
 have HS:=Lib.hid hK.set
 clear hN hK
 go_enter Tryz.func161,Tryz.ntmps161
 go_wp2_with fail
 refine (sClone_Name HN.out HS.out).mono ?_
 rintro e w1 ⟨k,rfl,hk,_,σ',h1,_,_,_,_,_,hF,hFb⟩
 have H1:=Lib.hid h1
 have HF:=Lib.hid hF
 have HFb:=Lib.hid hFb
 clear h1 hF hFb
 go_wp2_with fail
 go_ret
 have hn:Below w1.heap.size w1 (w1.alloc (.cells #[.pointer (some ⟨k,0,none⟩),.slice none 0 0] 199)):=(Below.refl _ _).alloc (Nat.le_refl _) _
 exact ⟨w1.heap.size,k,rfl,HF.out.size,hk,⟨σ',H1.out.below hn⟩,⟨Blk.new _ _ _,owns_nil _ _ _ _,upd_same _ _ _⟩,HF.out.trans (Fr.of_new hn),HFb.out.trans (Fr.of_new hn)⟩
end Go.Proofs.YtldndkngpdfpfaaGreat
namespace Go.Proofs.YtldndkngpdfpfaaGreat
open Go.RowKit Go.Shelf
set_option maxRecDepth 100000 in
set_option maxHeartbeats 4000000 in
theorem klacks_is {D:Nat→Prop} {W:World} {S:Nat→Option (List Name)} {σ:Nat→St} {kb sb:Nat} {K:Kn} {A:Option Addr} {c:Nat} (a:AtomT) (hN:NameSets D W S σ) (hK:KnS W S kb sb K A c) (hl:(K.1.length:Int)≤1000000) :
 Calls Tryz.prog 121 #[.pointer (some ⟨kb,0,none⟩),.agg #[.string a.var,.int .i64 a.sym.kind,.string a.sym.text,.int .i64 a.sym.n]] W fun e W'=>e = .returned (.bool (lacksB K a))∧Below W.heap.size W W':=by
 have HN:=Lib.hid hN
 have HK:=Lib.hid hK
 clear hN hK
 by_cases hv:a.var.toList = []
 · have v1:(a.var.toList == [])=true:=by simp [hv]
   have v2:a.var.toList.isEmpty=true:=by simp [hv]
   have v3:decide (a.var.toList = [])=true:=by simp [hv]
   have HR:=Lib.hid (show lacksB K a=false by simp [lacksB,hv])
   clear hv
   go_enter Tryz.func121,Tryz.ntmps121
   go_wp2_with fail
   go_ret
   exact ⟨by rw [HR.out]<;>rfl,(Below.refl _ _).alloc (Nat.le_refl _) _⟩
 · have v1:(a.var.toList == [])=false:=by simp [hv]
   have v2:a.var.toList.isEmpty=false:=by simp [hv]
   have v3:decide (a.var.toList = [])=false:=by simp [hv]
   have HR:=Lib.hid (show lacksB K a = !hasK K a.var by simp [lacksB,hv])
   clear hv
   go_enter Tryz.func121,Tryz.ntmps121
   go_wp2_with fail
   have hb:=(Below.refl W.heap.size W).alloc (Nat.le_refl _) (.cells #[.string a.var,.int .i64 a.sym.kind,.string a.sym.text,.int .i64 a.sym.n] 76)
   refine (khas_is a.var (HN.out.below hb) ⟨HK.out.blk.new_ hb,ownsRow_new HK.out.row hb,HK.out.set⟩ hl).mono ?_
   rintro e w1 ⟨rfl,hb1⟩
   have HB:=Lib.hid (hb.trans (hb1.mono (by simp)))
   clear hb hb1
   go_wp2_with fail
   go_ret
   exact ⟨by rw [HR.out]<;>rfl,HB.out⟩
end Go.Proofs.YtldndkngpdfpfaaGreat
namespace Go.Proofs.YtldndkngpdfpfaaGreat
open Go.RowKit
theorem blk_far {α:Type} {tSet tE size:Nat} {cells:α→List Value} {w:World} {b:Nat} {sn:Bool} {A:Option Addr} {c:Nat} {l:List α} {g:Nat} {t:TypeId} {cs:Array Value}
 (hS:SetAt tSet tE size cells w b sn A c l) (hB:Blk w g t cs) (h1:t≠tSet) (h2:t≠tE) : ¬SetMod b sn A g:=by
 rintro (rfl | ⟨_,a,ha,rfl⟩)
 · exact hB.ne_ hS.blk h1 rfl
 · have:=own_blk_ne hS.row hB (Ne.symm h2)
   subst ha
   exact this (by simp [Value.ownBlock])
theorem SetAt.other {α β:Type} {tSet tE size tSet2 tE2 size2:Nat} {cells:α→List Value} {cells2:β→List Value} {w w':World} {b b2:Nat} {sn sn2:Bool} {A A2:Option Addr} {c c2:Nat} {l:List α} {l2:List β}
 (h:SetAt tSet tE size cells w b sn A c l) (h2:SetAt tSet2 tE2 size2 cells2 w b2 sn2 A2 c2 l2) (n1:tSet2≠tSet) (n2:tSet2≠tE) (n3:tE2≠tSet) (n4:tE2≠tE) (hF:Fr (SetMod b sn A) w w'):SetAt tSet2 tE2 size2 cells2 w' b2 sn2 A2 c2 l2:=by
 refine h2.fr hF (blk_far h h2.blk n1 n2) ?_
 intro a ha
 rcases ownsRow_form h2.row with ⟨hv,_⟩ | ⟨g,cap,hv,_,_,hr,_⟩
 · injection hv with hv;rw [ha] at hv;cases hv
 · injection hv with hv
   rw [ha] at hv
   injection hv with hv
   subst hv
   obtain ⟨cur,hcur,_⟩:=hr
   exact blk_far h (show Blk w g tE2 cur from hcur) n3 n4
theorem Sets.other {α β:Type} {tSet tE size tSet2 tE2 size2:Nat} {cells:α→List Value} {cells2:β→List Value} {cmp2:β→β→Int} {D:Nat→Prop} {w w':World} {b:Nat} {sn:Bool} {A:Option Addr} {c:Nat} {l:List α} {S2:Nat→Option (List β)} {σ2:Nat→St}
 (H2:Sets tSet2 tE2 size2 cells2 cmp2 D w S2 σ2) (h:SetAt tSet tE size cells w b sn A c l) (n1:tSet2≠tSet) (n2:tSet2≠tE) (n3:tE2≠tSet) (n4:tE2≠tE) (hF:Fr (SetMod b sn A) w w'):Sets tSet2 tE2 size2 cells2 cmp2 D w' S2 σ2:=
 ⟨fun b' l' hb=>h.other (H2.at_ b' l' hb) n1 n2 n3 n4 hF,H2.srt,H2.out,H2.apart,fun k hk=>Nat.lt_of_lt_of_le (H2.low k hk) hF.size⟩
section
variable {D:Nat→Prop} {w w':World} {σ:Nat→St}
def Off {α:Type} (k:Nat) (S:Nat→Option (List α)) (σ:Nat→St):Prop:=∀b l,S b=some l→b≠k∧AIn (σ b).A (·≠k)
theorem Off.new_ {α:Type} {tSet tE size:Nat} {cells:α→List Value} {cmp:α→α→Int} {S:Nat→Option (List α)} (h:Sets tSet tE size cells cmp D w S σ) {k:Nat} (hk:w.heap.size≤k):Off k S σ:=
 fun b l hb=>⟨by have:=h.lt hb;omega,fun a ha=>by have:=(h.at_ b l hb).row_lt a ha;omega⟩
theorem Off.moved {α:Type} {S:Nat→Option (List α)} {k b:Nat} {l l':List α} {st:St} (h:Off k S σ) (hb:S b=some l) (hM:Moved w (σ b).sn (σ b).A st.sn st.A) (hk:k<w.heap.size):Off k (upd S b (some l')) (upd σ b st):=by
 intro b' m hm
 by_cases e:b'=b
 · subst e
   refine ⟨(h b' l hb).1,?_⟩
   rw [upd_same]
   rcases hM with ⟨_,hA⟩ | ⟨_,g,hg,hA⟩
   · rw [hA];exact (h b' l hb).2
   · rw [hA];intro a ha;cases ha;dsimp only;omega
 · rw [upd_ne _ _ e] at hm ⊢
   exact h b' m hm
theorem Sets.off {α:Type} {tSet tE size:Nat} {cells:α→List Value} {cmp:α→α→Int} {S:Nat→Option (List α)} (h:Sets tSet tE size cells cmp D w S σ) {k:Nat} (ho:Off k S σ) (hF:Fr (· = k) w w'):Sets tSet tE size cells cmp D w' S σ:=
 ⟨fun b l hb=>(h.at_ b l hb).fr hF (ho b l hb).1 (ho b l hb).2,h.srt,h.out,h.apart,fun k hk=>Nat.lt_of_lt_of_le (h.low k hk) hF.size⟩
end
end Go.Proofs.YtldndkngpdfpfaaGreat
namespace Go.Proofs.YtldndkngpdfpfaaGreat
open Go.RowKit Go.Shelf
theorem Sets.off_of {α:Type} {tSet tE size:Nat} {cells:α→List Value} {cmp:α→α→Int} {D:Nat→Prop} {w:World} {S:Nat→Option (List α)} {σ:Nat→St} {k:Nat} {t:TypeId} {cs:Array Value} (h:Sets tSet tE size cells cmp D w S σ) (hB:Blk w k t cs) (n1:t≠tSet) (n2:t≠tE):Off k S σ:=
 fun b l hb=>⟨fun e=>hB.ne_ (h.at_ b l hb).blk n1 e.symm,fun a ha e=>by
  have:=own_blk_ne (h.at_ b l hb).row hB (Ne.symm n2)
  rw [ha] at this
  exact this (by simp [Value.ownBlock,e])⟩
theorem Sets.offM {α:Type} {tSet tE size:Nat} {cells:α→List Value} {cmp:α→α→Int} {D M:Nat→Prop} {w w':World} {S:Nat→Option (List α)} {σ:Nat→St} (h:Sets tSet tE size cells cmp D w S σ) (ho : ∀q,M q→Off q S σ) (hF:Fr M w w'):Sets tSet tE size cells cmp D w' S σ:=
 ⟨fun b l hb=>(h.at_ b l hb).fr hF (fun hd=>(ho b hd b l hb).1 rfl) (fun a ha hd=>(ho _ hd b l hb).2 a ha rfl),h.srt,h.out,h.apart,fun k hk=>Nat.lt_of_lt_of_le (h.low k hk) hF.size⟩
theorem owns_far {α:Type} {tSet tE size:Nat} {cells:α→List Value} {w w':World} {b:Nat} {sn:Bool} {A:Option Addr} {c:Nat} {l:List α} {e sz n:Nat} {v:Value} {xs:List Value} (hS:SetAt tSet tE size cells w b sn A c l) (h:w.ownsRow 0 e sz v n xs) (n1:e≠tSet) (n2:e≠tE) (hF:Fr (SetMod b sn A) w w'):w'.ownsRow 0 e sz v n xs:=
 ⟨h.1,h.2.imp id fun ⟨g,cap,cur,hv,h0,hg,hr⟩=>⟨g,cap,cur,hv,h0,Blk.fr (t:=e) hg hF (blk_far hS hg n1 n2),hr⟩⟩
theorem news_one {Y:World} {t:TypeId} {cs:List Value} {k:Nat} (hk:Y.heap.size=k) : ∀(j:Nat) (u:Value),cs[j]? = some u→(Y.alloc (.cells cs.toArray t)).cell? ((⟨k,0,none⟩:Addr).add j)=some u:=by
 subst hk
 exact World.news_of_block (heap_alloc_new _ _)
def MetTo (D:Nat→Prop) (W:World) (S:Nat→Option (List Name)) (kb sb:Nat) (K:Kn) (v:ByteArray) (W':World):Prop:=
 ∃σ' A' c',NameSets D W' (upd S sb (some (metK K v).1)) σ'∧KnS W' (upd S sb (some (metK K v).1)) kb sb (metK K v) A' c'∧AIn A' (fun j=>¬D j)∧Fr (fun j=>¬D j) W W'
theorem info_str:(Tryz.prog.info? 9).map (fun i=>(i.zero,i.size,i.bytes))=some (some (.string ⟨#[]⟩),1,16):=by kernel_rfl
set_option maxRecDepth 100000 in
set_option maxHeartbeats 4000000 in
theorem kmet_is {D:Nat→Prop} {W:World} {S:Nat→Option (List Name)} {σ:Nat→St} {kb sb:Nat} {K:Kn} {A:Option Addr} {c:Nat} (v:ByteArray) (hN:NameSets D W S σ) (hK:KnS W S kb sb K A c) (hkD : ¬D kb) (hAD:AIn A (fun j=>¬D j)) (hl:(K.1.length:Int)≤1000000) (hl2:(K.2.length:Int)≤1000000) :
 Calls Tryz.prog 201 #[.pointer (some ⟨kb,0,none⟩),.string v] W fun e W'=>e = .returned (.tuple #[])∧MetTo D W S kb sb K v W':=by
 obtain ⟨i0,hi0,hz0,hz1,hz2⟩:=info_parts info_str
 have s0:W.cell? ⟨kb,0,none⟩=some (.pointer (some ⟨sb,0,none⟩)):=(hK.blk.cell 0).trans rfl
 have hkl:=hK.blk.lt
 have HN:=Lib.hid hN
 have HK:=Lib.hid hK
 have HAD:=Lib.hid hAD
 have HKD:=Lib.hid hkD
 have HSA:=Lib.hid (hN.at_ sb K.1 hK.set)
 clear hN hK hAD hkD
 go_enter Tryz.func201,Tryz.ntmps201
 go_wp2_with fail
 refine (sPut_Name v HN.out HK.out.set (by omega)).mono ?_
 rintro e w1 ⟨rfl,σ',h1,_,hF,hFb⟩
 have hkb1:=HK.out.blk.fr hFb (blk_far HSA.out HK.out.blk (by decide) (by decide))
 have hrw1:=owns_far HSA.out HK.out.row (by decide) (by decide) hFb
 have H1:=Lib.hid h1
 have HF:=Lib.hid hF
 have HKB:=Lib.hid hkb1
 have HRW:=Lib.hid hrw1
 clear h1 hF hFb
 cases hh:has cmpName K.1 v
 · have hm:metK K v=(put cmpName K.1 v,K.2 ++ [v]):=by unfold metK;rw [hh];rfl
   have HM:=Lib.hid hm
   have s1:w1.cell? ⟨kb,1,none⟩=some (.slice A K.2.length c):=(hkb1.cell 1).trans rfl
   have f1:=hkb1.frozen 1
   have hkl1:=hkb1.lt
   have hlt1:=HF.out.size
   clear hm hh hkb1 hrw1 s0
   go_wp2_with (at_builtin;refine wpList_append_src _ rfl (.tmp 14) (.tmp 16) 94 rfl 9 i0 _ 1 16 Tryz.underlying94 hi0 hz0 hz1 hz2 rfl (by omega) (.slice A K.2.length c) K.2.length (K.2.map Value.string) rfl (ownsRow_new HRW.out ((Below.refl _ _).alloc (Nat.le_refl _) _)) _ 1 1 [Value.string v] rfl rfl (fun _=>⟨_,rfl,news_one (by simp)⟩) (by intro u hu;simp at hu;subst hu;rfl) (by unfold maxLen;omega) (by omega) ?_;intro v' w4 hown hg hnil hat;obtain ⟨A',c',rfl,_,_,_⟩:=own_form2 hown;have hkb4:=(HKB.out.alloc (.cells #[.string v] 9)).grown hg (own_blk_ne HRW.out HKB.out (by decide));have s1:=(hkb4.cell 1).trans rfl;have f1:=hkb4.frozen 1;have hkl1:=hkb4.lt;have HKB4:=Lib.hid hkb4;have HO4:=Lib.hid hown;have HG4:=Lib.hid hg;have HAT:=Lib.hid hat;clear hkb4 hown hg hnil hat)
   go_end0
   refine ⟨rfl,?_⟩
   unfold MetTo
   rw [HM.out]
   have hfr:Fr (fun j=>(Value.slice A K.2.length c).ownBlock=some j∨j=kb) w1 (w4.setCell ⟨kb,1,none⟩ (.slice A' (K.2.length+1) c')):=(((Fr.refl _ w1).alloc _).grown HG4.out (fun k hk=>.inl (.inl hk))).setCell (p:=⟨kb,1,none⟩) (.inl (.inr rfl)) _
   have hoff : ∀k,((Value.slice A K.2.length c).ownBlock=some k∨k=kb)→Off k (upd S sb (some (put cmpName K.1 v))) σ':=by
    intro k hk
    rcases hk with hk | rfl
    · rcases HRW.out.2 with ⟨hv,_⟩ | ⟨g,cap,cur,hv,_,hg,_⟩
      · rw [hv] at hk;simp [Value.ownBlock] at hk
      · rw [hv] at hk
        have e:g=k:=by simpa [Value.ownBlock] using hk
        subst e
        exact H1.out.off_of (t:=9) hg (by decide) (by decide)
    · exact H1.out.off_of HKB.out (by decide) (by decide)
   refine ⟨σ',A',c',H1.out.offM hoff hfr,⟨?_,?_,upd_same _ _ _⟩,?_,HF.out.trans (hfr.mono (fun j _ hj=>?_))⟩
   · have:=HKB4.out.set_ 1 (.slice A' (K.2.length+1) c')
     rw [List.length_append]
     exact this
   · have h9:=ownsRow_setCell_other (a:=⟨kb,1,none⟩) HO4.out (own_blk_ne HO4.out HKB4.out (by decide)) (.slice A' (K.2.length+1) c')
     rw [List.length_append,List.map_append]
     exact h9
   · intro a ha hd
     subst ha
     have hlow:=H1.out.low _ hd
     rcases HAT.out with h | h
     · rcases A with _ | b
       · simp [Value.ownBlock] at h
       · have e:a.block=b.block:=by simpa [Value.ownBlock] using h
         exact HAD.out b rfl (e ▸ hd)
     · have e:a.block=w1.heap.size+1:=by simpa [Value.ownBlock] using h
       omega
   · rcases hj with hj | rfl
     · rcases A with _ | b
       · simp [Value.ownBlock] at hj
       · have e:b.block=j:=by simpa [Value.ownBlock] using hj
         exact fun hd=>HAD.out b rfl (e ▸ hd)
     · exact HKD.out
 · have hm:metK K v=(put cmpName K.1 v,K.2):=by unfold metK;rw [hh];rfl
   have HM:=Lib.hid hm
   clear hm hh
   go_wp2_with fail
   go_end0
   refine ⟨rfl,?_⟩
   unfold MetTo
   rw [HM.out]
   exact ⟨σ',A,c,H1.out,⟨HKB.out,HRW.out,upd_same _ _ _⟩,HAD.out,HF.out⟩
end Go.Proofs.YtldndkngpdfpfaaGreat
namespace Go.Proofs.YtldndkngpdfpfaaGreat
open Go.RowKit Go.Shelf
theorem upd_twice {α:Type} (S:Nat→α) (b:Nat) (x y:α):upd (upd S b x) b y=upd S b y:=by
 funext k
 by_cases e:k=b
 · subst e;rw [upd_same,upd_same]
 · rw [upd_ne _ _ e,upd_ne _ _ e,upd_ne _ _ e]
def KSt (D:Nat→Prop) (W:World) (S:Nat→Option (List Name)) (kb sb:Nat) (K:Kn) (W':World):Prop:=
 ∃σ' A' c',NameSets D W' (upd S sb (some K.1)) σ'∧KnS W' (upd S sb (some K.1)) kb sb K A' c'∧AIn A' (fun j=>¬D j)∧Fr (fun j=>¬D j) W W'
theorem KSt.below {D:Nat→Prop} {W W1 W2:World} {S:Nat→Option (List Name)} {kb sb:Nat} {K:Kn} (h:KSt D W S kb sb K W1) (hb:Below W1.heap.size W1 W2):KSt D W S kb sb K W2:=by
 obtain ⟨σ',A',c',h1,h2,h3,h4⟩:=h
 exact ⟨σ',A',c',h1.below hb,⟨h2.blk.new_ hb,ownsRow_new h2.row hb,h2.set⟩,h3,h4.trans (Fr.of_new hb)⟩
theorem metK_len (K:Kn) (v:ByteArray) (hs:Srt cmpName K.1):(metK K v).1.length≤K.1.length+1∧(metK K v).2.length≤K.2.length+1:=by
 unfold metK
 cases h:has cmpName K.1 v
 · simp [length_put tc_name hs h]
 · simp [put_has h]
theorem KSt.met {D:Nat→Prop} {W W1:World} {S:Nat→Option (List Name)} {kb sb:Nat} {K:Kn} (v:ByteArray) (h:KSt D W S kb sb K W1) (hkD : ¬D kb) (hl:(K.1.length:Int)≤1000000) (hl2:(K.2.length:Int)≤1000000) :
 Calls Tryz.prog 201 #[.pointer (some ⟨kb,0,none⟩),.string v] W1 fun e W'=>e = .returned (.tuple #[])∧KSt D W S kb sb (metK K v) W'∧(metK K v).1.length≤K.1.length+1∧(metK K v).2.length≤K.2.length+1:=by
 obtain ⟨σ',A',c',h1,h2,h3,h4⟩:=h
 refine (kmet_is v h1 h2 hkD h3 hl hl2).mono ?_
 rintro e W' ⟨he,σ2,A2,c2,g1,g2,g3,g4⟩
 rw [upd_twice] at g1 g2
 exact ⟨he,⟨σ2,A2,c2,g1,g2,g3,h4.trans g4⟩,metK_len K v (h1.srt sb _ (upd_same _ _ _))⟩
theorem KSt.has_ {D:Nat→Prop} {W W1:World} {S:Nat→Option (List Name)} {kb sb:Nat} {K:Kn} (v:ByteArray) (h:KSt D W S kb sb K W1) (hl:(K.1.length:Int)≤1000000) :
 Calls Tryz.prog 163 #[.pointer (some ⟨kb,0,none⟩),.string v] W1 fun e W'=>e = .returned (.bool (hasK K v))∧Below W1.heap.size W1 W':=by
 obtain ⟨σ',A',c',h1,h2,h3,h4⟩:=h
 exact khas_is v h1 h2 hl
theorem drop_one {α:Type} {l:List α} {i:Nat} (h:i<l.length):l.drop i=l[i] :: l.drop (i+1):=List.drop_eq_getElem_cons h
theorem fieldK_cons (k:Kn) (t:TestT) (l:List TestT):fieldK k (t :: l)=if t.rel=8∨t.var.toList = [] then fieldK k l else if t.rel=1 then fieldK (metK k t.var) l else if hasK k t.var=true then fieldK k l else (false,k):=rfl
set_option maxRecDepth 100000 in
set_option maxHeartbeats 8000000 in
theorem kfield_is {D:Nat→Prop} {W:World} {S:Nat→Option (List Name)} {kb sb:Nat} {K:Kn} {A:Option Addr} {c:Nat} (l:List TestT) (h:KSt D W S kb sb K W) (hkD : ¬D kb) (hrd:RowR repTestT D W A c l) (hl:(K.1.length:Int)+l.length≤1000000) (hl2:(K.2.length:Int)+l.length≤1000000) :
 Calls Tryz.prog 202 #[.pointer (some ⟨kb,0,none⟩),.slice A l.length c] W fun e W'=>e = .returned (.bool (fieldK K l).1)∧KSt D W S kb sb (fieldK K l).2 W'∧(fieldK K l).2.1.length≤K.1.length+l.length∧(fieldK K l).2.2.length≤K.2.length+l.length:=by
 have H0:=Lib.hid h
 have HR:=Lib.hid hrd
 have HKD:=Lib.hid hkD
 have hlc:=hrd.cap
 clear h hrd hkD
 go_enter Tryz.func202,Tryz.ntmps202
 go_wp2_with fail
 go_loopw [9] (fun s wr=>∃(i:Nat) (K':Kn),s = .int .i64 i∧i≤l.length∧fieldK K l=fieldK K' (l.drop i)∧KSt D W S kb sb K' wr∧K'.1.length≤K.1.length+i∧K'.2.length≤K.2.length+i) (fun s wr=>l.length - (intOf s).toNat)
 case atStart=>exact ⟨0,K,rfl,Nat.zero_le _,rfl,H0.out,Nat.le_refl _,Nat.le_refl _⟩
 case round=>
  obtain ⟨i,K',rfl,hi,hfk,hst,hk1,hk2⟩:=hrel
  have HFK:=Lib.hid hfk
  have HST:=Lib.hid hst
  have HF:=Lib.hid (show Fr (fun j=>¬D j) W wr from by obtain ⟨_,_,_,_,_,_,h4⟩:=hst;exact h4)
  clear hfk hst
  by_cases hlt:i<l.length
  · obtain ⟨y,hy⟩ : ∃y,y=l[i]:=⟨_,rfl⟩
    have hdr:=drop_one hlt
    rw [← hy] at hdr
    obtain ⟨g,off,A1,c1,rfl,_,hg,q0,q1,q2,q3,q4,q5,hrow⟩:=at_TestT (HR.out.fr HF.out (fun j hd hn=>hn hd)) hlt
    rw [← hy] at q0 q1 q2 q3 q4 q5
    have HDR:=Lib.hid hdr
    have b1:(0:Int)≤(i:Int):=by omega
    have b2:(i:Int)<(l.length:Int):=by omega
    clear hy hrow hdr
    by_cases h8:y.rel=8
    · have r1:(y.rel == 8)=true:=by simp [h8]
      have r2:decide (y.rel=8)=true:=by simp [h8]
      have HS:=Lib.hid (show fieldK K' (y :: l.drop (i+1))=fieldK K' (l.drop (i+1)) by rw [fieldK_cons,if_pos (.inl h8)])
      clear h8
      go_wp2_with fail
      go_roundw
      case rel=>exact ⟨i+1,K',by go_num,by omega,by rw [HFK.out,HDR.out,HS.out],HST.out.below (by (repeat (first | exact Below.refl _ _ | refine Below.drew ?_ | refine Below.al ?_ _ | refine Below.sc ?_ _))),by omega,by omega⟩
      case measure=>simp [intOf]<;>omega
    have r1:(y.rel == 8)=false:=by simp [h8]
    have r2:decide (y.rel=8)=false:=by simp [h8]
    by_cases hv:y.var.toList = []
    · have v1:(y.var.toList == [])=true:=by simp [hv]
      have v2:y.var.toList.isEmpty=true:=by simp [hv]
      have v3:decide (y.var.toList = [])=true:=by simp [hv]
      have HS:=Lib.hid (show fieldK K' (y :: l.drop (i+1))=fieldK K' (l.drop (i+1)) by rw [fieldK_cons,if_pos (.inr hv)])
      clear h8 hv
      go_wp2_with fail
      go_roundw
      case rel=>exact ⟨i+1,K',by go_num,by omega,by rw [HFK.out,HDR.out,HS.out],HST.out.below (by (repeat (first | exact Below.refl _ _ | refine Below.drew ?_ | refine Below.al ?_ _ | refine Below.sc ?_ _))),by omega,by omega⟩
      case measure=>simp [intOf]<;>omega
    have v1:(y.var.toList == [])=false:=by simp [hv]
    have v2:y.var.toList.isEmpty=false:=by simp [hv]
    have v3:decide (y.var.toList = [])=false:=by simp [hv]
    have hnot : ¬(y.rel=8∨y.var.toList = []):=fun h=>h.elim h8 hv
    by_cases h1:y.rel=1
    · have s1:(y.rel == 1)=true:=by simp [h1]
      have s2:decide (y.rel=1)=true:=by simp [h1]
      have HS:=Lib.hid (show fieldK K' (y :: l.drop (i+1))=fieldK (metK K' y.var) (l.drop (i+1)) by rw [fieldK_cons,if_neg hnot,if_pos h1])
      clear h8 hv hnot h1
      go_wp2_with fail
      refine (KSt.met y.var (HST.out.below (by (repeat (first | exact Below.refl _ _ | refine Below.drew ?_ | refine Below.al ?_ _ | refine Below.sc ?_ _)))) HKD.out (by omega) (by omega)).mono ?_
      rintro e w5 ⟨rfl,hst5,hl5,hl6⟩
      have HST5:=Lib.hid hst5
      clear hst5 q0 q1 q2 q3 q4 q5
      go_wp2_with fail
      go_roundw
      case rel=>exact ⟨i+1,metK K' y.var,by go_num,by omega,by rw [HFK.out,HDR.out,HS.out],HST5.out,by omega,by omega⟩
      case measure=>simp [intOf]<;>omega
    have s1:(y.rel == 1)=false:=by simp [h1]
    have s2:decide (y.rel=1)=false:=by simp [h1]
    cases hh:hasK K' y.var
    · have HS:=Lib.hid (show fieldK K' (y :: l.drop (i+1))=(false,K') by rw [fieldK_cons,if_neg hnot,if_neg h1,hh];rfl)
      clear h8 hv hnot h1
      go_wp2_with fail
      refine (KSt.has_ y.var (HST.out.below (by (repeat (first | exact Below.refl _ _ | refine Below.drew ?_ | refine Below.al ?_ _ | refine Below.sc ?_ _)))) (by omega)).mono ?_
      rintro e w5 ⟨rfl,hb5⟩
      rw [hh]
      have hb5':=Below.trans (show Below wr.heap.size wr _ from (by (repeat (first | exact Below.refl _ _ | refine Below.drew ?_ | refine Below.al ?_ _ | refine Below.sc ?_ _)))) (hb5.mono (by simp))
      have HST5:=Lib.hid (HST.out.below hb5')
      have HE:=Lib.hid (show fieldK K l=(false,K') by rw [HFK.out,HDR.out,HS.out])
      clear hb5 hb5' hh q0 q1 q2 q3 q4 q5
      go_wp2_with fail
      go_ret
      rw [HE.out]
      exact ⟨rfl,HST5.out,by dsimp only;omega,by dsimp only;omega⟩
    · have HS:=Lib.hid (show fieldK K' (y :: l.drop (i+1))=fieldK K' (l.drop (i+1)) by rw [fieldK_cons,if_neg hnot,if_neg h1,hh];rfl)
      clear h8 hv hnot h1
      go_wp2_with fail
      refine (KSt.has_ y.var (HST.out.below (by (repeat (first | exact Below.refl _ _ | refine Below.drew ?_ | refine Below.al ?_ _ | refine Below.sc ?_ _)))) (by omega)).mono ?_
      rintro e w5 ⟨rfl,hb5⟩
      rw [hh]
      have hb5':=Below.trans (show Below wr.heap.size wr _ from (by (repeat (first | exact Below.refl _ _ | refine Below.drew ?_ | refine Below.al ?_ _ | refine Below.sc ?_ _)))) (hb5.mono (by simp))
      have HST5:=Lib.hid (HST.out.below hb5')
      clear hb5 hb5' hh q0 q1 q2 q3 q4 q5
      go_wp2_with fail
      go_roundw
      case rel=>exact ⟨i+1,K',by go_num,by omega,by rw [HFK.out,HDR.out,HS.out],HST5.out,by omega,by omega⟩
      case measure=>simp [intOf]<;>omega
  · have hie:i=l.length:=by omega
    subst hie
    have hend:fieldK K l=(true,K'):=by rw [HFK.out,List.drop_length];rfl
    have HE:=Lib.hid hend
    clear hend
    go_wp2_with fail
    go_ret
    rw [HE.out]
    exact ⟨rfl,HST.out,hk1,hk2⟩
end Go.Proofs.YtldndkngpdfpfaaGreat
