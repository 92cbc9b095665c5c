/-
  Texts put together: PutLword, MiscLword, NewLword, LrnNm, LeafPgS, FindPgS, OpsPgS, PutPgS.
-/
import Derived.Test.YtldndkngpdfpfaaGreatPLc
import Derived.Test.YtldndkngpdfpfaaGreatPLb
import Derived.IntWalk
import Derived.Test.YtldndkngpdfpfaaGreatPLa
import Derived.Maps.RangeWalk
namespace Go.Proofs.YtldndkngpdfpfaaGreat
set_option maxRecDepth 100000
set_option maxHeartbeats 32000000
section
open Go.RowKit
def PutPostLword (w:World) (b:Nat) (sn:Bool) (A:Option Addr) (l:List Lword) (x:Lword) (e:Ending) (w':World):Prop:=
 e = .returned (.bool (!has cmpLword l x))∧∃sn' A' c',LwordSet w' b sn' A' c' (put cmpLword l x)∧Fr (SetMod b sn A) w w'∧Moved w sn A sn' A'
theorem put_there_Lword (b c:Nat) (sn:Bool) (A:Option Addr) (l:List Lword) (x:Lword) (w:World) (hS:LwordSet w b sn A c l) (hs:Srt cmpLword l) (hl:(l.length:Int)≤100000000) (hh:has cmpLword l x=true) :
 Calls Tryz.prog 80 #[.pointer (some ⟨b,0,none⟩),.string x] w (PutPostLword w b sn A l x):=by
 have HS:=Lib.hid hS;have HO:=Lib.hid hs;clear hS hs;go_enter Tryz.func80,Tryz.ntmps80;(go_wp2_with fail);refine (find_Lword b c sn A l x _ (HS.out.new_ (Below.refl _ _)) HO.out (by omega)).mono ?_;rintro e w1 ⟨rfl,hb1⟩;(go_wp2_with fail);go_ret;refine ⟨by rw [hh];rfl,sn,A,c,?_,Fr.of_new ((Below.refl _ _).trans (hb1.mono (by simp))),.inl ⟨rfl,rfl⟩⟩;rw [put_has hh];exact HS.out.new_ ((Below.refl _ _).trans (hb1.mono (by simp)))
theorem put_new_Lword (b c:Nat) (sn:Bool) (A:Option Addr) (l:List Lword) (x:Lword) (w:World) (hS:LwordSet w b sn A c l) (hs:Srt cmpLword l) (hl:(l.length:Int)≤100000000) (hh:has cmpLword l x=false) :
 Calls Tryz.prog 80 #[.pointer (some ⟨b,0,none⟩),.string x] w (PutPostLword w b sn A l x):=by
 obtain ⟨i0,hi,hz0,hz1,hz2⟩:=info_parts info_Lword;have HS:=Lib.hid hS;have HO:=Lib.hid hs;have hb:=hS.lt;clear hS hs;have hrk:=rank_le (cmp:=cmpLword) l x;go_enter Tryz.func80,Tryz.ntmps80;(go_wp2_with fail);have hSa:=HS.out.new_ (Below.refl w.heap.size w);have HSa:=Lib.hid hSa;clear hSa;refine (find_Lword b c sn A l x _ HSa.out HO.out (by omega)).mono ?_;rintro e w1 ⟨rfl,hb1⟩;have HS1:=Lib.hid (HSa.out.new_ hb1);(have hsz1:w.heap.size≤w1.heap.size:=by have:=hb1.size;(try simp at this);omega);have HB1:=Lib.hid hb1;clear hb1;(go_wp2_with fail);refine (own_Lword b c sn A l _ HS1.out (by omega)).mono ?_;rintro e w2 ⟨rfl,A1,c1,hS2,hF2,hM2⟩;have hsz2:w1.heap.size≤w2.heap.size:=hF2.size;have s0:=hS2.cell0;have f0:=hS2.blk.frozen 0;(have hb2:b<w2.heap.size:=by omega);have HS2:=Lib.hid hS2;have HF2:=Lib.hid hF2;have HM2:=Lib.hid hM2;clear hS2 hF2 hM2
 go_upto_region 8 with
  (at_builtin;refine wpList_append_src (w2.alloc (.cells #[.string x] 158)) rfl (.tmp 23) (.tmp 25) 212 rfl 158 i0 _ 1 16 Tryz.underlying212 hi hz0 hz1 hz2 rfl (by omega) (.slice A1 l.length c1) l.length (l.flatMap Lword.cells) rfl (ownsRow_new HS2.out.row ((Below.refl _ _).alloc (Nat.le_refl _) _)) (some ⟨w2.heap.size,0,none⟩) 1 1 (Lword.cells x) rfl rfl (fun _=>⟨_,rfl,World.news_of_block (heap_alloc_new _ _)⟩) (Lword.one x) (by unfold maxLen;omega) (by omega) ?_;
   intro v2 w3 hown hgr hnil hat;
   obtain ⟨g,c2,rfl⟩ : ∃g c2,v2 = .slice (some ⟨g,0,none⟩) (l.length+1) c2:=(by
    rcases ownsRow_form hown with ⟨_,h0,_⟩ | ⟨g,c2,h,_⟩
    · omega
    · exact ⟨g,c2,h⟩);
   have HB3':=(HS2.out.blk.alloc (.cells #[.string x] 158)).grown hgr (own_blk_ne HS2.out.row HS2.out.blk (by decide));
   have c0:=(HB3'.cell 0).trans rfl;
   have z0:=HB3'.frozen 0;
   have HB3:=Lib.hid HB3';
   have HOWN:=Lib.hid hown;
   have HGR:=Lib.hid hgr;
   clear HB3' hown hgr)
 have hlg:((l.length+1:Nat):Int)=(l.length:Int)+1:=by omega
 have hG:(SetMod b sn A g∨w.heap.size≤g)∧Moved w sn A false (some ⟨g,0,none⟩)∧True∧g≠b:=by
  rcases hat with h | h
  · rcases A1 with _ | a1
    · simp [Value.ownBlock] at h
    · obtain ⟨A',c',hv,_,_,hz⟩:=own_form2 HS2.out.row
      injection hv with hv _ _;obtain ⟨g',rfl⟩:=hz a1 hv.symm;(have hgg:g'=g:=by simpa [Value.ownBlock] using h.symm);subst hgg;have hne:g'≠b:=HS2.out.row_ne (by decide) _ rfl;rcases HM2.out with ⟨hsn,hA⟩ | ⟨_,g2,hg2,hA⟩
      · have h1:=HS.out.row_lt _ hA.symm
        exact ⟨.inl (.inr ⟨hsn.symm,_,hA.symm,rfl⟩),.inl ⟨hsn,hA⟩,True.intro,hne⟩
      · injection hA with hA
        injection hA with hA;subst hA;exact ⟨.inr (by omega),.inr ⟨rfl,_,by omega,rfl⟩,True.intro,hne⟩
  · have hgg:g=w2.heap.size+1:=by simpa [Value.ownBlock] using h
    subst hgg;exact ⟨.inr (by omega),.inr ⟨rfl,_,by omega,rfl⟩,True.intro,by omega⟩
 obtain ⟨hgM,hgMv,hgk1,hgb⟩:=hG;obtain ⟨w4,hw4⟩ : ∃w4,w4=w3.setCell ⟨b,0,none⟩ (.slice (some ⟨g,0,none⟩) (l.length+1) c2):=⟨_,rfl⟩;have hB4:Blk w4 b 214 #[.slice (some ⟨g,0,none⟩) (l.length+1) c2,.bool false]:=by rw [hw4];exact HB3.out.set_ 0 _
 have hR4:w4.ownsRow 0 158 1 (.slice (some ⟨g,0,none⟩) (l.length+1) c2) (l.length+1) ((shiftAt l x l.length).flatMap Lword.cells):=by
  rw [hw4,shiftAt_start];refine ownsRow_setCell_other (a:=⟨b,0,none⟩) ?_ (by simpa [Value.ownBlock] using hgb) _;rw [List.flatMap_append,List.flatMap_singleton];exact HOWN.out
 have hF4:Fr (SetMod b sn A) w w4:=by
  rw [hw4];have h1:Fr (SetMod b sn A) w w1:=Fr.of_new ((Below.refl _ _).trans (HB1.out.mono (by simp)));have h2:Fr (SetMod b sn A) w w2:=h1.trans (HF2.out.mono (fun k _ h=>.inl h));refine ((h2.alloc _).grown HGR.out (fun k hk=>?_)).setCell (p:=⟨b,0,none⟩) (.inl (.inl rfl)) _;rcases A1 with _ | a1
  · cases hk
  · simp only [Value.ownBlock,Option.some.injEq] at hk
    subst hk;rcases HM2.out with ⟨hsn,hA⟩ | ⟨_,g',hg',hA⟩
    · left;right;exact ⟨hsn.symm,a1,hA.symm,rfl⟩
    · injection hA with hA
      subst hA;right;dsimp only;omega
 rw [← hw4];have HgM:=Lib.hid hgM;have HgMv:=Lib.hid hgMv;have HB4:=Lib.hid hB4;have HR4:=Lib.hid hR4;have HF4:=Lib.hid hF4;have s4:=hB4.cell 0;have s4':w4.cell? ⟨b,0,none⟩=some (.slice (some ⟨g,0,none⟩) (l.length+1) c2):=s4;clear s4 hw4 hB4 hR4 hF4 hat hgM hgMv hnil  s0 f0;go_wp2_with fail
 go_loopw [7] (fun s wr=>∃i:Nat,s = .int .i64 i∧rank cmpLword l x≤i∧i≤l.length∧wr.ownsRow 0 158 1 (.slice (some ⟨g,0,none⟩) (l.length+1) c2) (l.length+1) ((shiftAt l x i).flatMap Lword.cells)∧Fr (· = g) w4 wr) (fun s wr=>(intOf s).toNat)
 case atStart=>exact ⟨l.length,by go_num,hrk,Nat.le_refl _,HR4.out,Fr.refl _ _⟩
 case round=>
  obtain ⟨i,rfl,hi1,hi2,hown,hfr⟩:=hrel;have hgw:g<wr.heap.size:=(hown.lt g rfl).2;have r0:wr.cell? ⟨b,0,none⟩=some (.slice (some ⟨g,0,none⟩) (l.length+1) c2):=(hfr.cell (p:=⟨b,0,none⟩) HB4.out.lt (fun h=>hgb h.symm)).trans s4';have fz : ∀o,wr.frozen? ⟨g,o,none⟩=false:=fun o=>hown.frozenAt o;have HOW:=Lib.hid hown;have HFR:=Lib.hid hfr;clear hown hfr;by_cases hlt:rank cmpLword l x<i
  · obtain ⟨j,rfl⟩ : ∃j,i=j+1:=⟨i - 1,by omega⟩
    (have hj:j<l.length:=by omega);have hrd:=ownsRow_rd (A:=some ⟨g,0,none⟩) (c:=c2) (l:=shiftAt l x (j+1)) Lword.cells_length (by rw [shiftAt_length l x hi2];exact HOW.out);obtain ⟨g',o',hgo,_,hcell⟩:=hrd.at_ (k:=j) (by rw [shiftAt_length l x hi2];omega);injection hgo with hgo;injection hgo with hg1 hg2;subst hg1;subst hg2;rw [shiftAt_read l x hj] at hcell;have q0:wr.cell? ⟨g,j,none⟩=some (.string l[j]):=by simpa using hcell 0 _ rfl
    have rmj:Room wr g 158 (c2*1)∧l.length+1≤c2:=by
     rcases ownsRow_form HOW.out with ⟨hv,_⟩ | ⟨g',cap,hv,hn,_,hr,_⟩
     · cases hv
     · injection hv with hA _ hc
       injection hA with hA;injection hA with hA;subst hA;subst hc;exact ⟨hr,hn⟩
    obtain ⟨hrm,hcap⟩:=rmj;obtain ⟨u0,t0⟩:=hrm.cell (i:=(j+1)) (by omega);(have b0:(0:Int)≤(j:Int)+1:=by omega);(have b1:(0:Int)≤(j:Int):=by omega);(have b4:(j:Int)<(l.length:Int):=by omega);(have b2:(j:Int)<(l.length:Int)+1:=by omega);(have b3:(j:Int)+1<(l.length:Int)+1:=by omega);have w1:IntKind.i64.wrap ((j:Int))=(j:Int):=IntWalk.i64_in _ (by omega);(have w2:IntKind.i64.wrap ((j:Int)+1 - 1)=(j:Int):=by rw [IntWalk.i64_in _ (by omega)];omega);clear hcell hrd hrm;obtain ⟨y,hy⟩ : ∃y,y=l[j]:=⟨_,rfl⟩;rw [← hy] at q0;have HY:=Lib.hid hy;have hbw:b<wr.heap.size:=World.block_lt_of_cell? wr _ r0;clear hy;(go_wp2_with fail);refine wp_region_E (fun w9=>Below wr.heap.size wr w9) [(0,0),(1,0),(2,0),(3,1),(4,0),(5,0),(6,0),(7,0),(8,1),(9,0),(10,0),(11,0),(12,1),(13,0),(14,2)] (by kernel_rfl) (by kernel_rfl) (fun KK hKK=>?_);simp only [beside,List.filterMap_cons,List.filterMap_nil,List.getElem?_toArray,List.getElem?_cons_zero,List.getElem?_cons_succ,Option.map_some];(repeat ((first | (refine wpX_w ?_ (Or.inl ⟨by rfl,fun w9=>?_⟩) ?_;rotate_left 1;go_simp;with_reducible rfl) | (refine wpX_l ?_ (((Below.refl _ _).drew)) (Or.inl ⟨by rfl,fun w9 hw9=>?_⟩) ?_;rotate_left 1;obtain ⟨hc9,hf9⟩:=bcell hw9;go_simp;with_reducible rfl) | refine wpX_w undef (Or.inr ⟨by rfl,rfl⟩) ?_ | refine wpX_l undef (((Below.refl _ _).drew)) (Or.inr ⟨by rfl,rfl⟩) ?_);go_frame));refine wpX_e (by kernel_rfl) (fun K9 hK9=>?_);go_simp;refine hK9 _ _ ?_;clear hK9 K9;refine wpX_nil ?_;simp only [OnlyN_normal];refine hKK _ _ ?_;clear hKK KK;(go_wp2_with fail);go_roundw
    case rel=>
     refine ⟨j,by go_num,by omega,by omega,?_,Fr.drew ((HFR.out).setCell (p:=⟨g,(j+1),none⟩) (.inl rfl) (_))⟩;have hst:=((HOW.out).stored ((j+1)) (.string y)).1
     have he:setAll ((shiftAt l x (j+1)).flatMap Lword.cells) ((j+1)) (Lword.cells y)=(shiftAt l x j).flatMap Lword.cells:=by
      rw [flat_set1 Lword.cells_length (by omega) _ (j+1) (by rw [shiftAt_length l x hi2];omega),HY.out,shiftAt_step l x hj]
     rw [← he];exact hst
    case measure=>simp [intOf]<;>omega
  · obtain rfl:i=rank cmpLword l x:=by omega
    have rmj:Room wr g 158 (c2*1)∧l.length+1≤c2:=by
     rcases ownsRow_form HOW.out with ⟨hv,_⟩ | ⟨g',cap,hv,hn,_,hr,_⟩
     · cases hv
     · injection hv with hA _ hc
       injection hA with hA;injection hA with hA;subst hA;subst hc;exact ⟨hr,hn⟩
    obtain ⟨hrm,hcap⟩:=rmj;obtain ⟨k,hk⟩ : ∃k,k=rank cmpLword l x:=⟨_,rfl⟩;rw [← hk] at hi2 hlt ⊢;obtain ⟨u0,t0⟩:=hrm.cell (i:=k) (by omega);(have b1:(0:Int)≤(k:Int):=by omega);(have b2:(k:Int)<(l.length:Int)+1:=by omega);have HK:=Lib.hid hk;have hbw:b<wr.heap.size:=World.block_lt_of_cell? wr _ r0;clear hrm hk;(go_wp2_with fail);go_ret;have HOWk:=HOW.out;rw [← HK.out] at HOWk;have hst:=((HOWk).stored (k) (.string x)).1
    have he:setAll ((shiftAt l x k).flatMap Lword.cells) (k) (Lword.cells x)=(put cmpLword l x).flatMap Lword.cells:=by
     rw [flat_set1 Lword.cells_length (by omega) _ k (by rw [shiftAt_length l x hi2];omega),shiftAt_end l x hi2,put_eq tc_lword HO.out hh,HK.out]
    have hln:=length_put tc_lword HO.out hh;refine ⟨by rw [hh];rfl,false,some ⟨g,0,none⟩,c2,⟨?_,?_⟩,?_,?_⟩
    · rw [hln]
      exact (HB4.out.fr HFR.out (fun h=>hgb h.symm)).far (p:=⟨g,k,none⟩) (fun h=>hgb h.symm) _
    · rw [hln,← he]
      exact hst
    · exact HF4.out.into (((HFR.out).setCell (p:=⟨g,k,none⟩) (.inl rfl) (_))) (fun k hk=>by subst hk;exact HgM.out)
    · exact HgMv.out
theorem put_Lword (b c:Nat) (sn:Bool) (A:Option Addr) (l:List Lword) (x:Lword) (w:World) (hS:LwordSet w b sn A c l) (hs:Srt cmpLword l) (hl:(l.length:Int)≤100000000) :
 Calls Tryz.prog 80 #[.pointer (some ⟨b,0,none⟩),.string x] w (PutPostLword w b sn A l x):=by
 cases hh:has cmpLword l x
 · exact put_new_Lword b c sn A l x w hS hs hl hh
 · exact put_there_Lword b c sn A l x w hS hs hl hh
end
section
open Go.RowKit
theorem place_Lword (b c:Nat) (sn:Bool) (A:Option Addr) (l:List Lword) (x:Lword) (w:World) (hS:LwordSet w b sn A c l) (hs:Srt cmpLword l) (hl:(l.length:Int)≤1000000000) :
 Calls Tryz.prog 82 #[.pointer (some ⟨b,0,none⟩),.string x] w (FoundLword l x w):=by
 have HS:=Lib.hid hS;have HO:=Lib.hid hs;clear hS hs;go_enter Tryz.func82,Tryz.ntmps82;(go_wp2_with fail);refine (find_Lword b c sn A l x _ (HS.out.new_ (Below.refl _ _)) HO.out (by omega)).mono ?_;rintro e w1 ⟨rfl,hb1⟩;(go_wp2_with fail);go_ret2;exact ⟨rfl,(Below.refl _ _).trans (hb1.mono (by simp))⟩
end
section
open Go.RowKit
def NewPostLword (w:World) (xs:List Lword) (e:Ending) (w':World):Prop:=
 ∃k,e = .returned (.pointer (some ⟨k,0,none⟩))∧w.heap.size≤k∧∃sn A c,LwordSet w' k sn A c (puts cmpLword [] xs)∧AIn A (w.heap.size≤·)∧Below w.heap.size w w'
theorem new_Lword (A:Option Addr) (c:Nat) (xs:List Lword) (w:World) (hrd:RowRd w 1 Lword.cells A c xs) (hl:(xs.length:Int)≤10000000) :
 Calls Tryz.prog 79 #[.slice A xs.length c] w (NewPostLword w xs):=by
 have HRD:=Lib.hid hrd;clear hrd;go_enter Tryz.func79,Tryz.ntmps79;(go_wp2_with fail);obtain ⟨W0,hW0⟩ : ∃W0,W0=w.alloc (.cells #[.slice none 0 0,.bool false] 214):=⟨_,rfl⟩;(have hb0:Below w.heap.size w W0:=by rw [hW0];exact (Below.refl _ _).alloc (Nat.le_refl _) _);have hS0:LwordSet W0 w.heap.size false none 0 []:=⟨by rw [hW0];exact Blk.new _ _ _,⟨by simp,.inl ⟨rfl,rfl⟩⟩⟩;rw [← hW0];clear hW0;have HB0:=Lib.hid hb0;have HS0:=Lib.hid hS0;clear hb0 hS0
 go_loopw [10] (fun s wr=>∃i:Nat,s = .int .i64 i∧i≤xs.length∧∃sn A' c',LwordSet wr w.heap.size sn A' c' (puts cmpLword [] (xs.take i))∧AIn A' (w.heap.size≤·)∧Below w.heap.size w wr) (fun s wr=>xs.length - (intOf s).toNat)
 case atStart=>exact ⟨0,rfl,Nat.zero_le _,false,none,0,HS0.out,AIn.none_ _,HB0.out⟩
 case round=>
  obtain ⟨i,rfl,hi,sn,A',c',hS,hA',hB⟩:=hrel;have HS:=Lib.hid hS;have HA:=Lib.hid hA';have HB:=Lib.hid hB;clear hS hA' hB;by_cases hlt:i<xs.length
  · obtain ⟨x,hx⟩ : ∃x,x=xs[i]:=⟨_,rfl⟩
    obtain ⟨g,off,rfl,hgs,hcell⟩:=(HRD.out.fr (Fr.of_new (M:=fun _=>False) HB.out) (fun _ _ h=>h)).at_ hlt;rw [← hx] at hcell;(have q0:wr.cell? ⟨g,off+i,none⟩=some (.string x):=by simpa using hcell 0 _ rfl);(have b1:(0:Int)≤(i:Int):=by omega);(have b2:(i:Int)<(xs.length:Int):=by omega);have HX:=Lib.hid hx;clear hcell hx;(go_wp2_with fail);have hsr:=Srt.puts tc_lword (xs.take i) (Srt.nil (cmp:=cmpLword))
    have hlen:(((puts cmpLword [] (xs.take i)).length:Nat):Int)≤100000000:=by
     have:=length_puts_le tc_lword (xs.take i) (Srt.nil (cmp:=cmpLword));simp at this;omega
    refine (put_Lword w.heap.size c' sn A' _ x _ (HS.out.new_ (Below.refl _ _)) hsr hlen).mono ?_;rintro e w1 ⟨rfl,sn2,A2,c2,hS2,hF2,hM2⟩
    have hB1:Below w.heap.size w w1:=(HB.out).trans (hF2.below (by have:=HB.out.size;(try simp);omega) (fun k hk hm=>by
     rcases hm with hm | ⟨_,a,ha,hm⟩
     · omega
     · have:=HA.out a ha;omega))
    have hA2:AIn A2 (w.heap.size≤·):=by
     rcases hM2 with ⟨_,rfl⟩ | ⟨_,g2,hg2,rfl⟩
     · exact HA.out
     · intro a ha;cases ha;have:=HB.out.size;(try simp at hg2 ⊢);omega
    have HS2:=Lib.hid hS2;have HB1:=Lib.hid hB1;have HA2:=Lib.hid hA2;clear hS2 hB1 hA2 hF2 hM2 hsr hlen q0;(go_wp2_with fail);go_roundw
    case rel=>
     refine ⟨i+1,by go_num,by omega,sn2,A2,c2,?_,HA2.out,HB1.out⟩;rw [List.take_add_one,List.getElem?_eq_getElem hlt,← HX.out];simp only [Option.toList_some,puts_snoc];exact HS2.out
    case measure=>simp [intOf]<;>omega
  · have hie:i=xs.length:=by omega
    subst hie;(go_wp2_with fail);go_ret;refine ⟨w.heap.size,rfl,Nat.le_refl _,sn,A',c',?_,HA.out,HB.out⟩;have:=HS.out;rwa [List.take_length] at this
end
section
open Go.RowKit Go.Shelf
attribute [local go_sem] Oper.semAt_some
set_option linter.unusedSimpArgs false
theorem ldigits_step (n:Nat) (h : ¬n<10) (hn:n<9223372036854775808) (ih : ∀w,Calls Tryz.prog 81 #[.int .i64 ((n / 10:Nat):Int)] w fun e w'=>e = .returned (.string (decB (n / 10)))∧Below w.heap.size w w') (w:World):Calls Tryz.prog 81 #[.int .i64 n] w fun e w'=>e = .returned (.string (decB n))∧Below w.heap.size w w':=by
 (have t1:decide ((n:Int)<10)=false:=by simp;omega);(have b0:(0:Int)≤(n:Int):=by omega);(have b1:(n:Int)<9223372036854775808:=by omega);have hc:=conv1 (n % 10) (by omega);(have e1:((n:Int) / 10)=((n / 10:Nat):Int):=by omega);(have e2:((n:Int) % 10)=((n % 10:Nat):Int):=by omega);(have m0:(0:Int)≤((n % 10:Nat):Int):=by omega);(have m1:((n % 10:Nat):Int)≤9:=by omega);obtain ⟨m,hm⟩ : ∃m,m=n % 10:=⟨_,rfl⟩;obtain ⟨q,hq⟩ : ∃q,q=n / 10:=⟨_,rfl⟩;rw [← hm] at hc e2 m0 m1;rw [← hq] at e1 ih;(have HD:Hid (decB n=decB q++byte1 m):=by rw [decB,if_neg h,hm,hq];rfl);have v1:IntKind.i64.wrap (q:Int)=(q:Int):=IntWalk.i64_in _ (by omega);(have v2:((n:Int)).tmod 10=(m:Int):=by rw [Int.tmod_eq_emod_of_nonneg b0,e2]);have v3:IntKind.i64.wrap (48+(m:Int))=48+(m:Int):=IntWalk.i64_in _ (by omega);(have v4:IntKind.u8.wrap (48+(m:Int))=48+(m:Int):=by simp [IntKind.wrap,IntKind.signed,IntKind.bits];omega);(have hz : ¬9223372036854775807<(decB q).size+(byte1 m).size:=by have:=decB_long (n:=q) (by omega);rw [byte1_size];omega);clear e2;have IH:=Lib.hid ih;have HC:=Lib.hid hc;clear ih h hm hq hc;go_enter Tryz.func81,Tryz.ntmps81;(go_wp2_with fail);refine wp_region_Pl (fun _=>True) [0,1,3,4,5,6,9,10] [] (.fork [(0,0),(1,0),(3,0),(4,0),(5,0),(6,0)] 2 (.fin [(7,2),(8,2),(9,0),(10,0)]) 7 (.fork [] 2 (.fin [(8,2),(9,0),(10,0)]) 8 (.fin [(2,2),(9,0),(10,0)]))) (by kernel_rfl) (by kernel_rfl) (by kernel_rfl) (fun KK hKK=>?_);simp only [wpPl,beside,List.filterMap_cons,List.filterMap_nil,List.getElem?_toArray,List.getElem?_cons_zero,List.getElem?_cons_succ,Option.map_some,List.any_nil];(repeat (refine wpY_w ?_ (Or.inl ⟨by rfl,fun w9=>?_⟩) ?_;rotate_left 1;go_simp;with_reducible rfl;go_frame));refine wpY_nil ⟨?_,?_⟩
 · refine wpOp_c (fun _=>by simp) rfl (fun K9 hK9=>?_)
   go_simp;refine (IH.out _).mono ?_;rintro e w1 ⟨rfl,hb1⟩;refine hK9 _ _ ?_;clear hK9 K9;(try go_frame);refine wpY_e (by rfl) (fun K9 hK9=>?_);go_simp;refine hK9 _ _ ?_;clear hK9 K9;(try go_frame);refine wpY_e (by rfl) (fun K9 hK9=>?_);have hc:=HC.out (w1.alloc (.cells #[.int .u8 (48+(m:Int))] 5)) w1.heap.size ((Blk.new _ _ _).cell 0);go_simp;refine hK9 _ _ ?_;clear hK9 K9 hc;(try go_frame);(repeat (refine wpY_w ?_ (Or.inl ⟨by rfl,fun w9=>?_⟩) ?_;rotate_left 1;go_simp;with_reducible rfl;go_frame));refine wpY_nil ?_;simp only [OnlyN_normal];refine hKK _ _ ?_;clear hKK KK;(go_wp2_with fail);go_ret;exact ⟨by rw [HD.out];rfl,((Below.refl _ _).drew.trans (hb1.mono (by simp))).alloc (by have:=hb1.size;simpa using this) _⟩
 · refine wpOp_c (fun _=>by simp) rfl (fun K9 hK9=>?_)
   go_simp;refine hK9 _ _ ?_;clear hK9 K9;(try go_frame);(try simp only [beside]);refine wpY_nil ⟨?_,?_⟩
   · refine wpOp_c (fun _=>by simp) rfl (fun K9 hK9=>?_)
     go_simp;refine (IH.out _).mono ?_;rintro e w1 ⟨rfl,hb1⟩;refine hK9 _ _ ?_;clear hK9 K9;(try go_frame);refine wpY_e (by rfl) (fun K9 hK9=>?_);have hc:=HC.out w1 w.heap.size ((hb1.cell (by simp)).trans ((Blk.new w.drew 5 #[.int .u8 (48+(m:Int))]).cell 0));go_simp;refine hK9 _ _ ?_;clear hK9 K9 hc;(try go_frame);(repeat (refine wpY_w ?_ (Or.inl ⟨by rfl,fun w9=>?_⟩) ?_;rotate_left 1;go_simp;with_reducible rfl;go_frame));refine wpY_nil ?_;simp only [OnlyN_normal];refine hKK _ _ ?_;clear hKK KK;(go_wp2_with fail);go_ret;exact ⟨by rw [HD.out];rfl,((Below.refl _ _).drew.alloc (by simp) _).trans (hb1.mono (by simp))⟩
   · refine wpOp_c (fun _=>by simp) rfl (fun K9 hK9=>?_)
     have hc:=HC.out (w.alloc (.cells #[.int .u8 (48+(m:Int))] 5)).drew w.heap.size (((Blk.new w 5 #[.int .u8 (48+(m:Int))]).drew.cell 0).trans rfl);go_simp;refine hK9 _ _ ?_;clear hK9 K9 hc;(try go_frame);refine wpY_e (by rfl) (fun K9 hK9=>?_);go_simp;refine (IH.out _).mono ?_;rintro e w1 ⟨rfl,hb1⟩;refine hK9 _ _ ?_;clear hK9 K9;(try go_frame);(repeat (refine wpY_w ?_ (Or.inl ⟨by rfl,fun w9=>?_⟩) ?_;rotate_left 1;go_simp;with_reducible rfl;go_frame));refine wpY_nil ?_;simp only [OnlyN_normal];refine hKK _ _ ?_;clear hKK KK;(go_wp2_with fail);go_ret;exact ⟨by rw [HD.out];rfl,((Below.refl _ _).drew.alloc (by simp) _).trans (hb1.mono (by simp))⟩
theorem ldigits_base (n:Nat) (h:n<10) (w:World):Calls Tryz.prog 81 #[.int .i64 n] w fun e w'=>e = .returned (.string (decB n))∧Below w.heap.size w w':=by
 (have t1:decide ((n:Int)<10)=true:=by simp;omega);(have b0:(0:Int)≤(n:Int):=by omega);(have b1:(n:Int)≤9:=by omega);have hc:=conv1 n h (w.alloc (.cells #[.int .u8 (48+(n:Int))] 5)) w.heap.size ((Blk.new _ _ _).cell 0);(have HD:Hid (decB n=byte1 n):=by rw [decB,if_pos h];rfl);clear h;go_enter Tryz.func81,Tryz.ntmps81;(go_wp2_with fail);go_ret;exact ⟨by rw [HD.out];rfl,(Below.refl _ _).alloc (Nat.le_refl _) _⟩
theorem ldigits_is (n:Nat) (hn:n<9223372036854775808) (w:World):Calls Tryz.prog 81 #[.int .i64 n] w fun e w'=>e = .returned (.string (decB n))∧Below w.heap.size w w':=by
 induction n using Nat.strongRecOn generalizing w with
 | _ n ih=>
   by_cases h:n<10
   · exact ldigits_base n h w
   · exact ldigits_step n h hn (fun w=>ih (n / 10) (by omega) (by omega) w) w
theorem has_put_L (l:List Lword) (x y:Lword):has cmpLword (put cmpLword l x) y=(has cmpLword l y || decide (x=y)):=by
 have hm : ∀z:Lword,∀m:List Lword,has cmpLword m z=true↔z∈m:=fun z m=>by
  rw [has_iff];constructor
  · rintro ⟨u,hu,e⟩
    rw [← cmpLword_eq.1 e];exact hu
  · exact fun h=>⟨z,h,cmpLword_eq.2 rfl⟩
 rw [Bool.eq_iff_iff,Bool.or_eq_true,hm,hm,decide_eq_true_eq];unfold put
 split
 · rename_i h
   rw [hm] at h;constructor
   · exact .inl
   · rintro (h1 | rfl)
     · exact h1
     · exact h
 · rename_i h
   have hn:=has_false.1 (by simpa using h);simp only [List.mem_append,List.mem_cons,mem_below,mem_above];constructor
   · rintro (h | h | h)
     · exact .inl h.1
     · exact .inr h.symm
     · exact .inl h.1
   · rintro (h | h)
     · have:=hn y h
       rcases Int.lt_trichotomy (cmpLword y x) 0 with h1 | h1 | h1
       · exact .inl ⟨h,h1⟩
       · exact absurd h1 this
       · exact .inr (.inr ⟨h,h1⟩)
     · exact .inr (.inl h.symm)
theorem has_puts_L (x:Lword) : ∀(xs l:List Lword),has cmpLword (puts cmpLword l xs) x=true↔has cmpLword l x=true∨x∈xs
 | [],l=>by rw [show puts cmpLword l []=l from rfl];exact ⟨.inl,fun h=>h.elim id (fun h=>by cases h)⟩
 | y :: xs,l=>by
   rw [show puts cmpLword l (y :: xs)=puts cmpLword (put cmpLword l y) xs from rfl,has_puts_L x xs,has_put_L,Bool.or_eq_true,decide_eq_true_eq,List.mem_cons,or_assoc];exact or_congr Iff.rfl (or_congr eq_comm Iff.rfl)
theorem keepsFrom_reflL (B:Nat) (w:World):KeepsFrom B w w:=KeepsFrom.of_fr (Fr.refl (fun _=>False) w) (fun _ h=>h.elim) B
def NameTo (names:List ByteArray) (X:World) (e:Ending) (w':World):Prop:=∃n,NextN names n∧e = .returned (.string (chunkB n))∧Below X.heap.size X w'
theorem lname_is {gf:Nat} {lb:Array Value} {l:List PV} {Kp:World→World→Prop} (w:World) (hq:Seq gf lb encOPV l w (fun X Y=>Y=X) Kp) (hl:l.length≤100000) :
 Calls Tryz.prog 46 #[.func (.func gf) #[] lb] w (NameTo (l.map PV.name) w):=by
 have HQ:=Lib.hid hq;clear hq;refine (callsIn_wide (n:=0)).1 ?_;refine callsIn_of_wp_marks Tryz.func46 rfl trivial ?_;simp only [Tryz.ntmps46,List.size_toArray,List.length_cons,List.length_nil,Nat.reduceAdd,Nat.reduceSub,Array.replicate_succ,Array.replicate_zero,List.push_toArray,List.append_toArray,List.nil_append,List.cons_append];(gi_wp2_with fail);refine ⟨trivial,rfl,?_⟩;refine (callsIn_wide.2 (new_Lword none 0 [] _ (RowRd.nil _ _ _) (by simp))).mono ?_;rintro e w1 ⟨bp,rfl,hbp,sn,A,c,hS,hA,hB⟩;have HS:=Lib.hid hS;have HA:=Lib.hid hA;have HB:=Lib.hid hB;clear hS hA hB;(gi_wp2_with fail);obtain ⟨w3,hw3⟩ : ∃W,W=w1.alloc (.cells #[.pointer (some ⟨bp,0,none⟩)] 156):=⟨_,rfl⟩;obtain ⟨bb,hbb⟩ : ∃b,b=w1.heap.size:=⟨_,rfl⟩;have KB:=Lib.hid (show Blk w3 bb 156 #[.pointer (some ⟨bp,0,none⟩)] by rw [hw3,hbb];exact Blk.new _ _ _);(have hb3:Below w1.heap.size w1 w3:=by rw [hw3];exact (Below.refl _ _).alloc (Nat.le_refl _) _);have HB3:=Lib.hid (HB.out.trans (hb3.mono HB.out.size));have HS:=Lib.hid (HS.out.new_ hb3);rw [← hw3,← hbb];clear hw3 hbb hb3;obtain ⟨I,hI⟩ : ∃I:List PV→World→Prop,I=fun p W=>∃sn A c,LwordSet W bp sn A c (puts cmpLword [] (p.map PV.name))∧AIn A (w.heap.size≤·)∧Below w.heap.size w W∧Blk W bb 156 #[.pointer (some ⟨bp,0,none⟩)]∧w3.heap.size≤W.heap.size:=⟨_,rfl⟩;have HQ3:=Lib.hid (HQ.out.new_ HB3.out);have hwz:w.heap.size≤w3.heap.size:=HB3.out.size;refine wpIn_range (w:=w3) (by rfl) HQ3.out.enter HQ3.out.iter (fun x=>by rfl) HQ3.out.trans HQ3.out.keep (fun W W1 h=>keepsFrom_of_fr (HQ3.out.mods W W1 h)) I (fun _ _ _=>False) ?_ (fun _ _ _ _ h=>h.elim) ?_ ?_ ?_ ?_
 · subst hI
   rintro p X Y ⟨sn,A,c,g1,g2,g3,g4,g5⟩ hp;exact ⟨sn,A,c,g1.priv hp,g2,Below.priv' g3 hp hwz g3.size,g4.priv hp,Nat.le_trans g5 hp.size⟩
 · intro W W1 hW hs
   subst hI;subst hs;exact ⟨sn,A,c,HS.out.new_ hW,HA.out,HB3.out.trans (hW.mono hwz),KB.out.new_ hW,hW.size⟩
 · intro lo pre x post W hx hlo hIW
   (have hx':l.length=pre.length+(post.length+1):=by rw [hx];simp);clear hx;rw [hI] at hIW;obtain ⟨sn1,A1,c1,g1,g2,g3,g4,g5⟩:=hIW;have HI:=Lib.hid hI;have G1:=Lib.hid g1;have G2:=Lib.hid g2;have G3:=Lib.hid g3;have G4:=Lib.hid g4;clear g1 g2 g3 g4 hI;simp only [encOPV,Array.zip];(gi_wp2_with fail);refine ⟨KeepsFrom.alloc_ (keepsFrom_reflL _ _) _,fun W3 hp3 hz3 _=>?_⟩;have hbw:Below W.heap.size W (W.alloc (.cells #[.string x.name,.slice x.cs.A x.cs.n x.cs.c,.slice x.acts.A x.acts.n x.acts.c] 45)):=(Below.refl _ _).alloc (Nat.le_refl _) _;have hx3:Blk W3 W.heap.size 45 #[.string x.name,.slice x.cs.A x.cs.n x.cs.c,.slice x.acts.A x.acts.n x.acts.c]:=(Blk.new W 45 _).priv hp3;have S3:=Lib.hid ((G1.out.new_ hbw).priv hp3);have K3:=Lib.hid ((G4.out.new_ hbw).priv hp3);have WB:=Lib.hid (show Below w.heap.size W W3 from Below.priv' (hbw.mono G3.out.size) hp3 hwz (Nat.le_trans G3.out.size hbw.size));have B3:=Lib.hid (G3.out.trans WB.out);have HZ3:=Lib.hid (show w3.heap.size≤W3.heap.size from Nat.le_trans g5 (Nat.le_trans hbw.size hp3.size));obtain ⟨x0,x1,x2⟩:=hx3.c3;have xz:=hx3.lt;have b0:=K3.out.c1;have bz:=K3.out.lt;clear hbw hx3 hp3 hz3 g5;(gi_wp2_with fail);refine ⟨trivial,rfl,?_⟩
   have hlen:((puts cmpLword [] (pre.map PV.name)).length:Int)≤100000000:=by
    have:=length_puts_le tc_lword (pre.map PV.name) (Srt.nil (cmp:=cmpLword));rw [List.length_map] at this;simp at this;omega
   refine (callsIn_wide.2 (put_Lword bp c1 sn1 A1 _ x.name W3 S3.out (Srt.puts tc_lword _ Srt.nil) hlen)).mono ?_;rintro e W4 ⟨rfl,sn4,A4,c4,s4,hF4,hM4⟩;have S4:=Lib.hid s4;have F4:=Lib.hid hF4;have M4:=Lib.hid hM4;clear s4 hF4 hM4 x0 x1 x2 xz b0 bz hlen;(gi_wp2_with fail);have hI:=HI.out;subst hI
   have f4b:Below w.heap.size W3 W4:=F4.out.below B3.out.size (fun k hk hm=>by
    rcases hm with rfl | ⟨_,a,ha,rfl⟩
    · omega
    · have:w.heap.size≤a.block:=G2.out a ha
      omega)
   refine ⟨KeepsFrom.of_fr F4.out (fun k hk _=>?_) _,HQ.out.below _ _ (WB.out.trans f4b),sn4,A4,c4,?_,?_,B3.out.trans f4b,?_,Nat.le_trans HZ3.out F4.out.size⟩
   · rcases hk with rfl | ⟨_,a,ha,rfl⟩
     · exact S3.out.blk.at_
     · exact owns_cells S3.out.row a.block (by rw [ha];rfl)
   · rw [List.map_append,List.map_cons,List.map_nil,puts_snoc];exact S4.out
   · rcases M4.out with ⟨_,rfl⟩ | ⟨_,g,hg,rfl⟩
     · exact G2.out
     · exact AIn.one (Nat.le_trans B3.out.size hg)
   · refine K3.out.fr F4.out ?_
     rintro (e | ⟨_,a,ha,e⟩)
     · exact K3.out.ne_ S3.out.blk (by decide) e
     · exact own_blk_ne S3.out.row K3.out (by decide) (by rw [ha];simp [Value.ownBlock,e])
 · intro Dd W hDd hIW hK
   subst hI;obtain ⟨sn1,A1,c1,g1,g2,g3,g4,g5⟩:=hIW;have S1:=Lib.hid g1;have B1:=Lib.hid g3;have K1:=Lib.hid g4;have HK:=Lib.hid hK;have HDd:=Lib.hid (Nat.le_trans hwz hDd);clear g1 g2 g3 g4 g5 hK;gi_wp2_with fail
   gi_loopw [5] (fun s wr=>∃k:Nat,s = .int .i64 ((k:Int)+1)∧(∀j,1≤j→j<k+1→chunkB j∈l.map PV.name)∧Below W.heap.size W wr) (fun s wr=>l.length+2 - (intOf s).toNat)
   case atStart=>exact ⟨0,rfl,fun j h1 h2=>absurd h1 (by omega),Below.refl _ _⟩
   case round=>
    obtain ⟨k,rfl,hall,hbw⟩:=hrel;(have hkl:k≤l.length:=by have:=next_le hall;rwa [List.length_map] at this);have HALL:=Lib.hid hall;have HBW:=Lib.hid hbw;clear hall hbw;obtain ⟨dg,hdg⟩ : ∃d,d=decB (k+1):=⟨_,rfl⟩;have HD:=Lib.hid (show ∀W,Calls Tryz.prog 81 #[.int .i64 ((k:Int)+1)] W fun e w'=>e = .returned (.string dg)∧Below W.heap.size W w' from fun W=>by rw [hdg];exact ldigits_is (k+1) (by omega) W);(have hds : ¬9223372036854775807<6+dg.size:=by have:=decB_long (n:=k+1) (by omega);rw [← hdg] at this;omega);have HDG:=Lib.hid hdg;have v1:IntKind.i64.wrap ((k:Int)+1+1)=(k:Int)+1+1:=IntWalk.i64_in _ (by omega);clear hdg;(gi_wp2_with fail);refine ⟨trivial,rfl,?_⟩;refine (callsIn_wide.2 (HD.out _)).mono ?_;rintro e w5 ⟨rfl,hb5⟩;have HBW:=Lib.hid (HBW.out.trans (hb5.mono HBW.out.size));have S5:=Lib.hid (S1.out.new_ HBW.out);have b0:=(K1.out.new_ HBW.out).c1;have bz:=(K1.out.new_ HBW.out).lt;clear hb5;(gi_wp2_with fail);refine ⟨trivial,rfl,?_⟩
    have hlen:((puts cmpLword [] (l.map PV.name)).length:Int)≤1000000000:=by
     have:=length_puts_le tc_lword (l.map PV.name) (Srt.nil (cmp:=cmpLword));rw [List.length_map] at this;simp at this;omega
    refine (callsIn_wide.2 (place_Lword bp c1 sn1 A1 _ ((⟨#[99,104,117,110,107,45]⟩:ByteArray)++dg) w5 S5.out (Srt.puts tc_lword _ Srt.nil) hlen)).mono ?_;rintro e w6 ⟨rfl,hb6⟩;have HBW:=Lib.hid (HBW.out.trans (hb6.mono HBW.out.size));have HCH:=Lib.hid (show chunkB (k+1)=⟨#[99,104,117,110,107,45]⟩++dg by rw [HDG.out];rfl);have HIN:=Lib.hid (has_puts_L ((⟨#[99,104,117,110,107,45]⟩:ByteArray)++dg) (l.map PV.name) []);obtain ⟨hs,hhs⟩ : ∃b,b=has cmpLword (puts cmpLword [] (l.map PV.name)) ((⟨#[99,104,117,110,107,45]⟩:ByteArray)++dg):=⟨_,rfl⟩;rw [← hhs] at HIN ⊢;clear hb6 b0 bz hlen hhs;cases hs
    · have HN:=Lib.hid (show chunkB (k+1) ∉ l.map PV.name from fun h=>by
       rw [HCH.out] at h
       exact absurd (HIN.out.2 (.inr h)) (by decide))
      have HKW:=Lib.hid ((HBW.out.block Dd (Array.getElem?_eq_some_iff.1 HK.out).1).trans HK.out);(gi_wp2_with fail);refine ⟨by simp,.inl ⟨_,_,rfl,run_takeDeferred HKW.out,?_⟩⟩;have hpv:Priv w.heap.size w6 (w6.putObj Dd (.deferred none)):=(Priv.refl _ _).putObj HDd.out HKW.out rfl _;exact ⟨_,results_tmp rfl _ _ _,k+1,⟨by omega,HN.out,HALL.out⟩,by rw [HCH.out]<;>rfl,Below.priv' (B1.out.trans (HBW.out.mono B1.out.size)) hpv (Nat.le_refl _) (Nat.le_trans B1.out.size HBW.out.size)⟩
    · have HN:=Lib.hid (show chunkB (k+1)∈l.map PV.name by
       rw [HCH.out];rcases HIN.out.1 rfl with h | h
       · cases h
       · exact h)
      (gi_wp2_with fail);go_roundw
      case rel=>exact ⟨k+1,by go_num,fun j h1 h2=>by
       rcases Nat.lt_or_ge j (k+1) with h3 | h3
       · exact HALL.out j h1 h3
       · obtain rfl:j=k+1:=by omega
         exact HN.out,HBW.out⟩
      case measure=>simp [intOf]<;>omega
 · intro Dd c pre post W _ _ h
   exact h.elim
end
section
open Go.RowKit
structure PgS where
 kk:Sym
 v:Int
 deriving DecidableEq
def PgS.cells (x:PgS):List Value:=[.int .i64 x.kk.kind,.string x.kk.text,.int .i64 x.kk.n,.int .i64 x.v]
theorem PgS.cells_length (x:PgS):x.cells.length=4:=rfl
def cmpPgS (a b:PgS):Int:=cmpSym a.kk b.kk
theorem tc_pgs:TC cmpPgS:=⟨fun _=>tc_sym.refl _,fun _ _=>tc_sym.symm _ _,fun _ _ _=>tc_sym.trans _ _ _⟩
theorem cmpPgS_eq {a b:PgS}:cmpPgS a b=0↔a.kk=b.kk:=cmpSym_eq
theorem nilAhead_ksym (a : Int) (b : ByteArray) (c : Int) (w : World) : (nilAhead 555 23 (.agg #[.int .i64 a, .string b, .int .i64 c]) "Compare").run Tryz.prog w = .ok (some false) w := by kernel_rfl
theorem method_ksym (a : Int) (b : ByteArray) (c : Int) (w : World) : (method 555 23 (.agg #[.int .i64 a, .string b, .int .i64 c]) "Compare").run Tryz.prog w = .ok (143, .agg #[.int .i64 a, .string b, .int .i64 c]) w := by kernel_rfl
theorem cmp_pgs (a b:PgS) (w:World):Calls Tryz.prog 326 #[.agg #[.int .i64 a.kk.kind,.string a.kk.text,.int .i64 a.kk.n,.int .i64 a.v],.agg #[.int .i64 b.kk.kind,.string b.kk.text,.int .i64 b.kk.n,.int .i64 b.v]] w fun e w'=>e = .returned (.int .i64 (cmpPgS a b))∧Below w.heap.size w w':=by
 have N:=nilAhead_ksym;have M:=method_ksym;go_enter Tryz.func326,Tryz.ntmps326;(go_wp2_with fail);refine (cmp_sym a.kk b.kk _).mono ?_;rintro e w1 ⟨rfl,hb1⟩;have HB1:=Lib.hid ((((Below.refl w.heap.size w).alloc (Nat.le_refl _) _).alloc (by simp) _).trans (hb1.mono (by simp;omega)));clear hb1;(go_wp2_with fail);go_ret;exact ⟨rfl,HB1.out⟩
end
section
open Go.RowKit
abbrev PgSSet:=SetAt (α:=PgS) 281 224 4 PgS.cells
theorem nilAhead_PgS (k0 : Int) (k1 : ByteArray) (k2 : Int) (k3 : Int) (w : World) : (nilAhead 555 224 (.agg #[.int .i64 k0, .string k1, .int .i64 k2, .int .i64 k3]) "Compare").run Tryz.prog w = .ok (some false) w := by kernel_rfl
theorem method_PgS (k0 : Int) (k1 : ByteArray) (k2 : Int) (k3 : Int) (w : World) : (method 555 224 (.agg #[.int .i64 k0, .string k1, .int .i64 k2, .int .i64 k3]) "Compare").run Tryz.prog w = .ok (326, .agg #[.int .i64 k0, .string k1, .int .i64 k2, .int .i64 k3]) w := by kernel_rfl
def FoundPgS (l:List PgS) (x:PgS) (w:World) (e:Ending) (w':World):Prop:=
 e = .returned (.tuple #[.int .i64 (rank cmpPgS l x),.bool (has cmpPgS l x)])∧Below w.heap.size w w'
theorem find_PgS (b c:Nat) (sn:Bool) (A:Option Addr) (l:List PgS) (x:PgS) (w:World) (hS:PgSSet w b sn A c l) (hs:Srt cmpPgS l) (hl:(l.length:Int)≤4611686018427387904) :
 Calls Tryz.prog 187 #[.pointer (some ⟨b,0,none⟩),.agg #[.int .i64 x.kk.kind,.string x.kk.text,.int .i64 x.kk.n,.int .i64 x.v]] w (FoundPgS l x w):=by
 have hrd:=hS.rd PgS.cells_length;have h0:=hS.cell0;have hb:=hS.lt;clear hS;have HS:=Lib.hid hs;have HRD:=Lib.hid hrd;clear hs hrd;go_enter Tryz.func187,Tryz.ntmps187;(go_wp2_with fail);go_quiet (fail);(go_wp2_with fail);obtain ⟨W0,hW0⟩ : ∃W0,W0=((w.alloc (Obj.cells #[.int .i64 x.kk.kind,.string x.kk.text,.int .i64 x.kk.n,.int .i64 x.v] 224)).drewN nq):=⟨_,rfl⟩;(have hB0:Below w.heap.size w W0:=by rw [hW0];exact Below.drewN' ((Below.refl _ _).alloc (Nat.le_refl _) _) _);(have hx0:W0.cell? ⟨w.heap.size,0,none⟩=some (.int .i64 x.kk.kind):=by rw [hW0];go_simp);(have hx1:W0.cell? ⟨w.heap.size,1,none⟩=some (.string x.kk.text):=by rw [hW0];go_simp);(have hx2:W0.cell? ⟨w.heap.size,2,none⟩=some (.int .i64 x.kk.n):=by rw [hW0];go_simp);(have hx3:W0.cell? ⟨w.heap.size,3,none⟩=some (.int .i64 x.v):=by rw [hW0];go_simp);rw [← hW0];clear hW0;have HB0:=Lib.hid hB0;clear hB0
 go_loopw [6,7] (fun lo hi wr=>∃i j:Nat,lo = .int .i64 i∧hi = .int .i64 j∧i≤j∧j≤l.length∧(∀k,(h:k<l.length)→k<i→cmpPgS l[k] x<0)∧(∀k,(h:k<l.length)→j≤k→0<cmpPgS l[k] x)∧Below W0.heap.size W0 wr) (fun lo hi wr=>(intOf hi).toNat - (intOf lo).toNat)
 case atStart=>exact ⟨0,l.length,rfl,rfl,Nat.zero_le _,Nat.le_refl _,fun k _ h=>absurd h (by omega),fun k h h'=>absurd h (by omega),Below.refl _ _⟩
 case round=>
  obtain ⟨i,j,rfl,rfl,hij,hj,hlo,hhi,hB⟩:=hrel;have HLO:=Lib.hid hlo;have HHI:=Lib.hid hhi;clear hlo hhi;have hsz:w.heap.size<W0.heap.size:=World.block_lt_of_cell? W0 _ hx0;by_cases hlt:i<j
  · obtain ⟨m,hm⟩ : ∃m,m=i+(j - i) / 2:=⟨_,rfl⟩
    (have hml:m<l.length:=by omega);(have hmj:m<j:=by omega);(have hmi:i≤m:=by omega);(have e1:((i:Int)+((j:Int) - (i:Int)) / 2)=(m:Int):=by omega);have E1:=Lib.hid e1;clear e1 hm;obtain ⟨g,off,rfl,hgs,hcell⟩:=HRD.out.at_ hml;have low : ∀(p:Addr),p.block<w.heap.size→wr.cell? p=w.cell? p:=fun p hp=>(hB.cell (p:=p) (by omega)).trans (HB0.out.cell (p:=p) hp);have r0:=(low ⟨b,0,none⟩ hb).trans h0;have q0:=(low ⟨g,off+m*4,none⟩ hgs).trans (hcell 0 _ rfl);have q1:=(low ⟨g,off+m*4+1,none⟩ hgs).trans (hcell 1 _ rfl);have q2:=(low ⟨g,off+m*4+2,none⟩ hgs).trans (hcell 2 _ rfl);have q3:=(low ⟨g,off+m*4+3,none⟩ hgs).trans (hcell 3 _ rfl);have y0:=(hB.cell (p:=⟨w.heap.size,0,none⟩) hsz).trans hx0;have y1:=(hB.cell (p:=⟨w.heap.size,1,none⟩) hsz).trans hx1;have y2:=(hB.cell (p:=⟨w.heap.size,2,none⟩) hsz).trans hx2;have y3:=(hB.cell (p:=⟨w.heap.size,3,none⟩) hsz).trans hx3;(have b1:(0:Int)≤(m:Int):=by omega);(have b2:(m:Int)<(l.length:Int):=by omega);have hsw:W0.heap.size≤wr.heap.size:=hB.size;have N:=nilAhead_PgS;have M:=method_PgS;clear low hcell hx0 hx1 hx2 hx3 h0;have HB:=Lib.hid hB;clear hB;obtain ⟨y,hy⟩ : ∃y,y=l[m]:=⟨_,rfl⟩;rw [← hy] at q0 q1 q2 q3;have HY:=Lib.hid hy;clear hy;(have hbw:b<wr.heap.size:=by omega);(have hgw:g<wr.heap.size:=by omega);(have hww:w.heap.size<wr.heap.size:=by omega);(go_wp2_with fail);rw [E1.out]
    go_region_held3 (fun w'=>w'.cell? ⟨b,0,none⟩=some (.slice (some ⟨g,off,none⟩) l.length c)∧w'.cell? ⟨g,off+m*4,none⟩=some (.int .i64 y.kk.kind)∧w'.cell? ⟨g,off+m*4+1,none⟩=some (.string y.kk.text)∧w'.cell? ⟨g,off+m*4+2,none⟩=some (.int .i64 y.kk.n)∧w'.cell? ⟨g,off+m*4+3,none⟩=some (.int .i64 y.v)∧w'.cell? ⟨w.heap.size,0,none⟩=some (.int .i64 x.kk.kind)∧w'.cell? ⟨w.heap.size,1,none⟩=some (.string x.kk.text)∧w'.cell? ⟨w.heap.size,2,none⟩=some (.int .i64 x.kk.n)∧w'.cell? ⟨w.heap.size,3,none⟩=some (.int .i64 x.v))
     (first | go_keep | (refine ⟨?_,?_,?_,?_,?_,?_,?_,?_,?_⟩<;>exact (hb1.cell (by simpa using by assumption)).trans (by simp [*])))
     ((go_at_call 326;refine (cmp_pgs y x _).mono ?_;rintro e w1 ⟨rfl,hb1⟩))
    have HB1:Below W0.heap.size W0 w1:=HB.out.drew.trans (hb1.mono hsw);clear r0 q0 q1 q2 q3 y0 y1 y2 y3 N M;by_cases hc:cmpPgS y x=0
    · have HC:=Lib.hid hc
      (have t1:(cmpPgS y x == 0)=true:=by simp [hc]);clear hc;(go_wp2_with fail);go_ret2;have e:=HC.out;rw [HY.out] at e;refine ⟨?_,HB0.out.trans (HB1.mono (by omega))⟩;rw [rank_some tc_pgs HS.out hml e,(at_some tc_pgs HS.out hml e).2.2.1];rfl
    · have t1:(cmpPgS y x == 0)=false:=by simp [hc]
      by_cases hc2:cmpPgS y x<0
      · have HC:=Lib.hid hc2
        (have t2:decide (cmpPgS y x<0)=true:=by simpa using hc2);clear hc hc2;(go_wp2_with fail);go_roundw
        case rel=>
         refine ⟨m+1,j,by go_num,rfl,by omega,hj,fun k h1 h2=>?_,HHI.out,HB1⟩;have e:=HC.out;rw [HY.out] at e;rcases Nat.lt_or_ge k m with h3 | h3
         · exact tc_pgs.lt_of_lt_of_le (HS.out.lt h3 hml) (by omega)
         · obtain rfl:k=m:=by omega
           exact e
        case measure=>simp [intOf];omega
      · have t2:decide (cmpPgS y x<0)=false:=by simpa using hc2
        (have hc3:0<cmpPgS y x:=by omega);have HC:=Lib.hid hc3;clear hc hc2 hc3;(go_wp2_with fail);go_roundw
        case rel=>
         refine ⟨i,m,rfl,rfl,by omega,by omega,HLO.out,fun k h1 h2=>?_,HB1⟩;have e:=HC.out;rw [HY.out] at e;rcases Nat.lt_or_ge m k with h3 | h3
         · exact (tc_pgs.symm _ _).1 (tc_pgs.lt_trans ((tc_pgs.symm _ _).2 e) (HS.out.lt h3 h1))
         · obtain rfl:k=m:=by omega
           exact e
        case measure=>simp [intOf];omega
  · obtain rfl:i=j:=by omega
    have HB:=Lib.hid hB;clear hB;(go_wp2_with fail);go_ret2;refine ⟨?_,HB0.out.trans (HB.out.mono (by omega))⟩;rw [rank_none hj HLO.out HHI.out,(at_none HLO.out HHI.out).2.2];rfl
end
section
open Go.RowKit
theorem info_PgS:(Tryz.prog.info? 224).map (fun i=>(i.zero,i.size,i.bytes))=some (some (.agg #[.int .i64 0,.string ⟨#[]⟩,.int .i64 0,.int .i64 0]),4,40):=by kernel_rfl
theorem PgS.one (x:PgS) : ∀u∈PgS.cells x,u.oneCell'=true:=by intro u hu;simp [PgS.cells] at hu;rcases hu with rfl | rfl | rfl | rfl<;>rfl
theorem PgS.oneAll (l:List PgS) : ∀u∈l.flatMap PgS.cells,u.oneCell'=true:=by intro u hu;obtain ⟨x,_,hx⟩:=List.mem_flatMap.1 hu;exact PgS.one x u hx
def OwnPostPgS (w:World) (b:Nat) (sn:Bool) (A:Option Addr) (l:List PgS) (e:Ending) (w':World):Prop:=
 e = .returned (.tuple #[])∧∃A' c',PgSSet w' b false A' c' l∧Fr (· = b) w w'∧Moved w sn A false A'
theorem own_no_PgS (b c:Nat) (A:Option Addr) (l:List PgS) (w:World) (hS:PgSSet w b false A c l) :
 Calls Tryz.prog 225 #[.pointer (some ⟨b,0,none⟩)] w (OwnPostPgS w b false A l):=by
 have h1:=hS.cell1;have HS:=Lib.hid hS;clear hS;go_enter Tryz.func225,Tryz.ntmps225;go_wp2;go_end0;exact ⟨rfl,A,c,HS.out,Fr.refl _ _,.inl ⟨rfl,rfl⟩⟩
theorem own_yes_PgS (b c:Nat) (A:Option Addr) (l:List PgS) (w:World) (hS:PgSSet w b true A c l) (hl:(l.length:Int)≤1000000000) :
 Calls Tryz.prog 225 #[.pointer (some ⟨b,0,none⟩)] w (OwnPostPgS w b true A l):=by
 obtain ⟨i0,hi,hz0,hz1,hz2⟩:=info_parts info_PgS;have h0:=hS.cell0;have h1:=hS.cell1;have hb:=hS.lt;have f0:=hS.blk.frozen 0;have f1:=hS.blk.frozen 1;have hrd:=hS.rd PgS.cells_length;have HB:=Lib.hid hS.blk;have HRD:=Lib.hid hrd;clear hS hrd;have e1:IntKind.i64.wrap ((l.length:Int)+1)=(l.length:Int)+1:=IntWalk.i64_in _ (by omega)
 have hmk : ∀W:World,(Instr.makeSlice 279 (.int .i64 0) (.int .i64 ((l.length:Int)+1))).run Tryz.prog W = .ok (.slice (some ⟨W.heap.size,0,none⟩) 0 (l.length+1)) (W.alloc (.cells (madeCells (Value.cells (.agg #[.int .i64 0,.string ⟨#[]⟩,.int .i64 0,.int .i64 0])) ((l.length+1)*4)) 224)):=fun W=>by
  have h:=run_make (P:=Tryz.prog) W 279 224 i0 _ Tryz.underlying279 hi hz0 .i64 .i64 0 ((l.length:Int)+1) (by omega) (by omega) (by rw [hz2];omega) (by omega);rw [hz1] at h;simpa [show ((l.length:Int)+1).toNat=l.length+1 by omega] using h
 go_enter Tryz.func225,Tryz.ntmps225;(go_wp2_with fail);refine wp_region_E (fun w9=>Below w.heap.size w w9) [(0,0),(1,0),(2,0),(3,0),(4,1),(5,0),(6,0),(8,0),(9,0),(10,0),(11,1),(7,2),(12,2),(13,0),(14,0),(15,2)] (by kernel_rfl) (by kernel_rfl) (fun KK hKK=>?_);simp only [beside,List.filterMap_cons,List.filterMap_nil,List.getElem?_toArray,List.getElem?_cons_zero,List.getElem?_cons_succ,Option.map_some];(repeat ((first | (refine wpX_w ?_ (Or.inl ⟨by rfl,fun w9=>?_⟩) ?_;rotate_left 1;go_simp;with_reducible rfl) | (refine wpX_l ?_ (((Below.refl _ _).drew)) (Or.inl ⟨by rfl,fun w9 hw9=>?_⟩) ?_;rotate_left 1;obtain ⟨hc9,hf9⟩:=bcell hw9;go_simp;with_reducible rfl) | refine wpX_w undef (Or.inr ⟨by rfl,rfl⟩) ?_ | refine wpX_l undef (((Below.refl _ _).drew)) (Or.inr ⟨by rfl,rfl⟩) ?_);go_frame));refine wpX_es (fun K9 hK9=>?_);go_simp;refine hK9 _ _ (((Below.refl _ _).drew).alloc (Nat.le_refl _) _) ?_;clear hK9 K9;refine wpX_e (by kernel_rfl) (fun K9 hK9=>?_)
 refine step_append_src _ (by rfl) _ _ _ (by rfl) 224 i0 _ 4 40 Tryz.underlying279 hi hz0 hz1 hz2 rfl (by omega) _ 0 [] (by rfl) (World.ownsRow_made _ _ _ (Nat.zero_le _) (by unfold maxLen;omega) (by simp [madeCells])) A l.length c (l.flatMap PgS.cells) (by rfl) (flat_length PgS.cells_length l)
  ((HRD.out.drew.alloc _).news PgS.cells_length (by omega)) (PgS.oneAll l) (by unfold maxLen;omega) (by omega) ?_
 intro v2 w2 hown hgr hnil hat;refine hK9 _ _ ?_;clear hK9 K9;rw [Nat.zero_add,List.nil_append] at hown;obtain ⟨A',c',rfl,_,_,hz⟩:=own_form2 hown;have HB1:=(HB.out.drew.alloc (.cells (madeCells (Value.cells (.agg #[.int .i64 0,.string ⟨#[]⟩,.int .i64 0,.int .i64 0])) ((l.length+1)*4)) 224)).grown hgr (by simp [Value.ownBlock];omega);have c0:=(HB1.cell 0).trans rfl;have c1:=(HB1.cell 1).trans rfl;have z0:=HB1.frozen 0;have z1:=HB1.frozen 1;have HB2:=Lib.hid HB1;clear HB1;(repeat ((first | (refine wpX_w ?_ (Or.inl ⟨by rfl,fun w9=>?_⟩) ?_;rotate_left 1;go_simp;with_reducible rfl) | (refine wpX_l ?_ (((Below.refl _ _).drew).alloc (Nat.le_refl _) _) (Or.inl ⟨by rfl,fun w9 hw9=>?_⟩) ?_;rotate_left 1;obtain ⟨hc9,hf9⟩:=bcell hw9;go_simp;with_reducible rfl) | refine wpX_w undef (Or.inr ⟨by rfl,rfl⟩) ?_ | refine wpX_l undef (((Below.refl _ _).drew).alloc (Nat.le_refl _) _) (Or.inr ⟨by rfl,rfl⟩) ?_);go_frame));refine wpX_e (by kernel_rfl) (fun K9 hK9=>?_);go_simp;refine hK9 _ _ ?_;clear hK9 K9;refine wpX_nil ?_;simp only [OnlyN_normal];refine hKK _ _ ?_;clear hKK KK;go_wp2;go_end0
 have hb2:(Value.slice A' l.length c').ownBlock=some w.heap.size∨(Value.slice A' l.length c').ownBlock=some (w.heap.size+1):=by
  rcases hat with h | h
  · left;rw [h];rfl
  · right;rw [h];simp
 have hA : ∃g,w.heap.size≤g∧A'=some ⟨g,0,none⟩:=by
  rcases A' with _ | a
  · exfalso;simp [Value.ownBlock] at hb2
  · obtain ⟨g,rfl⟩:=hz a rfl
    refine ⟨g,?_,rfl⟩;simp [Value.ownBlock] at hb2;omega
 obtain ⟨g,hg,rfl⟩:=hA;have HB1:=HB2.out;have HF:Fr (· = b) w w2:=((Fr.refl (· = b) w).drew.alloc _).grown hgr (fun k e=>by simp [Value.ownBlock] at e;right;omega);refine ⟨rfl,some ⟨g,0,none⟩,c',⟨(HB1.set_ 0 _).set_ 1 _,?_⟩,(HF.setCell (p:=⟨b,0,none⟩) (.inl rfl) _).setCell (p:=⟨b,1,none⟩) (.inl rfl) _,.inr ⟨rfl,g,hg,rfl⟩⟩;(have hne:(Value.slice (some ⟨g,0,none⟩) l.length c').ownBlock≠some b:=by simp [Value.ownBlock];omega);exact ownsRow_setCell_other (a:=⟨b,1,none⟩) (ownsRow_setCell_other (a:=⟨b,0,none⟩) hown hne _) hne _
theorem own_PgS (b c:Nat) (sn:Bool) (A:Option Addr) (l:List PgS) (w:World) (hS:PgSSet w b sn A c l) (hl:(l.length:Int)≤1000000000) :
 Calls Tryz.prog 225 #[.pointer (some ⟨b,0,none⟩)] w (OwnPostPgS w b sn A l):=by
 cases sn
 · exact own_no_PgS b c A l w hS
 · exact own_yes_PgS b c A l w hS hl
end
section
open Go.RowKit
def PutPostPgS (w:World) (b:Nat) (sn:Bool) (A:Option Addr) (l:List PgS) (x:PgS) (e:Ending) (w':World):Prop:=
 e = .returned (.bool (!has cmpPgS l x))∧∃sn' A' c',PgSSet w' b sn' A' c' (put cmpPgS l x)∧Fr (SetMod b sn A) w w'∧Moved w sn A sn' A'
theorem put_there_PgS (b c:Nat) (sn:Bool) (A:Option Addr) (l:List PgS) (x:PgS) (w:World) (hS:PgSSet w b sn A c l) (hs:Srt cmpPgS l) (hl:(l.length:Int)≤100000000) (hh:has cmpPgS l x=true) :
 Calls Tryz.prog 183 #[.pointer (some ⟨b,0,none⟩),.agg #[.int .i64 x.kk.kind,.string x.kk.text,.int .i64 x.kk.n,.int .i64 x.v]] w (PutPostPgS w b sn A l x):=by
 have HS:=Lib.hid hS;have HO:=Lib.hid hs;clear hS hs;go_enter Tryz.func183,Tryz.ntmps183;(go_wp2_with fail);refine (find_PgS b c sn A l x _ (HS.out.new_ ((Below.refl _ _).alloc (Nat.le_refl _) _)) HO.out (by omega)).mono ?_;rintro e w1 ⟨rfl,hb1⟩;(go_wp2_with fail);go_ret;refine ⟨by rw [hh];rfl,sn,A,c,?_,Fr.of_new (((Below.refl _ _).alloc (Nat.le_refl _) _).trans (hb1.mono (by simp))),.inl ⟨rfl,rfl⟩⟩;rw [put_has hh];exact HS.out.new_ (((Below.refl _ _).alloc (Nat.le_refl _) _).trans (hb1.mono (by simp)))
theorem put_new_PgS (b c:Nat) (sn:Bool) (A:Option Addr) (l:List PgS) (x:PgS) (w:World) (hS:PgSSet w b sn A c l) (hs:Srt cmpPgS l) (hl:(l.length:Int)≤100000000) (hh:has cmpPgS l x=false) :
 Calls Tryz.prog 183 #[.pointer (some ⟨b,0,none⟩),.agg #[.int .i64 x.kk.kind,.string x.kk.text,.int .i64 x.kk.n,.int .i64 x.v]] w (PutPostPgS w b sn A l x):=by
 obtain ⟨i0,hi,hz0,hz1,hz2⟩:=info_parts info_PgS;have HS:=Lib.hid hS;have HO:=Lib.hid hs;have hb:=hS.lt;clear hS hs;have hrk:=rank_le (cmp:=cmpPgS) l x;go_enter Tryz.func183,Tryz.ntmps183;(go_wp2_with fail);have hSa:=HS.out.new_ ((Below.refl w.heap.size w).alloc (Nat.le_refl _) (.cells #[.int .i64 x.kk.kind,.string x.kk.text,.int .i64 x.kk.n,.int .i64 x.v] 224));have HSa:=Lib.hid hSa;clear hSa;refine (find_PgS b c sn A l x _ HSa.out HO.out (by omega)).mono ?_;rintro e w1 ⟨rfl,hb1⟩;have HS1:=Lib.hid (HSa.out.new_ hb1);(have hsz1:w.heap.size+1≤w1.heap.size:=by have:=hb1.size;(try simp at this);omega);have y0:=(hb1.cell (p:=⟨w.heap.size,0,none⟩) (by simp)).trans ((Blk.new w 224 #[.int .i64 x.kk.kind,.string x.kk.text,.int .i64 x.kk.n,.int .i64 x.v]).cell 0);have y1:=(hb1.cell (p:=⟨w.heap.size,1,none⟩) (by simp)).trans ((Blk.new w 224 #[.int .i64 x.kk.kind,.string x.kk.text,.int .i64 x.kk.n,.int .i64 x.v]).cell 1);have y2:=(hb1.cell (p:=⟨w.heap.size,2,none⟩) (by simp)).trans ((Blk.new w 224 #[.int .i64 x.kk.kind,.string x.kk.text,.int .i64 x.kk.n,.int .i64 x.v]).cell 2);have y3:=(hb1.cell (p:=⟨w.heap.size,3,none⟩) (by simp)).trans ((Blk.new w 224 #[.int .i64 x.kk.kind,.string x.kk.text,.int .i64 x.kk.n,.int .i64 x.v]).cell 3);have HB1:=Lib.hid hb1;clear hb1;(go_wp2_with fail);refine (own_PgS b c sn A l _ HS1.out (by omega)).mono ?_;rintro e w2 ⟨rfl,A1,c1,hS2,hF2,hM2⟩;have hsz2:w1.heap.size≤w2.heap.size:=hF2.size;have x0:w2.cell? ⟨w.heap.size,0,none⟩=some (.int .i64 x.kk.kind):=(hF2.cell (p:=⟨w.heap.size,0,none⟩) (by dsimp only;omega) (by dsimp only;omega)).trans y0;have x1:w2.cell? ⟨w.heap.size,1,none⟩=some (.string x.kk.text):=(hF2.cell (p:=⟨w.heap.size,1,none⟩) (by dsimp only;omega) (by dsimp only;omega)).trans y1;have x2:w2.cell? ⟨w.heap.size,2,none⟩=some (.int .i64 x.kk.n):=(hF2.cell (p:=⟨w.heap.size,2,none⟩) (by dsimp only;omega) (by dsimp only;omega)).trans y2;have x3:w2.cell? ⟨w.heap.size,3,none⟩=some (.int .i64 x.v):=(hF2.cell (p:=⟨w.heap.size,3,none⟩) (by dsimp only;omega) (by dsimp only;omega)).trans y3;have s0:=hS2.cell0;have f0:=hS2.blk.frozen 0;(have hb2:b<w2.heap.size:=by omega);(have hk2:w.heap.size<w2.heap.size:=by omega);have HS2:=Lib.hid hS2;have HF2:=Lib.hid hF2;have HM2:=Lib.hid hM2;clear hS2 hF2 hM2 y0 y1 y2 y3;(go_wp2_with fail);refine wp_region_E (fun w9=>Below w2.heap.size w2 w9) [(0,0),(1,0),(2,0),(3,0),(4,1),(5,1),(6,2),(7,2),(8,0),(9,0),(10,2)] (by kernel_rfl) (by kernel_rfl) (fun KK hKK=>?_);simp only [beside,List.filterMap_cons,List.filterMap_nil,List.getElem?_toArray,List.getElem?_cons_zero,List.getElem?_cons_succ,Option.map_some];repeat ((first | (refine wpX_w ?_ (Or.inl ⟨by rfl,fun w9=>?_⟩) ?_;rotate_left 1;go_simp;with_reducible rfl) | (refine wpX_l ?_ (((Below.refl _ _).drew)) (Or.inl ⟨by rfl,fun w9 hw9=>?_⟩) ?_;rotate_left 1;obtain ⟨hc9,hf9⟩:=bcell hw9;go_simp;with_reducible rfl) | refine wpX_w undef (Or.inr ⟨by rfl,rfl⟩) ?_ | refine wpX_l undef (((Below.refl _ _).drew)) (Or.inr ⟨by rfl,rfl⟩) ?_);go_frame)
 refine wpX_es (fun K9 hK9=>?_);go_simp;refine hK9 _ _ (((Below.refl _ _).drew).alloc (Nat.le_refl _) _) ?_;clear hK9 K9;refine wpX_e (by kernel_rfl) (fun K9 hK9=>?_)
 refine step_append_src _ (by rfl) _ _ _ (by rfl) 224 i0 _ 4 40 Tryz.underlying279 hi hz0 hz1 hz2 rfl (by omega) _ l.length (l.flatMap PgS.cells) (by rfl) (ownsRow_new HS2.out.row (((Below.refl _ _).drew).alloc (Nat.le_refl _) _)) (some ⟨w2.heap.size,0,none⟩) 1 1 (PgS.cells x) (by rfl) (by rfl)
  (fun _=>⟨_,rfl,World.news_of_block (heap_alloc_new _ _)⟩) (PgS.one x) (by unfold maxLen;omega) (by omega) ?_
 intro v2 w3 hown hgr hnil hat;refine hK9 _ _ ?_;clear hK9 K9
 obtain ⟨g,c2,rfl⟩ : ∃g c2,v2 = .slice (some ⟨g,0,none⟩) (l.length+1) c2:=by
  rcases ownsRow_form hown with ⟨_,h0,_⟩ | ⟨g,c2,h,_⟩
  · omega
  · exact ⟨g,c2,h⟩
 have HXN:(Value.slice A1 l.length c1).ownBlock≠some w.heap.size:=by
  intro h;rcases HM2.out with ⟨hsn,hA⟩ | ⟨_,g2,hg2,hA⟩
  · rcases A1 with _ | a1
    · cases h
    · have h1:=HS.out.row_lt _ hA.symm
      simp only [Value.ownBlock,Option.some.injEq] at h;omega
  · subst hA
    simp only [Value.ownBlock,Option.some.injEq] at h;omega
 have HB3':=(HS2.out.blk.drew.alloc (.cells #[.int .i64 x.kk.kind,.string x.kk.text,.int .i64 x.kk.n,.int .i64 x.v] 224)).grown hgr (own_blk_ne HS2.out.row HS2.out.blk (by decide));have c0:=(HB3'.cell 0).trans rfl;have z0:=HB3'.frozen 0;have HB3:=Lib.hid HB3';have HOWN:=Lib.hid hown;have HGR:=Lib.hid hgr;clear HB3' hown hgr;(repeat ((first | (refine wpX_w ?_ (Or.inl ⟨by rfl,fun w9=>?_⟩) ?_;rotate_left 1;go_simp;with_reducible rfl) | (refine wpX_l ?_ (((Below.refl _ _).drew).alloc (Nat.le_refl _) _) (Or.inl ⟨by rfl,fun w9 hw9=>?_⟩) ?_;rotate_left 1;obtain ⟨hc9,hf9⟩:=bcell hw9;go_simp;with_reducible rfl) | refine wpX_w undef (Or.inr ⟨by rfl,rfl⟩) ?_ | refine wpX_l undef (((Below.refl _ _).drew).alloc (Nat.le_refl _) _) (Or.inr ⟨by rfl,rfl⟩) ?_);go_frame));refine wpX_e (by kernel_rfl) (fun K9 hK9=>?_);go_simp;refine hK9 _ _ ?_;clear hK9 K9;refine wpX_nil ?_;simp only [OnlyN_normal];refine hKK _ _ ?_;clear hKK KK;have hlg:((l.length+1:Nat):Int)=(l.length:Int)+1:=by omega
 have hG:(SetMod b sn A g∨w.heap.size≤g)∧Moved w sn A false (some ⟨g,0,none⟩)∧g≠w.heap.size∧g≠b:=by
  rcases hat with h | h
  · rcases A1 with _ | a1
    · simp [Value.ownBlock] at h
    · obtain ⟨A',c',hv,_,_,hz⟩:=own_form2 HS2.out.row
      injection hv with hv _ _;obtain ⟨g',rfl⟩:=hz a1 hv.symm;(have hgg:g'=g:=by simpa [Value.ownBlock] using h.symm);subst hgg;have hne:g'≠b:=HS2.out.row_ne (by decide) _ rfl;rcases HM2.out with ⟨hsn,hA⟩ | ⟨_,g2,hg2,hA⟩
      · have h1:=HS.out.row_lt _ hA.symm
        exact ⟨.inl (.inr ⟨hsn.symm,_,hA.symm,rfl⟩),.inl ⟨hsn,hA⟩,by dsimp only at h1;omega,hne⟩
      · injection hA with hA
        injection hA with hA;subst hA;exact ⟨.inr (by omega),.inr ⟨rfl,_,by omega,rfl⟩,by omega,hne⟩
  · have hgg:g=w2.heap.size+1:=by simpa [Value.ownBlock] using h
    subst hgg;exact ⟨.inr (by omega),.inr ⟨rfl,_,by omega,rfl⟩,by omega,by omega⟩
 obtain ⟨hgM,hgMv,hgk1,hgb⟩:=hG;obtain ⟨w4,hw4⟩ : ∃w4,w4=w3.setCell ⟨b,0,none⟩ (.slice (some ⟨g,0,none⟩) (l.length+1) c2):=⟨_,rfl⟩;have hB4:Blk w4 b 281 #[.slice (some ⟨g,0,none⟩) (l.length+1) c2,.bool false]:=by rw [hw4];exact HB3.out.set_ 0 _
 have hR4:w4.ownsRow 0 224 4 (.slice (some ⟨g,0,none⟩) (l.length+1) c2) (l.length+1) ((shiftAt l x l.length).flatMap PgS.cells):=by
  rw [hw4,shiftAt_start];refine ownsRow_setCell_other (a:=⟨b,0,none⟩) ?_ (by simpa [Value.ownBlock] using hgb) _;rw [List.flatMap_append,List.flatMap_singleton];exact HOWN.out
 have hF4:Fr (SetMod b sn A) w w4:=by
  rw [hw4];have h1:Fr (SetMod b sn A) w w1:=Fr.of_new (((Below.refl _ _).alloc (Nat.le_refl _) _).trans (HB1.out.mono (by simp)));have h2:Fr (SetMod b sn A) w w2:=h1.trans (HF2.out.mono (fun k _ h=>.inl h));refine ((h2.drew.alloc _).grown HGR.out (fun k hk=>?_)).setCell (p:=⟨b,0,none⟩) (.inl (.inl rfl)) _;rcases A1 with _ | a1
  · cases hk
  · simp only [Value.ownBlock,Option.some.injEq] at hk
    subst hk;rcases HM2.out with ⟨hsn,hA⟩ | ⟨_,g',hg',hA⟩
    · left;right;exact ⟨hsn.symm,a1,hA.symm,rfl⟩
    · injection hA with hA
      subst hA;right;dsimp only;omega
 have z0:w4.cell? ⟨w.heap.size,0,none⟩=some (.int .i64 x.kk.kind):=by
  rw [hw4,World.cell?_setCell_other _ _ _ _ (by intro h;injection h;omega)];refine HGR.out.cell ((World.cell?_alloc_lt w2.drew _ ⟨w.heap.size,0,none⟩ hk2).trans x0) ?_;intro h;exact HXN (by simpa using h.symm)
 have z1:w4.cell? ⟨w.heap.size,1,none⟩=some (.string x.kk.text):=by
  rw [hw4,World.cell?_setCell_other _ _ _ _ (by intro h;injection h;omega)];refine HGR.out.cell ((World.cell?_alloc_lt w2.drew _ ⟨w.heap.size,1,none⟩ hk2).trans x1) ?_;intro h;exact HXN (by simpa using h.symm)
 have z2:w4.cell? ⟨w.heap.size,2,none⟩=some (.int .i64 x.kk.n):=by
  rw [hw4,World.cell?_setCell_other _ _ _ _ (by intro h;injection h;omega)];refine HGR.out.cell ((World.cell?_alloc_lt w2.drew _ ⟨w.heap.size,2,none⟩ hk2).trans x2) ?_;intro h;exact HXN (by simpa using h.symm)
 have z3:w4.cell? ⟨w.heap.size,3,none⟩=some (.int .i64 x.v):=by
  rw [hw4,World.cell?_setCell_other _ _ _ _ (by intro h;injection h;omega)];refine HGR.out.cell ((World.cell?_alloc_lt w2.drew _ ⟨w.heap.size,3,none⟩ hk2).trans x3) ?_;intro h;exact HXN (by simpa using h.symm)
 (have hk4:w.heap.size<w4.heap.size:=by rw [hw4];have:=HGR.out.size;simp at this ⊢;omega);rw [← hw4];have HgM:=Lib.hid hgM;have HgMv:=Lib.hid hgMv;have HB4:=Lib.hid hB4;have HR4:=Lib.hid hR4;have HF4:=Lib.hid hF4;have s4:=hB4.cell 0;have s4':w4.cell? ⟨b,0,none⟩=some (.slice (some ⟨g,0,none⟩) (l.length+1) c2):=s4;clear s4 hw4 hB4 hR4 hF4 hat hgM hgMv hnil x0 x1 x2 x3 s0 f0;go_wp2_with fail
 go_loopw [7] (fun s wr=>∃i:Nat,s = .int .i64 i∧rank cmpPgS l x≤i∧i≤l.length∧wr.ownsRow 0 224 4 (.slice (some ⟨g,0,none⟩) (l.length+1) c2) (l.length+1) ((shiftAt l x i).flatMap PgS.cells)∧Fr (· = g) w4 wr) (fun s wr=>(intOf s).toNat)
 case atStart=>exact ⟨l.length,by go_num,hrk,Nat.le_refl _,HR4.out,Fr.refl _ _⟩
 case round=>
  obtain ⟨i,rfl,hi1,hi2,hown,hfr⟩:=hrel;have hgw:g<wr.heap.size:=(hown.lt g rfl).2;have r0:wr.cell? ⟨b,0,none⟩=some (.slice (some ⟨g,0,none⟩) (l.length+1) c2):=(hfr.cell (p:=⟨b,0,none⟩) HB4.out.lt (fun h=>hgb h.symm)).trans s4';have fz : ∀o,wr.frozen? ⟨g,o,none⟩=false:=fun o=>hown.frozenAt o;have HOW:=Lib.hid hown;have HFR:=Lib.hid hfr;clear hown hfr;by_cases hlt:rank cmpPgS l x<i
  · obtain ⟨j,rfl⟩ : ∃j,i=j+1:=⟨i - 1,by omega⟩
    (have hj:j<l.length:=by omega);have hrd:=ownsRow_rd (A:=some ⟨g,0,none⟩) (c:=c2) (l:=shiftAt l x (j+1)) PgS.cells_length (by rw [shiftAt_length l x hi2];exact HOW.out);obtain ⟨g',o',hgo,_,hcell⟩:=hrd.at_ (k:=j) (by rw [shiftAt_length l x hi2];omega);injection hgo with hgo;injection hgo with hg1 hg2;subst hg1;subst hg2;rw [shiftAt_read l x hj] at hcell;(have q0:wr.cell? ⟨g,j*4,none⟩=some (.int .i64 l[j].kk.kind):=by simpa using hcell 0 _ rfl);(have q1:wr.cell? ⟨g,j*4+1,none⟩=some (.string l[j].kk.text):=by simpa using hcell 1 _ rfl);(have q2:wr.cell? ⟨g,j*4+2,none⟩=some (.int .i64 l[j].kk.n):=by simpa using hcell 2 _ rfl);have q3:wr.cell? ⟨g,j*4+3,none⟩=some (.int .i64 l[j].v):=by simpa using hcell 3 _ rfl
    have rmj:Room wr g 224 (c2*4)∧l.length+1≤c2:=by
     rcases ownsRow_form HOW.out with ⟨hv,_⟩ | ⟨g',cap,hv,hn,_,hr,_⟩
     · cases hv
     · injection hv with hA _ hc
       injection hA with hA;injection hA with hA;subst hA;subst hc;exact ⟨hr,hn⟩
    obtain ⟨hrm,hcap⟩:=rmj;obtain ⟨u0,t0⟩:=hrm.cell (i:=(j+1)*4) (by omega);obtain ⟨u1,t1⟩:=hrm.cell (i:=(j+1)*4+1) (by omega);obtain ⟨u2,t2⟩:=hrm.cell (i:=(j+1)*4+2) (by omega);obtain ⟨u3,t3⟩:=hrm.cell (i:=(j+1)*4+3) (by omega);(have b0:(0:Int)≤(j:Int)+1:=by omega);(have b1:(0:Int)≤(j:Int):=by omega);(have b4:(j:Int)<(l.length:Int):=by omega);(have b2:(j:Int)<(l.length:Int)+1:=by omega);(have b3:(j:Int)+1<(l.length:Int)+1:=by omega);have w1:IntKind.i64.wrap ((j:Int))=(j:Int):=IntWalk.i64_in _ (by omega);(have w2:IntKind.i64.wrap ((j:Int)+1 - 1)=(j:Int):=by rw [IntWalk.i64_in _ (by omega)];omega);clear hcell hrd hrm;obtain ⟨y,hy⟩ : ∃y,y=l[j]:=⟨_,rfl⟩;rw [← hy] at q0 q1 q2 q3;have HY:=Lib.hid hy;have hbw:b<wr.heap.size:=World.block_lt_of_cell? wr _ r0;clear hy;(go_wp2_with fail);refine wp_region_E (fun w9=>Below wr.heap.size wr w9) [(0,0),(1,0),(2,0),(3,1),(4,0),(5,0),(6,0),(7,0),(8,1),(9,0),(10,0),(11,0),(12,1),(13,0),(14,2)] (by kernel_rfl) (by kernel_rfl) (fun KK hKK=>?_);simp only [beside,List.filterMap_cons,List.filterMap_nil,List.getElem?_toArray,List.getElem?_cons_zero,List.getElem?_cons_succ,Option.map_some];(repeat ((first | (refine wpX_w ?_ (Or.inl ⟨by rfl,fun w9=>?_⟩) ?_;rotate_left 1;go_simp;with_reducible rfl) | (refine wpX_l ?_ (((Below.refl _ _).drew)) (Or.inl ⟨by rfl,fun w9 hw9=>?_⟩) ?_;rotate_left 1;obtain ⟨hc9,hf9⟩:=bcell hw9;go_simp;with_reducible rfl) | refine wpX_w undef (Or.inr ⟨by rfl,rfl⟩) ?_ | refine wpX_l undef (((Below.refl _ _).drew)) (Or.inr ⟨by rfl,rfl⟩) ?_);go_frame));refine wpX_e (by kernel_rfl) (fun K9 hK9=>?_);go_simp;refine hK9 _ _ ?_;clear hK9 K9;refine wpX_nil ?_;simp only [OnlyN_normal];refine hKK _ _ ?_;clear hKK KK;(go_wp2_with fail);go_roundw
    case rel=>
     refine ⟨j,by go_num,by omega,by omega,?_,Fr.drew (((((HFR.out).setCell (p:=⟨g,(j+1)*4,none⟩) (.inl rfl) (_)).setCell (p:=⟨g,(j+1)*4+1,none⟩) (.inl rfl) (_)).setCell (p:=⟨g,(j+1)*4+2,none⟩) (.inl rfl) (_)).setCell (p:=⟨g,(j+1)*4+3,none⟩) (.inl rfl) (_))⟩;have hst:=((((((((HOW.out).stored ((j+1)*4) (.int .i64 y.kk.kind)).1).stored ((j+1)*4+1) (.string y.kk.text)).1).stored ((j+1)*4+2) (.int .i64 y.kk.n)).1).stored ((j+1)*4+3) (.int .i64 y.v)).1
     have he:setAll ((shiftAt l x (j+1)).flatMap PgS.cells) ((j+1)*4) (PgS.cells y)=(shiftAt l x j).flatMap PgS.cells:=by
      rw [flat_set PgS.cells_length (by omega) _ (j+1) (by rw [shiftAt_length l x hi2];omega),HY.out,shiftAt_step l x hj]
     rw [← he];exact hst
    case measure=>simp [intOf]<;>omega
  · obtain rfl:i=rank cmpPgS l x:=by omega
    have rmj:Room wr g 224 (c2*4)∧l.length+1≤c2:=by
     rcases ownsRow_form HOW.out with ⟨hv,_⟩ | ⟨g',cap,hv,hn,_,hr,_⟩
     · cases hv
     · injection hv with hA _ hc
       injection hA with hA;injection hA with hA;subst hA;subst hc;exact ⟨hr,hn⟩
    obtain ⟨hrm,hcap⟩:=rmj;obtain ⟨k,hk⟩ : ∃k,k=rank cmpPgS l x:=⟨_,rfl⟩;rw [← hk] at hi2 hlt ⊢;obtain ⟨u0,t0⟩:=hrm.cell (i:=k*4) (by omega);obtain ⟨u1,t1⟩:=hrm.cell (i:=k*4+1) (by omega);obtain ⟨u2,t2⟩:=hrm.cell (i:=k*4+2) (by omega);obtain ⟨u3,t3⟩:=hrm.cell (i:=k*4+3) (by omega);have x0:=(HFR.out.cell (p:=⟨w.heap.size,0,none⟩) hk4 (fun h=>hgk1 h.symm)).trans z0;have x1:=(HFR.out.cell (p:=⟨w.heap.size,1,none⟩) hk4 (fun h=>hgk1 h.symm)).trans z1;have x2:=(HFR.out.cell (p:=⟨w.heap.size,2,none⟩) hk4 (fun h=>hgk1 h.symm)).trans z2;have x3:=(HFR.out.cell (p:=⟨w.heap.size,3,none⟩) hk4 (fun h=>hgk1 h.symm)).trans z3;(have b1:(0:Int)≤(k:Int):=by omega);(have b2:(k:Int)<(l.length:Int)+1:=by omega);have HK:=Lib.hid hk;(have hkw:w.heap.size<wr.heap.size:=by have:=HFR.out.size;omega);have hbw:b<wr.heap.size:=World.block_lt_of_cell? wr _ r0;clear hrm hk z0 z1 z2 z3;(go_wp2_with fail);refine wp_region_E (fun w9=>Below wr.heap.size wr w9) [(0,0),(1,0),(2,0),(3,1),(4,0),(5,1),(6,0),(7,2)] (by kernel_rfl) (by kernel_rfl) (fun KK hKK=>?_);simp only [beside,List.filterMap_cons,List.filterMap_nil,List.getElem?_toArray,List.getElem?_cons_zero,List.getElem?_cons_succ,Option.map_some];(repeat ((first | (refine wpX_w ?_ (Or.inl ⟨by rfl,fun w9=>?_⟩) ?_;rotate_left 1;go_simp;with_reducible rfl) | (refine wpX_l ?_ (((Below.refl _ _).drew)) (Or.inl ⟨by rfl,fun w9 hw9=>?_⟩) ?_;rotate_left 1;obtain ⟨hc9,hf9⟩:=bcell hw9;go_simp;with_reducible rfl) | refine wpX_w undef (Or.inr ⟨by rfl,rfl⟩) ?_ | refine wpX_l undef (((Below.refl _ _).drew)) (Or.inr ⟨by rfl,rfl⟩) ?_);go_frame));refine wpX_e (by kernel_rfl) (fun K9 hK9=>?_);go_simp;refine hK9 _ _ ?_;clear hK9 K9;refine wpX_nil ?_;simp only [OnlyN_normal];refine hKK _ _ ?_;clear hKK KK;(go_wp2_with fail);go_ret;have HOWk:=HOW.out;rw [← HK.out] at HOWk;have hst:=((((((((HOWk).stored (k*4) (.int .i64 x.kk.kind)).1).stored (k*4+1) (.string x.kk.text)).1).stored (k*4+2) (.int .i64 x.kk.n)).1).stored (k*4+3) (.int .i64 x.v)).1
    have he:setAll ((shiftAt l x k).flatMap PgS.cells) (k*4) (PgS.cells x)=(put cmpPgS l x).flatMap PgS.cells:=by
     rw [flat_set PgS.cells_length (by omega) _ k (by rw [shiftAt_length l x hi2];omega),shiftAt_end l x hi2,put_eq tc_pgs HO.out hh,HK.out]
    have hln:=length_put tc_pgs HO.out hh;refine ⟨by rw [hh];rfl,false,some ⟨g,0,none⟩,c2,⟨?_,?_⟩,?_,?_⟩
    · rw [hln]
      exact ((((HB4.out.fr HFR.out (fun h=>hgb h.symm)).far (p:=⟨g,k*4,none⟩) (fun h=>hgb h.symm) _).far (p:=⟨g,k*4+1,none⟩) (fun h=>hgb h.symm) _).far (p:=⟨g,k*4+2,none⟩) (fun h=>hgb h.symm) _).far (p:=⟨g,k*4+3,none⟩) (fun h=>hgb h.symm) _
    · rw [hln,← he]
      exact hst
    · exact HF4.out.into (Fr.drew (((((HFR.out).setCell (p:=⟨g,k*4,none⟩) (.inl rfl) (_)).setCell (p:=⟨g,k*4+1,none⟩) (.inl rfl) (_)).setCell (p:=⟨g,k*4+2,none⟩) (.inl rfl) (_)).setCell (p:=⟨g,k*4+3,none⟩) (.inl rfl) (_))) (fun k hk=>by subst hk;exact HgM.out)
    · exact HgMv.out
theorem put_PgS (b c:Nat) (sn:Bool) (A:Option Addr) (l:List PgS) (x:PgS) (w:World) (hS:PgSSet w b sn A c l) (hs:Srt cmpPgS l) (hl:(l.length:Int)≤100000000) :
 Calls Tryz.prog 183 #[.pointer (some ⟨b,0,none⟩),.agg #[.int .i64 x.kk.kind,.string x.kk.text,.int .i64 x.kk.n,.int .i64 x.v]] w (PutPostPgS w b sn A l x):=by
 cases hh:has cmpPgS l x
 · exact put_new_PgS b c sn A l x w hS hs hl hh
 · exact put_there_PgS b c sn A l x w hS hs hl hh
end
end Go.Proofs.YtldndkngpdfpfaaGreat
