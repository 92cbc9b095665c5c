/-
  Texts put together: PutName, MiscName, NewName, WorkName, Seq, Known1, Known3, Tab, Known2, Known4, Known5, Shape1.
-/
import Derived.Test.YtldndkngpdfpfaaGreatPGh
import Derived.Test.YtldndkngpdfpfaaGreatRows
namespace Go.Proofs.YtldndkngpdfpfaaGreat
open Lib (hid)
set_option maxRecDepth 100000
set_option maxHeartbeats 32000000
section
open Go.RowKit
def Z4p (w:World) (b:Nat) (sn:Bool) (A:Option Addr) (l:List Name) (x:Name) (e:Ending) (w':World):Prop:=
 e = .returned (.bool (!has Z0k l x))∧∃sn' A' c',Z22 w' b sn' A' c' (put Z0k l x)∧Fr (Z2i b sn A) w w'∧Z5e w sn A sn' A'
theorem Z74 (b c:Nat) (sn:Bool) (A:Option Addr) (l:List Name) (x:Name) (w:World) (hS:Z22 w b sn A c l) (hs:Srt Z0k l) (hl:(l.length:Int)≤100000000) (hh:has Z0k l x=true) :
 Calls Tryz.prog 160 #[.pointer (some ⟨b,0,none⟩),.string x] w (Z4p w b sn A l x):=by
 have HS:=hid hS;have HO:=hid hs;clear hS hs;go_enter Tryz.func160,Tryz.ntmps160;(go_wp2_with fail);refine (Z6e b c sn A l x _ (HS.out.new_ (Zi2 _ _)) HO.out (by omega)).mono ?_;rintro e w1 ⟨rfl,hb1⟩;(go_wp2_with fail);go_ret;refine ⟨by rw [hh];rfl,sn,A,c,?_,Fr.of_new ((Zi2 _ _).trans (hb1.mono (by simp))),.inl ⟨rfl,rfl⟩⟩;rw [Zad hh];exact HS.out.new_ ((Zi2 _ _).trans (hb1.mono (by simp)))
theorem Z98 (b c:Nat) (sn:Bool) (A:Option Addr) (l:List Name) (x:Name) (w:World) (hS:Z22 w b sn A c l) (hs:Srt Z0k l) (hl:(l.length:Int)≤100000000) (hh:has Z0k l x=false) :
 Calls Tryz.prog 160 #[.pointer (some ⟨b,0,none⟩),.string x] w (Z4p w b sn A l x):=by
 obtain ⟨i0,hi,hz0,hz1,hz2⟩:=info_parts Z8u;have HS:=hid hS;have HO:=hid hs;have hb:=hS.lt;clear hS hs;have hrk:=Zaf (cmp:=Z0k) l x;go_enter Tryz.func160,Tryz.ntmps160;(go_wp2_with fail);have hSa:=HS.out.new_ (Zi2 w.heap.size w);have HSa:=hid hSa;clear hSa;refine (Z6e b c sn A l x _ HSa.out HO.out (by omega)).mono ?_;rintro e w1 ⟨rfl,hb1⟩;have HS1:=hid (HSa.out.new_ hb1);(have hsz1:w.heap.size≤w1.heap.size:=by have:=hb1.size;(try simp at this);omega);have HB1:=hid hb1;clear hb1;(go_wp2_with fail);refine (Zfy b c sn A l _ HS1.out (by omega)).mono ?_;rintro e w2 ⟨rfl,A1,c1,hS2,hF2,hM2⟩;have hsz2:w1.heap.size≤w2.heap.size:=hF2.size;have s0:=hS2.cell0;have f0:=hS2.blk.frozen 0;(have hb2:b<w2.heap.size:=by omega);have HS2:=hid hS2;have HF2:=hid hF2;have HM2:=hid hM2;clear hS2 hF2 hM2
 go_upto_region 8 with
  (at_builtin;refine Z03 (w2.alloc (.cells #[.string x] 197)) rfl (.tmp 23) (.tmp 25) 242 rfl 197 i0 _ 1 16 Tryz.underlying242 hi hz0 hz1 hz2 rfl (by omega) (.slice A1 l.length c1) l.length (l.flatMap Name.cells) rfl (Z01 HS2.out.row ((Zi2 _ _).alloc (Zi3 _) _)) (some ⟨w2.heap.size,0,none⟩) 1 1 (Name.cells x) rfl rfl (fun _=>⟨_,rfl,Zii (heap_alloc_new _ _)⟩) (Name.one x) (by unfold maxLen;omega) (by omega) ?_;
   intro v2 w3 hown hgr hnil hat;
   obtain ⟨g,c2,rfl⟩ : ∃g c2,v2 = .slice (some ⟨g,0,none⟩) (l.length+1) c2:=(by
    rcases Z14 hown with ⟨_,h0,_⟩ | ⟨g,c2,h,_⟩
    · omega
    · exact ⟨g,c2,h⟩);
   have HB3':=(HS2.out.blk.alloc (.cells #[.string x] 197)).grown hgr (Z04 HS2.out.row HS2.out.blk (by decide));
   have c0:=(HB3'.cell 0).trans rfl;
   have z0:=HB3'.frozen 0;
   have HB3:=hid HB3';
   have HOWN:=hid hown;
   have HGR:=hid hgr;
   clear HB3' hown hgr)
 have hlg:((l.length+1:Nat):Int)=(l.length:Int)+1:=by omega
 have hG:(Z2i b sn A g∨w.heap.size≤g)∧Z5e w sn A false (some ⟨g,0,none⟩)∧True∧g≠b:=by
  rcases hat with h | h
  · rcases A1 with _ | a1
    · simp [Value.ownBlock] at h
    · obtain ⟨A',c',hv,_,_,hz⟩:=Z2w HS2.out.row
      injection hv with hv _ _;obtain ⟨g',rfl⟩:=hz a1 hv.symm;(have hgg:g'=g:=by simpa [Value.ownBlock] using h.symm);subst hgg;have hne:g'≠b:=HS2.out.row_ne (by decide) _ rfl;rcases HM2.out with ⟨hsn,hA⟩ | ⟨_,g2,hg2,hA⟩
      · have h1:=HS.out.row_lt _ hA.symm
        exact ⟨.inl (.inr ⟨hsn.symm,_,hA.symm,rfl⟩),.inl ⟨hsn,hA⟩,True.intro,hne⟩
      · injection hA with hA
        injection hA with hA;subst hA;exact ⟨.inr (by omega),.inr ⟨rfl,_,by omega,rfl⟩,True.intro,hne⟩
  · have hgg:g=w2.heap.size+1:=by simpa [Value.ownBlock] using h
    subst hgg;exact ⟨.inr (by omega),.inr ⟨rfl,_,by omega,rfl⟩,True.intro,by omega⟩
 obtain ⟨hgM,hgMv,hgk1,hgb⟩:=hG;obtain ⟨w4,hw4⟩ : ∃w4,w4=w3.setCell ⟨b,0,none⟩ (.slice (some ⟨g,0,none⟩) (l.length+1) c2):=⟨_,rfl⟩;have hB4:Blk w4 b 244 #[.slice (some ⟨g,0,none⟩) (l.length+1) c2,.bool false]:=by rw [hw4];exact HB3.out.set_ 0 _
 have hR4:w4.ownsRow 0 197 1 (.slice (some ⟨g,0,none⟩) (l.length+1) c2) (l.length+1) ((Z1g l x l.length).flatMap Name.cells):=by
  rw [hw4,Z58];refine ownsRow_setCell_other (a:=⟨b,0,none⟩) ?_ (by simpa [Value.ownBlock] using hgb) _;rw [Zik,List.flatMap_singleton];exact HOWN.out
 have hF4:Fr (Z2i b sn A) w w4:=by
  rw [hw4];have h1:Fr (Z2i b sn A) w w1:=Fr.of_new ((Zi2 _ _).trans (HB1.out.mono (by simp)));have h2:Fr (Z2i b sn A) w w2:=h1.trans (HF2.out.mono (fun k _ h=>.inl h));refine ((h2.alloc _).grown HGR.out (fun k hk=>?_)).setCell (p:=⟨b,0,none⟩) (.inl (.inl rfl)) _;rcases A1 with _ | a1
  · cases hk
  · simp only [Value.ownBlock,Option.some.injEq] at hk
    subst hk;rcases HM2.out with ⟨hsn,hA⟩ | ⟨_,g',hg',hA⟩
    · left;right;exact ⟨hsn.symm,a1,hA.symm,rfl⟩
    · injection hA with hA
      subst hA;right;dsimp only;omega
 rw [← hw4];have HgM:=hid hgM;have HgMv:=hid hgMv;have HB4:=hid hB4;have HR4:=hid hR4;have HF4:=hid hF4;have s4:=hB4.cell 0;have s4':w4.cell? ⟨b,0,none⟩=some (.slice (some ⟨g,0,none⟩) (l.length+1) c2):=s4;clear s4 hw4 hB4 hR4 hF4 hat hgM hgMv hnil  s0 f0;go_wp2_with fail
 go_loopw [7] (fun s wr=>∃i:Nat,s = .int .i64 i∧rank Z0k l x≤i∧i≤l.length∧wr.ownsRow 0 197 1 (.slice (some ⟨g,0,none⟩) (l.length+1) c2) (l.length+1) ((Z1g l x i).flatMap Name.cells)∧Fr (· = g) w4 wr) (fun s wr=>(intOf s).toNat)
 case atStart=>exact ⟨l.length,by go_num,hrk,Zi3 _,HR4.out,Fr.refl _ _⟩
 case round=>
  obtain ⟨i,rfl,hi1,hi2,hown,hfr⟩:=hrel;have hgw:g<wr.heap.size:=(hown.lt g rfl).2;have r0:wr.cell? ⟨b,0,none⟩=some (.slice (some ⟨g,0,none⟩) (l.length+1) c2):=(hfr.cell (p:=⟨b,0,none⟩) HB4.out.lt (fun h=>hgb h.symm)).trans s4';have fz : ∀o,wr.frozen? ⟨g,o,none⟩=false:=fun o=>hown.frozenAt o;have HOW:=hid hown;have HFR:=hid hfr;clear hown hfr;by_cases hlt:rank Z0k l x<i
  · obtain ⟨j,rfl⟩ : ∃j,i=j+1:=⟨i - 1,by omega⟩
    (have hj:j<l.length:=by omega);have hrd:=Z08 (A:=some ⟨g,0,none⟩) (c:=c2) (l:=Z1g l x (j+1)) Name.cells_length (by rw [Z1h l x hi2];exact HOW.out);obtain ⟨g',o',hgo,_,hcell⟩:=hrd.at_ (k:=j) (by rw [Z1h l x hi2];omega);injection hgo with hgo;injection hgo with hg1 hg2;subst hg1;subst hg2;rw [Z5t l x hj] at hcell;have q0:wr.cell? ⟨g,j,none⟩=some (.string l[j]):=by simpa using hcell 0 _ rfl
    have rmj:Room wr g 197 (c2*1)∧l.length+1≤c2:=by
     rcases Z14 HOW.out with ⟨hv,_⟩ | ⟨g',cap,hv,hn,_,hr,_⟩
     · cases hv
     · injection hv with hA _ hc
       injection hA with hA;injection hA with hA;subst hA;subst hc;exact ⟨hr,hn⟩
    obtain ⟨hrm,hcap⟩:=rmj;obtain ⟨u0,t0⟩:=hrm.cell (i:=(j+1)) (by omega);(have b0:(0:Int)≤(j:Int)+1:=by omega);(have b1:(0:Int)≤(j:Int):=by omega);(have b4:(j:Int)<(l.length:Int):=by omega);(have b2:(j:Int)<(l.length:Int)+1:=by omega);(have b3:(j:Int)+1<(l.length:Int)+1:=by omega);have w1:IntKind.i64.wrap ((j:Int))=(j:Int):=Zih _ (by omega);(have w2:IntKind.i64.wrap ((j:Int)+1 - 1)=(j:Int):=by rw [Zih _ (by omega)];omega);clear hcell hrd hrm;obtain ⟨y,hy⟩ : ∃y,y=l[j]:=⟨_,rfl⟩;rw [← hy] at q0;have HY:=hid hy;have hbw:b<wr.heap.size:=Ziy wr _ r0;clear hy;(go_wp2_with fail);refine Z05 (fun w9=>Below wr.heap.size wr w9) [(0,0),(1,0),(2,0),(3,1),(4,0),(5,0),(6,0),(7,0),(8,1),(9,0),(10,0),(11,0),(12,1),(13,0),(14,2)] (by kernel_rfl) (by kernel_rfl) (fun KK hKK=>?_);simp only [Z02,Zib,Zi5,Zi9,Zi8,Zi7,Zif];(repeat ((first | (refine Z0a ?_ (Or.inl ⟨by rfl,fun w9=>?_⟩) ?_;rotate_left 1;go_simp;with_reducible rfl) | (refine Z06 ?_ (((Zi2 _ _).drew)) (Or.inl ⟨by rfl,fun w9 hw9=>?_⟩) ?_;rotate_left 1;obtain ⟨hc9,hf9⟩:=Z0e hw9;go_simp;with_reducible rfl) | refine Z0a undef (Or.inr ⟨by rfl,rfl⟩) ?_ | refine Z06 undef (((Zi2 _ _).drew)) (Or.inr ⟨by rfl,rfl⟩) ?_);go_frame));refine Z2p (by kernel_rfl) (fun K9 hK9=>?_);go_simp;refine hK9 _ _ ?_;clear hK9 K9;refine Z0z ?_;simp only [Z00];refine hKK _ _ ?_;clear hKK KK;(go_wp2_with fail);go_roundw
    case rel=>
     refine ⟨j,by go_num,by omega,by omega,?_,Fr.drew ((HFR.out).setCell (p:=⟨g,(j+1),none⟩) (.inl rfl) (_))⟩;have hst:=((HOW.out).stored ((j+1)) (.string y)).1
     have he:setAll ((Z1g l x (j+1)).flatMap Name.cells) ((j+1)) (Name.cells y)=(Z1g l x j).flatMap Name.cells:=by
      rw [Z8p Name.cells_length (by omega) _ (j+1) (by rw [Z1h l x hi2];omega),HY.out,Z5u l x hj]
     rw [← he];exact hst
    case measure=>simp [intOf]<;>omega
  · obtain rfl:i=rank Z0k l x:=by omega
    have rmj:Room wr g 197 (c2*1)∧l.length+1≤c2:=by
     rcases Z14 HOW.out with ⟨hv,_⟩ | ⟨g',cap,hv,hn,_,hr,_⟩
     · cases hv
     · injection hv with hA _ hc
       injection hA with hA;injection hA with hA;subst hA;subst hc;exact ⟨hr,hn⟩
    obtain ⟨hrm,hcap⟩:=rmj;obtain ⟨k,hk⟩ : ∃k,k=rank Z0k l x:=⟨_,rfl⟩;rw [← hk] at hi2 hlt ⊢;obtain ⟨u0,t0⟩:=hrm.cell (i:=k) (by omega);(have b1:(0:Int)≤(k:Int):=by omega);(have b2:(k:Int)<(l.length:Int)+1:=by omega);have HK:=hid hk;have hbw:b<wr.heap.size:=Ziy wr _ r0;clear hrm hk;(go_wp2_with fail);go_ret;have HOWk:=HOW.out;rw [← HK.out] at HOWk;have hst:=((HOWk).stored (k) (.string x)).1
    have he:setAll ((Z1g l x k).flatMap Name.cells) (k) (Name.cells x)=(put Z0k l x).flatMap Name.cells:=by
     rw [Z8p Name.cells_length (by omega) _ k (by rw [Z1h l x hi2];omega),Z6u l x hi2,Zb8 Z2r HO.out hh,HK.out]
    have hln:=Z4h Z2r HO.out hh;refine ⟨by rw [hh];rfl,false,some ⟨g,0,none⟩,c2,⟨?_,?_⟩,?_,?_⟩
    · rw [hln]
      exact (HB4.out.fr HFR.out (fun h=>hgb h.symm)).far (p:=⟨g,k,none⟩) (fun h=>hgb h.symm) _
    · rw [hln,← he]
      exact hst
    · exact HF4.out.into (((HFR.out).setCell (p:=⟨g,k,none⟩) (.inl rfl) (_))) (fun k hk=>by subst hk;exact HgM.out)
    · exact HgMv.out
theorem Zb7 (b c:Nat) (sn:Bool) (A:Option Addr) (l:List Name) (x:Name) (w:World) (hS:Z22 w b sn A c l) (hs:Srt Z0k l) (hl:(l.length:Int)≤100000000) :
 Calls Tryz.prog 160 #[.pointer (some ⟨b,0,none⟩),.string x] w (Z4p w b sn A l x):=by
 cases hh:has Z0k l x
 · exact Z98 b c sn A l x w hS hs hl hh
 · exact Z74 b c sn A l x w hS hs hl hh
theorem Zc2 (b c:Nat) (sn:Bool) (A:Option Addr) (l:List Name) (x:Name) (w:World) (hS:Z22 w b sn A c l) (hs:Srt Z0k l) (hl:(l.length:Int)≤1000000000) :
 Calls Tryz.prog 203 #[.pointer (some ⟨b,0,none⟩),.string x] w (Z8c l x w):=by
 have HS:=hid hS;have HO:=hid hs;clear hS hs;go_enter Tryz.func203,Tryz.ntmps203;(go_wp2_with fail);refine (Z6e b c sn A l x _ (HS.out.new_ (Zi2 _ _)) HO.out (by omega)).mono ?_;rintro e w1 ⟨rfl,hb1⟩;(go_wp2_with fail);go_ret2;exact ⟨rfl,(Zi2 _ _).trans (hb1.mono (by simp))⟩
def Z7n (w:World) (b:Nat) (A:Option Addr) (c:Nat) (l:List Name) (e:Ending) (w':World):Prop:=
 ∃k,e = .returned (.pointer (some ⟨k,0,none⟩))∧w.heap.size≤k∧Z22 w' b true A c l∧Z22 w' k true A c l∧Fr (· = b) w w'
theorem Zbs (b c:Nat) (sn:Bool) (A:Option Addr) (l:List Name) (w:World) (hS:Z22 w b sn A c l) :
 Calls Tryz.prog 200 #[.pointer (some ⟨b,0,none⟩)] w (Z7n w b A c l):=by
 have s0:=hS.cell0;have s1:=hS.cell1;have f1:=hS.blk.frozen 1;have hb:=hS.lt;have HS:=hid hS;clear hS;go_enter Tryz.func200,Tryz.ntmps200;go_wp2;go_ret;have h1:Z22 (w.setCell ⟨b,1,none⟩ (.bool true)) b true A c l:=⟨HS.out.blk.set_ 1 _,ownsRow_setCell_other HS.out.row (Z04 HS.out.row HS.out.blk (by decide)) _⟩;refine ⟨w.heap.size,by simp,Zi3 _,h1.new_ ((Zi2 _ _).alloc (Zi3 _) _),⟨?_,Z01 h1.row ((Zi2 _ _).alloc (Zi3 _) _)⟩,((Fr.refl (· = b) w).setCell (p:=⟨b,1,none⟩) (.inl rfl) _).alloc _⟩;have h2:=Blk.new (w.setCell ⟨b,1,none⟩ (.bool true)) 244 #[.slice A l.length c,.bool true];simpa using h2
def Z9n (w:World) (xs:List Name) (e:Ending) (w':World):Prop:=
 ∃k,e = .returned (.pointer (some ⟨k,0,none⟩))∧w.heap.size≤k∧∃sn A c,Z22 w' k sn A c (puts Z0k [] xs)∧AIn A (w.heap.size≤·)∧Below w.heap.size w w'
theorem Zfs (A:Option Addr) (c:Nat) (xs:List Name) (w:World) (hrd:Z0h w 1 Name.cells A c xs) (hl:(xs.length:Int)≤10000000) :
 Calls Tryz.prog 119 #[.slice A xs.length c] w (Z9n w xs):=by
 have HRD:=hid hrd;clear hrd;go_enter Tryz.func119,Tryz.ntmps119;(go_wp2_with fail);obtain ⟨W0,hW0⟩ : ∃W0,W0=w.alloc (.cells #[.slice none 0 0,.bool false] 244):=⟨_,rfl⟩;(have hb0:Below w.heap.size w W0:=by rw [hW0];exact (Zi2 _ _).alloc (Zi3 _) _);have hS0:Z22 W0 w.heap.size false none 0 []:=⟨by rw [hW0];exact Blk.new _ _ _,⟨by simp,.inl ⟨rfl,rfl⟩⟩⟩;rw [← hW0];clear hW0;have HB0:=hid hb0;have HS0:=hid hS0;clear hb0 hS0
 go_loopw [10] (fun s wr=>∃i:Nat,s = .int .i64 i∧i≤xs.length∧∃sn A' c',Z22 wr w.heap.size sn A' c' (puts Z0k [] (xs.take i))∧AIn A' (w.heap.size≤·)∧Below w.heap.size w wr) (fun s wr=>xs.length - (intOf s).toNat)
 case atStart=>exact ⟨0,rfl,Nat.zero_le _,false,none,0,HS0.out,AIn.none_ _,HB0.out⟩
 case round=>
  obtain ⟨i,rfl,hi,sn,A',c',hS,hA',hB⟩:=hrel;have HS:=hid hS;have HA:=hid hA';have HB:=hid hB;clear hS hA' hB;by_cases hlt:i<xs.length
  · obtain ⟨x,hx⟩ : ∃x,x=xs[i]:=⟨_,rfl⟩
    obtain ⟨g,off,rfl,hgs,hcell⟩:=(HRD.out.fr (Fr.of_new (M:=fun _=>False) HB.out) (fun _ _ h=>h)).at_ hlt;rw [← hx] at hcell;(have q0:wr.cell? ⟨g,off+i,none⟩=some (.string x):=by simpa using hcell 0 _ rfl);(have b1:(0:Int)≤(i:Int):=by omega);(have b2:(i:Int)<(xs.length:Int):=by omega);have HX:=hid hx;clear hcell hx;(go_wp2_with fail);have hsr:=Srt.puts Z2r (xs.take i) (Srt.nil (cmp:=Z0k))
    have hlen:(((puts Z0k [] (xs.take i)).length:Nat):Int)≤100000000:=by
     have:=Z3i Z2r (xs.take i) (Srt.nil (cmp:=Z0k));simp at this;omega
    refine (Zb7 w.heap.size c' sn A' _ x _ (HS.out.new_ (Zi2 _ _)) hsr hlen).mono ?_;rintro e w1 ⟨rfl,sn2,A2,c2,hS2,hF2,hM2⟩
    have hB1:Below w.heap.size w w1:=(HB.out).trans (hF2.below (by have:=HB.out.size;(try simp);omega) (fun k hk hm=>by
     rcases hm with hm | ⟨_,a,ha,hm⟩
     · omega
     · have:=HA.out a ha;omega))
    have hA2:AIn A2 (w.heap.size≤·):=by
     rcases hM2 with ⟨_,rfl⟩ | ⟨_,g2,hg2,rfl⟩
     · exact HA.out
     · intro a ha;cases ha;have:=HB.out.size;(try simp at hg2 ⊢);omega
    have HS2:=hid hS2;have HB1:=hid hB1;have HA2:=hid hA2;clear hS2 hB1 hA2 hF2 hM2 hsr hlen q0;(go_wp2_with fail);go_roundw
    case rel=>
     refine ⟨i+1,by go_num,by omega,sn2,A2,c2,?_,HA2.out,HB1.out⟩;rw [Zj9,Zic hlt,← HX.out];simp only [Option.toList_some,Z99];exact HS2.out
    case measure=>simp [intOf]<;>omega
  · have hie:i=xs.length:=by omega
    subst hie;(go_wp2_with fail);go_ret;refine ⟨w.heap.size,rfl,Zi3 _,sn,A',c',?_,HA.out,HB.out⟩;have:=HS.out;rwa [Zis] at this
abbrev Z1y:=Sets (α:=Name) 244 197 1 Name.cells Z0k
section
variable {D:Nat→Prop} {w:World} {S:Nat→Option (List Name)} {σ:Nat→St} {b:Nat} {l:List Name}
def Z9m (D:Nat→Prop) (w:World) (S:Nat→Option (List Name)) (σ:Nat→St) (b:Nat) (l:List Name) (w':World):Prop:=
 ∃σ',Z1y D w' (upd S b (some l)) σ'∧(∀k,k≠b→σ' k=σ k)∧Fr (fun k=>¬D k) w w'∧Fr (Z2i b (σ b).sn (σ b).A) w w'
theorem Zec (x:Name) (h:Z1y D w S σ) (hb:S b=some l) (hl:(l.length:Int)≤100000000) :
 Calls Tryz.prog 160 #[.pointer (some ⟨b,0,none⟩),.string x] w fun e w'=>e = .returned (.bool (!has Z0k l x))∧Z9m D w S σ b (put Z0k l x) w':=by
 refine (Zb7 b _ _ _ l x w (h.at_ b l hb) (h.srt b l hb) hl).mono ?_;rintro e w' ⟨he,sn',A',c',h1,hF,hM⟩;exact ⟨he,_,h.moved (by decide) hb h1 ((h.srt b l hb).put Z2r x) hF hM,fun k hk=>Z1l _ _ hk,h.mod hb hF,hF⟩
def Zew (D:Nat→Prop) (w:World) (S:Nat→Option (List Name)) (_:Nat→St) (l:List Name) (e:Ending) (w':World):Prop:=
 ∃k,e = .returned (.pointer (some ⟨k,0,none⟩))∧w.heap.size≤k∧(∀b l,S b=some l→b≠k)∧∃σ',Z1y D w' (upd S k (some l)) σ'∧Fr (fun k=>¬D k) w w'
theorem Zeb (A:Option Addr) (c:Nat) (xs:List Name) (h:Z1y D w S σ) (hrd:Z0h w 1 Name.cells A c xs) (hl:(xs.length:Int)≤10000000) :
 Calls Tryz.prog 119 #[.slice A xs.length c] w fun e w'=>Zew D w S σ (puts Z0k [] xs) e w'∧Below w.heap.size w w':=by
 refine (Zfs A c xs w hrd hl).mono ?_;rintro e w' ⟨k,he,hk,sn,A',c',h1,hA,hB⟩;exact ⟨⟨k,he,hk,fun b l hb e=>by have:=h.lt hb;omega,_,h.add hk h1 (Srt.puts Z2r xs Srt.nil) (.inl hA) hB,Fr.of_new hB⟩,hB⟩
theorem Zai (h:Z1y D w S σ) (hb:S b=some l) :
 Calls Tryz.prog 200 #[.pointer (some ⟨b,0,none⟩)] w fun e w'=>∃k,e = .returned (.pointer (some ⟨k,0,none⟩))∧w.heap.size≤k∧(∀b l,S b=some l→b≠k)∧
  ∃σ',Z1y D w' (upd S k (some l)) σ'∧(∀j,j≠k→j≠b→σ' j=σ j)∧(σ' b).sn=true∧(σ' b).A=(σ b).A∧(σ' k).sn=true∧(σ' k).A=(σ b).A∧Fr (fun k=>¬D k) w w'∧Fr (· = b) w w':=by
 refine (Zbs b _ _ _ l w (h.at_ b l hb)).mono ?_;rintro e w' ⟨k,he,hk,h1,h2,hF⟩;(have hnb:b≠k:=fun e=>by have:=h.lt hb;omega);have hD:Fr (fun k=>¬D k) w w':=hF.mono (fun k _ hk=>by rw [hk];exact (h.out b l hb).1);have hs:=h.seen (by decide) hb h1 hF;have hrow:=(h.at_ b l hb).row_lt;refine ⟨k,he,hk,fun b l hb e=>by have:=h.lt hb;omega,upd (upd σ b ⟨true,(σ b).A,(σ b).c⟩) k ⟨true,(σ b).A,(σ b).c⟩,⟨fun j m hj=>?_,fun j m hj=>?_,fun j m hj=>?_,fun j m j' m' hj hj' hjj hsj a a' ha ha'=>?_,hs.low⟩,fun j h1 h2=>by rw [Z1l _ _ h1,Z1l _ _ h2],by rw [Z1l _ _ hnb,Z0t],by rw [Z1l _ _ hnb,Z0t],by rw [Z0t],by rw [Z0t],hD,hF⟩
 · by_cases e:j=k
   · subst e;rw [Z0t] at hj ⊢;cases hj;exact h2
   · rw [Z1l _ _ e] at hj ⊢;exact hs.at_ j m hj
 · by_cases e:j=k
   · subst e;rw [Z0t] at hj;cases hj;exact h.srt b l hb
   · rw [Z1l _ _ e] at hj;exact h.srt j m hj
 · by_cases e:j=k
   · subst e;rw [Z0t] at hj ⊢;cases hj
     exact ⟨fun hd=>by have:=h.low _ hd;omega,fun hs2=>by cases hs2⟩
   · rw [Z1l _ _ e] at hj ⊢;exact hs.out j m hj
 · by_cases e:j=k
   · subst e;rw [Z0t] at hsj;cases hsj
   · rw [Z1l _ _ e] at hj hsj ha
     by_cases e2:j'=k
     · subst e2
       rw [Z0t] at ha';by_cases e3:j=b
       · subst e3;rw [Z0t] at hsj;cases hsj
       · exact hs.apart j m b l hj hb e3 hsj a a' ha (by rw [Z0t];exact ha')
     · rw [Z1l _ _ e2] at hj' ha'
       exact hs.apart j m j' m' hj hj' hjj hsj a a' ha ha'
end
end
section
open Go.RowKit Go.Shelf
attribute [local go_sem] Oper.semAt_some
theorem Z83 (W:World) (base:Nat) (e:TypeId) (size:Nat):W.ownsRow base e size (.slice none 0 0) 0 []:=⟨by simp,.inl ⟨rfl,rfl⟩⟩
end
section
open Go.RowKit Go.Shelf
structure KnS (W:World) (S:Nat→Option (List Name)) (kb sb:Nat) (K:Kn) (A:Option Addr) (c:Nat):Prop where
 blk:Blk W kb 199 #[.pointer (some ⟨sb,0,none⟩),.slice A K.2.length c]
 row:W.ownsRow 0 9 1 (.slice A K.2.length c) K.2.length (K.2.map Value.string)
 set:S sb=some K.1
theorem Zdc {D:Nat→Prop} {W:World} {S:Nat→Option (List Name)} {σ:Nat→St} {kb sb:Nat} {K:Kn} {A:Option Addr} {c:Nat} (v:ByteArray) (hN:Z1y D W S σ) (hK:KnS W S kb sb K A c) (hl:(K.1.length:Int)≤1000000) :
 Calls Tryz.prog 163 #[.pointer (some ⟨kb,0,none⟩),.string v] W fun e W'=>e = .returned (.bool (hasK K v))∧Below W.heap.size W W':=by
 have s0:W.cell? ⟨kb,0,none⟩=some (.pointer (some ⟨sb,0,none⟩)):=(hK.blk.cell 0).trans rfl;have hkl:=hK.blk.lt;have HS:=hid (hN.at_ sb K.1 hK.set);have HO:=hid (hN.srt sb K.1 hK.set);clear hN hK;go_enter Tryz.func163,Tryz.ntmps163;(go_wp2_with fail);refine (Zc2 sb _ _ _ K.1 v _ HS.out HO.out (by omega)).mono ?_;rintro e w1 ⟨rfl,hb1⟩;(go_wp2_with fail);go_ret;exact ⟨rfl,hb1⟩
theorem Zdd {D:Nat→Prop} {W:World} {S:Nat→Option (List Name)} {σ:Nat→St} {kb sb:Nat} {K:Kn} {A:Option Addr} {c:Nat} (hN:Z1y D W S σ) (hK:KnS W S kb sb K A c) :
 Calls Tryz.prog 161 #[.pointer (some ⟨kb,0,none⟩)] W fun e W'=>∃kb' sb',e = .returned (.pointer (some ⟨kb',0,none⟩))∧W.heap.size≤kb'∧W.heap.size≤sb'∧(∃σ',Z1y D W' (upd S sb' (some K.1)) σ')∧KnS W' (upd S sb' (some K.1)) kb' sb' (K.1,[]) none 0∧Fr (fun j=>¬D j) W W'∧Fr (· = sb) W W':=by
 have s0:W.cell? ⟨kb,0,none⟩=some (.pointer (some ⟨sb,0,none⟩)):=(hK.blk.cell 0).trans rfl;have hkl:=hK.blk.lt;have HN:=hid hN;have HS:=hid hK.set;clear hN hK;go_enter Tryz.func161,Tryz.ntmps161;(go_wp2_with fail);refine (Zai HN.out HS.out).mono ?_;rintro e w1 ⟨k,rfl,hk,_,σ',h1,_,_,_,_,_,hF,hFb⟩;have H1:=hid h1;have HF:=hid hF;have HFb:=hid hFb;clear h1 hF hFb;(go_wp2_with fail);go_ret;have hn:Below w1.heap.size w1 (w1.alloc (.cells #[.pointer (some ⟨k,0,none⟩),.slice none 0 0] 199)):=(Zi2 _ _).alloc (Zi3 _) _;exact ⟨w1.heap.size,k,rfl,HF.out.size,hk,⟨σ',H1.out.below hn⟩,⟨Blk.new _ _ _,Z83 _ _ _ _,Z0t _ _ _⟩,HF.out.trans (Fr.of_new hn),HFb.out.trans (Fr.of_new hn)⟩
theorem Zde {D:Nat→Prop} {W:World} {S:Nat→Option (List Name)} {σ:Nat→St} {kb sb:Nat} {K:Kn} {A:Option Addr} {c:Nat} (a:Z3t) (hN:Z1y D W S σ) (hK:KnS W S kb sb K A c) (hl:(K.1.length:Int)≤1000000) :
 Calls Tryz.prog 121 #[.pointer (some ⟨kb,0,none⟩),.agg #[.string a.var,.int .i64 a.sym.kind,.string a.sym.text,.int .i64 a.sym.n]] W fun e W'=>e = .returned (.bool (Z40 K a))∧Below W.heap.size W W':=by
 have HN:=hid hN;have HK:=hid hK;clear hN hK;by_cases hv:a.var.toList = []
 · have v1:(a.var.toList == [])=true:=by simp [hv]
   (have v2:a.var.toList.isEmpty=true:=by simp [hv]);(have v3:decide (a.var.toList = [])=true:=by simp [hv]);have HR:=hid (show Z40 K a=false by simp [Z40,hv]);clear hv;go_enter Tryz.func121,Tryz.ntmps121;(go_wp2_with fail);go_ret;exact ⟨by rw [HR.out]<;>rfl,(Zi2 _ _).alloc (Zi3 _) _⟩
 · have v1:(a.var.toList == [])=false:=by simp [hv]
   (have v2:a.var.toList.isEmpty=false:=by simp [hv]);(have v3:decide (a.var.toList = [])=false:=by simp [hv]);have HR:=hid (show Z40 K a = !hasK K a.var by simp [Z40,hv]);clear hv;go_enter Tryz.func121,Tryz.ntmps121;(go_wp2_with fail);have hb:=(Zi2 W.heap.size W).alloc (Zi3 _) (.cells #[.string a.var,.int .i64 a.sym.kind,.string a.sym.text,.int .i64 a.sym.n] 76);refine (Zdc a.var (HN.out.below hb) ⟨HK.out.blk.new_ hb,Z01 HK.out.row hb,HK.out.set⟩ hl).mono ?_;rintro e w1 ⟨rfl,hb1⟩;have HB:=hid (hb.trans (hb1.mono (by simp)));clear hb hb1;(go_wp2_with fail);go_ret;exact ⟨by rw [HR.out]<;>rfl,HB.out⟩
end
section
open Go.RowKit
theorem Zcq {α:Type} {tSet tE size:Nat} {cells:α→List Value} {w:World} {b:Nat} {sn:Bool} {A:Option Addr} {c:Nat} {l:List α} {g:Nat} {t:TypeId} {cs:Array Value}
 (hS:Z2h tSet tE size cells w b sn A c l) (hB:Blk w g t cs) (h1:t≠tSet) (h2:t≠tE) : ¬Z2i b sn A g:=by
 rintro (rfl | ⟨_,a,ha,rfl⟩)
 · exact hB.ne_ hS.blk h1 rfl
 · have:=Z04 hS.row hB (Ne.symm h2)
   subst ha;exact this (by simp [Value.ownBlock])
section
variable {D:Nat→Prop} {w w':World} {σ:Nat→St}
def Off {α:Type} (k:Nat) (S:Nat→Option (List α)) (σ:Nat→St):Prop:=∀b l,S b=some l→b≠k∧AIn (σ b).A (·≠k)
end
end
section
open Go.RowKit Go.Shelf
theorem Sets.off_of {α:Type} {tSet tE size:Nat} {cells:α→List Value} {cmp:α→α→Int} {D:Nat→Prop} {w:World} {S:Nat→Option (List α)} {σ:Nat→St} {k:Nat} {t:TypeId} {cs:Array Value} (h:Sets tSet tE size cells cmp D w S σ) (hB:Blk w k t cs) (n1:t≠tSet) (n2:t≠tE):Off k S σ:=
 fun b l hb=>⟨fun e=>hB.ne_ (h.at_ b l hb).blk n1 e.symm,fun a ha e=>by
  have:=Z04 (h.at_ b l hb).row hB (Ne.symm n2);rw [ha] at this
  exact this (by simp [Value.ownBlock,e])⟩
theorem Sets.offM {α:Type} {tSet tE size:Nat} {cells:α→List Value} {cmp:α→α→Int} {D M:Nat→Prop} {w w':World} {S:Nat→Option (List α)} {σ:Nat→St} (h:Sets tSet tE size cells cmp D w S σ) (ho : ∀q,M q→Off q S σ) (hF:Fr M w w'):Sets tSet tE size cells cmp D w' S σ:=
 ⟨fun b l hb=>(h.at_ b l hb).fr hF (fun hd=>(ho b hd b l hb).1 rfl) (fun a ha hd=>(ho _ hd b l hb).2 a ha rfl),h.srt,h.out,h.apart,fun k hk=>Zia (h.low k hk) hF.size⟩
theorem Zg0 {α:Type} {tSet tE size:Nat} {cells:α→List Value} {w w':World} {b:Nat} {sn:Bool} {A:Option Addr} {c:Nat} {l:List α} {e sz n:Nat} {v:Value} {xs:List Value} (hS:Z2h tSet tE size cells w b sn A c l) (h:w.ownsRow 0 e sz v n xs) (n1:e≠tSet) (n2:e≠tE) (hF:Fr (Z2i b sn A) w w'):w'.ownsRow 0 e sz v n xs:=
 ⟨h.1,h.2.imp id fun ⟨g,cap,cur,hv,h0,hg,hr⟩=>⟨g,cap,cur,hv,h0,Blk.fr (t:=e) hg hF (Zcq hS hg n1 n2),hr⟩⟩
theorem Zft {Y:World} {t:TypeId} {cs:List Value} {k:Nat} (hk:Y.heap.size=k) : ∀(j:Nat) (u:Value),cs[j]? = some u→(Y.alloc (.cells cs.toArray t)).cell? ((⟨k,0,none⟩:Addr).add j)=some u:=by
 subst hk;exact Zii (heap_alloc_new _ _)
def Zgs (D:Nat→Prop) (W:World) (S:Nat→Option (List Name)) (kb sb:Nat) (K:Kn) (v:ByteArray) (W':World):Prop:=
 ∃σ' A' c',Z1y D W' (upd S sb (some (metK K v).1)) σ'∧KnS W' (upd S sb (some (metK K v).1)) kb sb (metK K v) A' c'∧AIn A' (fun j=>¬D j)∧Fr (fun j=>¬D j) W W'
theorem Zfk:(Tryz.prog.info? 9).map (fun i=>(i.zero,i.size,i.bytes))=some (some (.string ⟨#[]⟩),1,16):=by kernel_rfl
theorem Zh2 {D:Nat→Prop} {W:World} {S:Nat→Option (List Name)} {σ:Nat→St} {kb sb:Nat} {K:Kn} {A:Option Addr} {c:Nat} (v:ByteArray) (hN:Z1y D W S σ) (hK:KnS W S kb sb K A c) (hkD : ¬D kb) (hAD:AIn A (fun j=>¬D j)) (hl:(K.1.length:Int)≤1000000) (hl2:(K.2.length:Int)≤1000000) :
 Calls Tryz.prog 201 #[.pointer (some ⟨kb,0,none⟩),.string v] W fun e W'=>e = .returned (.tuple #[])∧Zgs D W S kb sb K v W':=by
 obtain ⟨i0,hi0,hz0,hz1,hz2⟩:=info_parts Zfk;have s0:W.cell? ⟨kb,0,none⟩=some (.pointer (some ⟨sb,0,none⟩)):=(hK.blk.cell 0).trans rfl;have hkl:=hK.blk.lt;have HN:=hid hN;have HK:=hid hK;have HAD:=hid hAD;have HKD:=hid hkD;have HSA:=hid (hN.at_ sb K.1 hK.set);clear hN hK hAD hkD;go_enter Tryz.func201,Tryz.ntmps201;(go_wp2_with fail);refine (Zec v HN.out HK.out.set (by omega)).mono ?_;rintro e w1 ⟨rfl,σ',h1,_,hF,hFb⟩;have hkb1:=HK.out.blk.fr hFb (Zcq HSA.out HK.out.blk (by decide) (by decide));have hrw1:=Zg0 HSA.out HK.out.row (by decide) (by decide) hFb;have H1:=hid h1;have HF:=hid hF;have HKB:=hid hkb1;have HRW:=hid hrw1;clear h1 hF hFb;cases hh:has Z0k K.1 v
 · have hm:metK K v=(put Z0k K.1 v,K.2 ++ [v]):=by unfold metK;rw [hh];rfl
   have HM:=hid hm;have s1:w1.cell? ⟨kb,1,none⟩=some (.slice A K.2.length c):=(hkb1.cell 1).trans rfl;have f1:=hkb1.frozen 1;have hkl1:=hkb1.lt;have hlt1:=HF.out.size;clear hm hh hkb1 hrw1 s0;(go_wp2_with (at_builtin;refine Z03 _ rfl (.tmp 14) (.tmp 16) 94 rfl 9 i0 _ 1 16 Tryz.underlying94 hi0 hz0 hz1 hz2 rfl (by omega) (.slice A K.2.length c) K.2.length (K.2.map Value.string) rfl (Z01 HRW.out ((Zi2 _ _).alloc (Zi3 _) _)) _ 1 1 [.string v] rfl rfl (fun _=>⟨_,rfl,Zft (by simp)⟩) (by intro u hu;simp at hu;subst hu;rfl) (by unfold maxLen;omega) (by omega) ?_;intro v' w4 hown hg hnil hat;obtain ⟨A',c',rfl,_,_,_⟩:=Z2w hown;have hkb4:=(HKB.out.alloc (.cells #[.string v] 9)).grown hg (Z04 HRW.out HKB.out (by decide));have s1:=(hkb4.cell 1).trans rfl;have f1:=hkb4.frozen 1;have hkl1:=hkb4.lt;have HKB4:=hid hkb4;have HO4:=hid hown;have HG4:=hid hg;have HAT:=hid hat;clear hkb4 hown hg hnil hat));go_end0;refine ⟨rfl,?_⟩;unfold Zgs;rw [HM.out];have hfr:Fr (fun j=>(Value.slice A K.2.length c).ownBlock=some j∨j=kb) w1 (w4.setCell ⟨kb,1,none⟩ (.slice A' (K.2.length+1) c')):=(((Fr.refl _ w1).alloc _).grown HG4.out (fun k hk=>.inl (.inl hk))).setCell (p:=⟨kb,1,none⟩) (.inl (.inr rfl)) _
   have hoff : ∀k,((Value.slice A K.2.length c).ownBlock=some k∨k=kb)→Off k (upd S sb (some (put Z0k K.1 v))) σ':=by
    intro k hk;rcases hk with hk | rfl
    · rcases HRW.out.2 with ⟨hv,_⟩ | ⟨g,cap,cur,hv,_,hg,_⟩
      · rw [hv] at hk;simp [Value.ownBlock] at hk
      · rw [hv] at hk
        (have e:g=k:=by simpa [Value.ownBlock] using hk);subst e;exact H1.out.off_of (t:=9) hg (by decide) (by decide)
    · exact H1.out.off_of HKB.out (by decide) (by decide)
   refine ⟨σ',A',c',H1.out.offM hoff hfr,⟨?_,?_,Z0t _ _ _⟩,?_,HF.out.trans (hfr.mono (fun j _ hj=>?_))⟩
   · have:=HKB4.out.set_ 1 (.slice A' (K.2.length+1) c')
     rw [Zim];exact this
   · have h9:=ownsRow_setCell_other (a:=⟨kb,1,none⟩) HO4.out (Z04 HO4.out HKB4.out (by decide)) (.slice A' (K.2.length+1) c')
     rw [Zim,Zil];exact h9
   · intro a ha hd
     subst ha;have hlow:=H1.out.low _ hd;rcases HAT.out with h | h
     · rcases A with _ | b
       · simp [Value.ownBlock] at h
       · have e:a.block=b.block:=by simpa [Value.ownBlock] using h
         exact HAD.out b rfl (e ▸ hd)
     · have e:a.block=w1.heap.size+1:=by simpa [Value.ownBlock] using h
       omega
   · rcases hj with hj | rfl
     · rcases A with _ | b
       · simp [Value.ownBlock] at hj
       · have e:b.block=j:=by simpa [Value.ownBlock] using hj
         exact fun hd=>HAD.out b rfl (e ▸ hd)
     · exact HKD.out
 · have hm:metK K v=(put Z0k K.1 v,K.2):=by unfold metK;rw [hh];rfl
   have HM:=hid hm;clear hm hh;(go_wp2_with fail);go_end0;refine ⟨rfl,?_⟩;unfold Zgs;rw [HM.out];exact ⟨σ',A,c,H1.out,⟨HKB.out,HRW.out,Z0t _ _ _⟩,HAD.out,HF.out⟩
theorem Zeh {α:Type} (S:Nat→α) (b:Nat) (x y:α):upd (upd S b x) b y=upd S b y:=by
 funext k;by_cases e:k=b
 · subst e;rw [Z0t,Z0t]
 · rw [Z1l _ _ e,Z1l _ _ e,Z1l _ _ e]
def KSt (D:Nat→Prop) (W:World) (S:Nat→Option (List Name)) (kb sb:Nat) (K:Kn) (W':World):Prop:=
 ∃σ' A' c',Z1y D W' (upd S sb (some K.1)) σ'∧KnS W' (upd S sb (some K.1)) kb sb K A' c'∧AIn A' (fun j=>¬D j)∧Fr (fun j=>¬D j) W W'
theorem KSt.below {D:Nat→Prop} {W W1 W2:World} {S:Nat→Option (List Name)} {kb sb:Nat} {K:Kn} (h:KSt D W S kb sb K W1) (hb:Below W1.heap.size W1 W2):KSt D W S kb sb K W2:=by
 obtain ⟨σ',A',c',h1,h2,h3,h4⟩:=h;exact ⟨σ',A',c',h1.below hb,⟨h2.blk.new_ hb,Z01 h2.row hb,h2.set⟩,h3,h4.trans (Fr.of_new hb)⟩
theorem Zfp (K:Kn) (v:ByteArray) (hs:Srt Z0k K.1):(metK K v).1.length≤K.1.length+1∧(metK K v).2.length≤K.2.length+1:=by
 unfold metK;cases h:has Z0k K.1 v
 · simp [Z4h Z2r hs h]
 · simp [Zad h]
theorem KSt.met {D:Nat→Prop} {W W1:World} {S:Nat→Option (List Name)} {kb sb:Nat} {K:Kn} (v:ByteArray) (h:KSt D W S kb sb K W1) (hkD : ¬D kb) (hl:(K.1.length:Int)≤1000000) (hl2:(K.2.length:Int)≤1000000) :
 Calls Tryz.prog 201 #[.pointer (some ⟨kb,0,none⟩),.string v] W1 fun e W'=>e = .returned (.tuple #[])∧KSt D W S kb sb (metK K v) W'∧(metK K v).1.length≤K.1.length+1∧(metK K v).2.length≤K.2.length+1:=by
 obtain ⟨σ',A',c',h1,h2,h3,h4⟩:=h;refine (Zh2 v h1 h2 hkD h3 hl hl2).mono ?_;rintro e W' ⟨he,σ2,A2,c2,g1,g2,g3,g4⟩;rw [Zeh] at g1 g2;exact ⟨he,⟨σ2,A2,c2,g1,g2,g3,h4.trans g4⟩,Zfp K v (h1.srt sb _ (Z0t _ _ _))⟩
theorem KSt.has_ {D:Nat→Prop} {W W1:World} {S:Nat→Option (List Name)} {kb sb:Nat} {K:Kn} (v:ByteArray) (h:KSt D W S kb sb K W1) (hl:(K.1.length:Int)≤1000000) :
 Calls Tryz.prog 163 #[.pointer (some ⟨kb,0,none⟩),.string v] W1 fun e W'=>e = .returned (.bool (hasK K v))∧Below W1.heap.size W1 W':=by
 obtain ⟨σ',A',c',h1,h2,h3,h4⟩:=h;exact Zdc v h1 h2 hl
theorem Zat {α:Type} {l:List α} {i:Nat} (h:i<l.length):l.drop i=l[i] :: l.drop (i+1):=Ziw h
theorem Z3a (k:Kn) (t:Z0i) (l:List Z0i):Z1k k (t :: l)=if t.rel=8∨t.var.toList = [] then Z1k k l else if t.rel=1 then Z1k (metK k t.var) l else if hasK k t.var=true then Z1k k l else (false,k):=rfl
theorem Z51 {D:Nat→Prop} {W:World} {S:Nat→Option (List Name)} {kb sb:Nat} {K:Kn} {A:Option Addr} {c:Nat} (l:List Z0i) (h:KSt D W S kb sb K W) (hkD : ¬D kb) (hrd:RowR Z0d D W A c l) (hl:(K.1.length:Int)+l.length≤1000000) (hl2:(K.2.length:Int)+l.length≤1000000) :
 Calls Tryz.prog 202 #[.pointer (some ⟨kb,0,none⟩),.slice A l.length c] W fun e W'=>e = .returned (.bool (Z1k K l).1)∧KSt D W S kb sb (Z1k K l).2 W'∧(Z1k K l).2.1.length≤K.1.length+l.length∧(Z1k K l).2.2.length≤K.2.length+l.length:=by
 have H0:=hid h;have HR:=hid hrd;have HKD:=hid hkD;have hlc:=hrd.cap;clear h hrd hkD;go_enter Tryz.func202,Tryz.ntmps202;go_wp2_with fail
 go_loopw [9] (fun s wr=>∃(i:Nat) (K':Kn),s = .int .i64 i∧i≤l.length∧Z1k K l=Z1k K' (l.drop i)∧KSt D W S kb sb K' wr∧K'.1.length≤K.1.length+i∧K'.2.length≤K.2.length+i) (fun s wr=>l.length - (intOf s).toNat)
 case atStart=>exact ⟨0,K,rfl,Nat.zero_le _,rfl,H0.out,Zi3 _,Zi3 _⟩
 case round=>
  obtain ⟨i,K',rfl,hi,hfk,hst,hk1,hk2⟩:=hrel;have HFK:=hid hfk;have HST:=hid hst;have HF:=hid (show Fr (fun j=>¬D j) W wr from by obtain ⟨_,_,_,_,_,_,h4⟩:=hst;exact h4);clear hfk hst;by_cases hlt:i<l.length
  · obtain ⟨y,hy⟩ : ∃y,y=l[i]:=⟨_,rfl⟩
    have hdr:=Zat hlt;rw [← hy] at hdr;obtain ⟨g,off,A1,c1,rfl,_,hg,q0,q1,q2,q3,q4,q5,hrow⟩:=Z4y (HR.out.fr HF.out (fun j hd hn=>hn hd)) hlt;rw [← hy] at q0 q1 q2 q3 q4 q5;have HDR:=hid hdr;(have b1:(0:Int)≤(i:Int):=by omega);(have b2:(i:Int)<(l.length:Int):=by omega);clear hy hrow hdr;by_cases h8:y.rel=8
    · have r1:(y.rel == 8)=true:=by simp [h8]
      (have r2:decide (y.rel=8)=true:=by simp [h8]);have HS:=hid (show Z1k K' (y :: l.drop (i+1))=Z1k K' (l.drop (i+1)) by rw [Z3a,if_pos (.inl h8)]);clear h8;(go_wp2_with fail);go_roundw
      case rel=>exact ⟨i+1,K',by go_num,by omega,by rw [HFK.out,HDR.out,HS.out],HST.out.below (by (repeat (first | exact Zi2 _ _ | refine Below.drew ?_ | refine Below.al ?_ _ | refine Below.sc ?_ _))),by omega,by omega⟩
      case measure=>simp [intOf]<;>omega
    (have r1:(y.rel == 8)=false:=by simp [h8]);(have r2:decide (y.rel=8)=false:=by simp [h8]);by_cases hv:y.var.toList = []
    · have v1:(y.var.toList == [])=true:=by simp [hv]
      (have v2:y.var.toList.isEmpty=true:=by simp [hv]);(have v3:decide (y.var.toList = [])=true:=by simp [hv]);have HS:=hid (show Z1k K' (y :: l.drop (i+1))=Z1k K' (l.drop (i+1)) by rw [Z3a,if_pos (.inr hv)]);clear h8 hv;(go_wp2_with fail);go_roundw
      case rel=>exact ⟨i+1,K',by go_num,by omega,by rw [HFK.out,HDR.out,HS.out],HST.out.below (by (repeat (first | exact Zi2 _ _ | refine Below.drew ?_ | refine Below.al ?_ _ | refine Below.sc ?_ _))),by omega,by omega⟩
      case measure=>simp [intOf]<;>omega
    (have v1:(y.var.toList == [])=false:=by simp [hv]);(have v2:y.var.toList.isEmpty=false:=by simp [hv]);(have v3:decide (y.var.toList = [])=false:=by simp [hv]);have hnot : ¬(y.rel=8∨y.var.toList = []):=fun h=>h.elim h8 hv;by_cases h1:y.rel=1
    · have s1:(y.rel == 1)=true:=by simp [h1]
      (have s2:decide (y.rel=1)=true:=by simp [h1]);have HS:=hid (show Z1k K' (y :: l.drop (i+1))=Z1k (metK K' y.var) (l.drop (i+1)) by rw [Z3a,if_neg hnot,if_pos h1]);clear h8 hv hnot h1;(go_wp2_with fail);refine (KSt.met y.var (HST.out.below (by (repeat (first | exact Zi2 _ _ | refine Below.drew ?_ | refine Below.al ?_ _ | refine Below.sc ?_ _)))) HKD.out (by omega) (by omega)).mono ?_;rintro e w5 ⟨rfl,hst5,hl5,hl6⟩;have HST5:=hid hst5;clear hst5 q0 q1 q2 q3 q4 q5;(go_wp2_with fail);go_roundw
      case rel=>exact ⟨i+1,metK K' y.var,by go_num,by omega,by rw [HFK.out,HDR.out,HS.out],HST5.out,by omega,by omega⟩
      case measure=>simp [intOf]<;>omega
    (have s1:(y.rel == 1)=false:=by simp [h1]);(have s2:decide (y.rel=1)=false:=by simp [h1]);cases hh:hasK K' y.var
    · have HS:=hid (show Z1k K' (y :: l.drop (i+1))=(false,K') by rw [Z3a,if_neg hnot,if_neg h1,hh];rfl)
      clear h8 hv hnot h1;(go_wp2_with fail);refine (KSt.has_ y.var (HST.out.below (by (repeat (first | exact Zi2 _ _ | refine Below.drew ?_ | refine Below.al ?_ _ | refine Below.sc ?_ _)))) (by omega)).mono ?_;rintro e w5 ⟨rfl,hb5⟩;rw [hh];have hb5':=Below.trans (show Below wr.heap.size wr _ from (by (repeat (first | exact Zi2 _ _ | refine Below.drew ?_ | refine Below.al ?_ _ | refine Below.sc ?_ _)))) (hb5.mono (by simp));have HST5:=hid (HST.out.below hb5');have HE:=hid (show Z1k K l=(false,K') by rw [HFK.out,HDR.out,HS.out]);clear hb5 hb5' hh q0 q1 q2 q3 q4 q5;(go_wp2_with fail);go_ret;rw [HE.out];exact ⟨rfl,HST5.out,by dsimp only;omega,by dsimp only;omega⟩
    · have HS:=hid (show Z1k K' (y :: l.drop (i+1))=Z1k K' (l.drop (i+1)) by rw [Z3a,if_neg hnot,if_neg h1,hh];rfl)
      clear h8 hv hnot h1;(go_wp2_with fail);refine (KSt.has_ y.var (HST.out.below (by (repeat (first | exact Zi2 _ _ | refine Below.drew ?_ | refine Below.al ?_ _ | refine Below.sc ?_ _)))) (by omega)).mono ?_;rintro e w5 ⟨rfl,hb5⟩;rw [hh];have hb5':=Below.trans (show Below wr.heap.size wr _ from (by (repeat (first | exact Zi2 _ _ | refine Below.drew ?_ | refine Below.al ?_ _ | refine Below.sc ?_ _)))) (hb5.mono (by simp));have HST5:=hid (HST.out.below hb5');clear hb5 hb5' hh q0 q1 q2 q3 q4 q5;(go_wp2_with fail);go_roundw
      case rel=>exact ⟨i+1,K',by go_num,by omega,by rw [HFK.out,HDR.out,HS.out],HST5.out,by omega,by omega⟩
      case measure=>simp [intOf]<;>omega
  · have hie:i=l.length:=by omega
    subst hie;(have hend:Z1k K l=(true,K'):=by rw [HFK.out,Zj8];rfl);have HE:=hid hend;clear hend;(go_wp2_with fail);go_ret;rw [HE.out];exact ⟨rfl,HST.out,hk1,hk2⟩
theorem KSt.fr_ {D:Nat→Prop} {W W1:World} {S:Nat→Option (List Name)} {kb sb:Nat} {K:Kn} (h:KSt D W S kb sb K W1):Fr (fun j=>¬D j) W W1:=by
 obtain ⟨_,_,_,_,_,_,h4⟩:=h;exact h4
theorem KSt.start {D:Nat→Prop} {W:World} {S:Nat→Option (List Name)} {σ:Nat→St} {kb sb:Nat} {K:Kn} {A:Option Addr} {c:Nat} (hN:Z1y D W S σ) (hK:KnS W S kb sb K A c) (hA:AIn A (fun j=>¬D j)):KSt D W S kb sb K W:=by
 have e:upd S sb (some K.1)=S:=Zhx _ _ _ hK.set;exact ⟨σ,A,c,by rw [e];exact hN,by rw [e];exact hK,hA,Fr.refl _ _⟩
theorem KSt.lt {D:Nat→Prop} {W W1:World} {S:Nat→Option (List Name)} {kb sb:Nat} {K:Kn} (h:KSt D W S kb sb K W1):kb<W1.heap.size:=by
 obtain ⟨_,_,_,_,h2,_,_⟩:=h;exact h2.blk.lt
theorem Zag {W:World} {e size n:Nat} {A:Option Addr} {c:Nat} {xs:List Value} (h:W.ownsRow 0 e size (.slice A n c) n xs):AIn A (· < W.heap.size):=by
 intro a ha;rcases h.2 with ⟨hv,_⟩ | ⟨g,cap,cur,hv,_,hg,_⟩
 · simp only [Value.slice.injEq] at hv;rw [hv.1] at ha;cases ha
 · simp only [Value.slice.injEq] at hv;rw [hv.1] at ha;cases ha
   exact Blk.lt (t:=e) (cs:=cur) hg
theorem KSt.prot {D:Nat→Prop} {W W1 W2:World} {S:Nat→Option (List Name)} {kb sb:Nat} {K:Kn} (h:KSt D W S kb sb K W1) (hb:Below W1.heap.size W1 W2) :
 KSt (fun k=>D k∨(W1.heap.size≤k∧k<W2.heap.size)) W2 S kb sb K W2:=by
 obtain ⟨σ',A',c',h1,h2,h3,_⟩:=h;refine ⟨σ',A',c',h1.protect hb,⟨h2.blk.new_ hb,Z01 h2.row hb,h2.set⟩,fun a ha hd=>?_,Fr.refl _ _⟩;rcases hd with hd | hd
 · exact h3 a ha hd
 · have:=Zag h2.row a ha;omega
theorem KSt.unprot {D D':Nat→Prop} {W W1 W2:World} {S:Nat→Option (List Name)} {kb sb:Nat} {K:Kn} (h:KSt D' W1 S kb sb K W2) (hF:Fr (fun j=>¬D j) W W1) (hD : ∀k,D k→D' k):KSt D W S kb sb K W2:=by
 obtain ⟨σ',A',c',h1,h2,h3,h4⟩:=h;exact ⟨σ',A',c',h1.weaken hD,h2,h3.mono (fun k hk hd=>hk (hD k hd)),hF.trans (h4.mono (fun k _ hk hd=>hk (hD k hd)))⟩
theorem KSt.prot0 {D:Nat→Prop} {W W1:World} {S:Nat→Option (List Name)} {kb sb:Nat} {K:Kn} (h:KSt D W S kb sb K W1):KSt D W1 S kb sb K W1:=by
 obtain ⟨σ',A',c',h1,h2,h3,_⟩:=h;exact ⟨σ',A',c',h1,h2,h3,Fr.refl _ _⟩
theorem KSt.join {D:Nat→Prop} {W W1 W2:World} {S:Nat→Option (List Name)} {kb sb:Nat} {K K':Kn} (h:KSt D W1 S kb sb K W2) (h0:KSt D W S kb sb K' W1):KSt D W S kb sb K W2:=by
 obtain ⟨σ',A',c',h1,h2,h3,h4⟩:=h;exact ⟨σ',A',c',h1,h2,h3,h0.fr_.trans h4⟩
theorem Zdf {D:Nat→Prop} {W:World} {S:Nat→Option (List Name)} {kb sb:Nat} {K:Kn} {A1 A2 A3:Option Addr} {c1 c2 c3:Nat} (x:Z0m) (h:KSt D W S kb sb K W) (hkD : ¬D kb) (h1:RowR Z0d D W A1 c1 x.attr) (h2:RowR Z0d D W A2 c2 x.value) (hl:(K.1.length:Int)+(1+x.attr.length+x.value.length)≤1000000) (hl2:(K.2.length:Int)+(1+x.attr.length+x.value.length)≤1000000) :
 Calls Tryz.prog 162 #[.pointer (some ⟨kb,0,none⟩),.agg #[.int .i64 x.kind,.bool x.goal,.string x.id,.slice A1 x.attr.length c1,.slice A2 x.value.length c2,.bool x.acc,.slice A3 x.conds.length c3]] W fun e W'=>e = .returned (.bool (oneK K x).1)∧KSt D W S kb sb (oneK K x).2 W'∧(oneK K x).2.1.length≤K.1.length+(1+x.attr.length+x.value.length)∧(oneK K x).2.2.length≤K.2.length+(1+x.attr.length+x.value.length):=by
 have H0:=hid h;have HKD:=hid hkD;have H1:=hid h1;have H2:=hid h2;have hl1c:=h1.cap;have hl2c:=h2.cap;clear h hkD h1 h2;by_cases hg:x.goal=true
 · have g1:=hg
   have hgk:(if x.goal=true then metK K x.id else K)=metK K x.id:=if_pos hg;have H_g:=hid g1;have HG:=hid hgk;clear g1 hg hgk;go_enter Tryz.func162,Tryz.ntmps162;(go_upto_region 1 with fail);obtain ⟨W1,hW1⟩ : ∃W1,W1=W.alloc (.cells #[.int .i64 x.kind,.bool x.goal,.string x.id,.slice A1 x.attr.length c1,.slice A2 x.value.length c2,.bool x.acc,.slice A3 x.conds.length c3] 62):=⟨_,rfl⟩;rw [← hW1];(have hbk:Blk W1 W.heap.size 62 #[.int .i64 x.kind,.bool x.goal,.string x.id,.slice A1 x.attr.length c1,.slice A2 x.value.length c2,.bool x.acc,.slice A3 x.conds.length c3]:=by rw [hW1];exact Blk.new _ _ _);(have hB:Below W.heap.size W W1:=by rw [hW1];exact (Zi2 _ _).alloc (Zi3 _) _);(have hsz:W1.heap.size=W.heap.size+1:=by rw [hW1,Zid]);have hst1:=H0.out.prot hB;have hbD:(fun k=>D k∨(W.heap.size≤k∧k<W1.heap.size)) W.heap.size:=.inr ⟨Zi3 _,by omega⟩;have hkD1 : ¬(fun k=>D k∨(W.heap.size≤k∧k<W1.heap.size)) kb:=fun hd=>hd.elim HKD.out (fun hd=>by have:=H0.out.lt;omega);obtain ⟨D1,hD1⟩ : ∃D1,D1=(fun k=>D k∨(W.heap.size≤k∧k<W1.heap.size)):=⟨_,rfl⟩;rw [← hD1] at hst1 hbD hkD1;have HR1:=hid (show RowR Z0d D1 W1 A1 c1 x.attr from (H1.out.new_ hB).weaken (fun k hk=>by rw [hD1];exact .inl hk));have HR2:=hid (show RowR Z0d D1 W1 A2 c2 x.value from (H2.out.new_ hB).weaken (fun k hk=>by rw [hD1];exact .inl hk));have HDD:=hid (show ∀k,D k→D1 k from fun k hk=>by rw [hD1];exact .inl hk);have HFB:=hid (show Fr (fun j=>¬D j) W W1 from Fr.of_new hB);have HST:=hid hst1;have HBD:=hid hbD;have HK1:=hid hkD1;have HBK:=hid hbk;have hlo:=hbk.lt;have e1:W1.cell? ⟨W.heap.size,1,none⟩=some (.bool x.goal):=(hbk.cell 1).trans rfl;have e2:W1.cell? ⟨W.heap.size,2,none⟩=some (.string x.id):=(hbk.cell 2).trans rfl;have e3:W1.cell? ⟨W.heap.size,3,none⟩=some (.slice A1 x.attr.length c1):=(hbk.cell 3).trans rfl;have e4:W1.cell? ⟨W.heap.size,4,none⟩=some (.slice A2 x.value.length c2):=(hbk.cell 4).trans rfl;clear hW1 hbk hB hsz hst1 hbD hkD1 hD1;have g1:=H_g.out;(go_wp2_with fail);refine (KSt.met x.id HST.out HK1.out (by omega) (by omega)).mono ?_;rintro e w4 ⟨rfl,hst4,hl4,hl5⟩;have HST4:=hid hst4;clear hst4 e1 e2 e3 e4 hlo;have hbk:=HBK.out.fr (HST4.out).fr_ (fun hn=>hn HBD.out);have hlo:=hbk.lt;have hzw:W.heap.size≤w4.heap.size:=Zip HFB.out.size (HST4.out).fr_.size;have e2:w4.cell? ⟨W.heap.size,2,none⟩=some (.string x.id):=(hbk.cell 2).trans rfl;have e3:w4.cell? ⟨W.heap.size,3,none⟩=some (.slice A1 x.attr.length c1):=(hbk.cell 3).trans rfl
   have e4:w4.cell? ⟨W.heap.size,4,none⟩=some (.slice A2 x.value.length c2):=(hbk.cell 4).trans rfl;clear hbk;(go_wp2_with fail);cases hh:hasK (metK K x.id) x.id
   · skip
     have hhx:=KSt.has_ x.id (HST4.out) (by omega);rw [hh] at hhx;refine hhx.mono ?_;rintro e w5 ⟨rfl,hb5⟩;have HST5:=hid ((HST4.out).below (hb5));clear hhx hb5;have HA:=hid (show oneK K x=(false,metK K x.id) by unfold oneK;simp only [HG.out];simp [hh]);clear hh;(go_wp2_with fail);go_ret;rw [HA.out];exact ⟨rfl,(HST5.out).unprot HFB.out HDD.out,by dsimp only;omega,by dsimp only;omega⟩
   · skip
     have hhx:=KSt.has_ x.id (HST4.out) (by omega);rw [hh] at hhx;refine hhx.mono ?_;rintro e w5 ⟨rfl,hb5⟩;have HST5:=hid ((HST4.out).below (hb5));clear hhx hb5;have hbk:=HBK.out.fr (HST5.out).fr_ (fun hn=>hn HBD.out);have hlo:=hbk.lt;have hzw:W.heap.size≤w5.heap.size:=Zip HFB.out.size (HST5.out).fr_.size;have e2:w5.cell? ⟨W.heap.size,2,none⟩=some (.string x.id):=(hbk.cell 2).trans rfl;have e3:w5.cell? ⟨W.heap.size,3,none⟩=some (.slice A1 x.attr.length c1):=(hbk.cell 3).trans rfl;have e4:w5.cell? ⟨W.heap.size,4,none⟩=some (.slice A2 x.value.length c2):=(hbk.cell 4).trans rfl;clear hbk;obtain ⟨b2,k2,hf⟩ : ∃b k,Z1k (metK K x.id) x.attr=(b,k):=⟨_,_,rfl⟩;have hfa:=Z51 x.attr (A:=A1) (c:=c1) (HST5.out.prot0) HK1.out (HR1.out.fr HST5.out.fr_ (fun k hk hn=>hn hk)) (by omega) (by omega);rw [hf] at hfa;have HFA:=hid hfa;clear hfa;cases b2
     · skip
       have HA:=hid (show oneK K x=(false,k2) by unfold oneK;simp only [HG.out];simp [hh,hf]);clear hh hf;(go_wp2_with fail);refine HFA.out.mono ?_;rintro e w6 ⟨rfl,hst6,hl6,hl7⟩;have HST6:=hid (hst6.join HST5.out);clear hst6;(go_wp2_with fail);go_ret;rw [HA.out];exact ⟨rfl,(HST6.out).unprot HFB.out HDD.out,by dsimp only;omega,by dsimp only;omega⟩
     · skip
       obtain ⟨b3,k3,hf3⟩ : ∃b k,Z1k k2 x.value=(b,k):=⟨_,_,rfl⟩;have HA:=hid (show oneK K x=(b3,k3) by unfold oneK;simp only [HG.out];simp [hh,hf,hf3]);clear hh hf;(go_wp2_with fail);refine HFA.out.mono ?_;rintro e w6 ⟨rfl,hst6,hl6,hl7⟩;have HST6:=hid (hst6.join HST5.out);clear hst6;have hbk:=HBK.out.fr (HST6.out).fr_ (fun hn=>hn HBD.out);have hlo:=hbk.lt;have hzw:W.heap.size≤w6.heap.size:=Zip HFB.out.size (HST6.out).fr_.size;have e2:w6.cell? ⟨W.heap.size,2,none⟩=some (.string x.id):=(hbk.cell 2).trans rfl;have e3:w6.cell? ⟨W.heap.size,3,none⟩=some (.slice A1 x.attr.length c1):=(hbk.cell 3).trans rfl;have e4:w6.cell? ⟨W.heap.size,4,none⟩=some (.slice A2 x.value.length c2):=(hbk.cell 4).trans rfl;clear hbk;have hfa:=Z51 x.value (A:=A2) (c:=c2) (HST6.out.prot0) HK1.out (HR2.out.fr HST6.out.fr_ (fun k hk hn=>hn hk)) (by omega) (by omega);rw [hf3] at hfa;have HFA:=hid hfa;clear hfa hf3;(go_wp2_with fail);refine HFA.out.mono ?_;rintro e w7 ⟨rfl,hst7,hl8,hl9⟩;have HST7:=hid (hst7.join HST6.out);clear hst7;(go_wp2_with fail);go_ret;rw [HA.out];exact ⟨rfl,(HST7.out).unprot HFB.out HDD.out,by dsimp only;omega,by dsimp only;omega⟩
 · have g1:x.goal=false:=by simpa using hg
   have hgk:(if x.goal=true then metK K x.id else K)=K:=if_neg hg;have H_g:=hid g1;have HG:=hid hgk;clear g1 hg hgk;go_enter Tryz.func162,Tryz.ntmps162;(go_upto_region 1 with fail);obtain ⟨W1,hW1⟩ : ∃W1,W1=W.alloc (.cells #[.int .i64 x.kind,.bool x.goal,.string x.id,.slice A1 x.attr.length c1,.slice A2 x.value.length c2,.bool x.acc,.slice A3 x.conds.length c3] 62):=⟨_,rfl⟩;rw [← hW1];(have hbk:Blk W1 W.heap.size 62 #[.int .i64 x.kind,.bool x.goal,.string x.id,.slice A1 x.attr.length c1,.slice A2 x.value.length c2,.bool x.acc,.slice A3 x.conds.length c3]:=by rw [hW1];exact Blk.new _ _ _);(have hB:Below W.heap.size W W1:=by rw [hW1];exact (Zi2 _ _).alloc (Zi3 _) _);(have hsz:W1.heap.size=W.heap.size+1:=by rw [hW1,Zid]);have hst1:=H0.out.prot hB;have hbD:(fun k=>D k∨(W.heap.size≤k∧k<W1.heap.size)) W.heap.size:=.inr ⟨Zi3 _,by omega⟩;have hkD1 : ¬(fun k=>D k∨(W.heap.size≤k∧k<W1.heap.size)) kb:=fun hd=>hd.elim HKD.out (fun hd=>by have:=H0.out.lt;omega);obtain ⟨D1,hD1⟩ : ∃D1,D1=(fun k=>D k∨(W.heap.size≤k∧k<W1.heap.size)):=⟨_,rfl⟩;rw [← hD1] at hst1 hbD hkD1;have HR1:=hid (show RowR Z0d D1 W1 A1 c1 x.attr from (H1.out.new_ hB).weaken (fun k hk=>by rw [hD1];exact .inl hk));have HR2:=hid (show RowR Z0d D1 W1 A2 c2 x.value from (H2.out.new_ hB).weaken (fun k hk=>by rw [hD1];exact .inl hk));have HDD:=hid (show ∀k,D k→D1 k from fun k hk=>by rw [hD1];exact .inl hk);have HFB:=hid (show Fr (fun j=>¬D j) W W1 from Fr.of_new hB);have HST:=hid hst1;have HBD:=hid hbD;have HK1:=hid hkD1;have HBK:=hid hbk;have hlo:=hbk.lt;have e1:W1.cell? ⟨W.heap.size,1,none⟩=some (.bool x.goal):=(hbk.cell 1).trans rfl;have e2:W1.cell? ⟨W.heap.size,2,none⟩=some (.string x.id):=(hbk.cell 2).trans rfl;have e3:W1.cell? ⟨W.heap.size,3,none⟩=some (.slice A1 x.attr.length c1):=(hbk.cell 3).trans rfl;have e4:W1.cell? ⟨W.heap.size,4,none⟩=some (.slice A2 x.value.length c2):=(hbk.cell 4).trans rfl;clear hW1 hbk hB hsz hst1 hbD hkD1 hD1;have g1:=H_g.out;(go_wp2_with fail);cases hh:hasK (K) x.id
   · skip
     have hhx:=KSt.has_ x.id (HST.out) (by omega);rw [hh] at hhx;refine hhx.mono ?_;rintro e w5 ⟨rfl,hb5⟩;have HST5:=hid ((HST.out).below (hb5));clear hhx hb5;have HA:=hid (show oneK K x=(false,K) by unfold oneK;simp only [HG.out];simp [hh]);clear hh;(go_wp2_with fail);go_ret;rw [HA.out];exact ⟨rfl,(HST5.out).unprot HFB.out HDD.out,by dsimp only;omega,by dsimp only;omega⟩
   · skip
     have hhx:=KSt.has_ x.id (HST.out) (by omega);rw [hh] at hhx;refine hhx.mono ?_;rintro e w5 ⟨rfl,hb5⟩;have HST5:=hid ((HST.out).below (hb5));clear hhx hb5;have hbk:=HBK.out.fr (HST5.out).fr_ (fun hn=>hn HBD.out);have hlo:=hbk.lt;have hzw:W.heap.size≤w5.heap.size:=Zip HFB.out.size (HST5.out).fr_.size;have e2:w5.cell? ⟨W.heap.size,2,none⟩=some (.string x.id):=(hbk.cell 2).trans rfl;have e3:w5.cell? ⟨W.heap.size,3,none⟩=some (.slice A1 x.attr.length c1):=(hbk.cell 3).trans rfl;have e4:w5.cell? ⟨W.heap.size,4,none⟩=some (.slice A2 x.value.length c2):=(hbk.cell 4).trans rfl;clear hbk;obtain ⟨b2,k2,hf⟩ : ∃b k,Z1k (K) x.attr=(b,k):=⟨_,_,rfl⟩;have hfa:=Z51 x.attr (A:=A1) (c:=c1) (HST5.out.prot0) HK1.out (HR1.out.fr HST5.out.fr_ (fun k hk hn=>hn hk)) (by omega) (by omega);rw [hf] at hfa;have HFA:=hid hfa;clear hfa;cases b2
     · skip
       have HA:=hid (show oneK K x=(false,k2) by unfold oneK;simp only [HG.out];simp [hh,hf]);clear hh hf;(go_wp2_with fail);refine HFA.out.mono ?_;rintro e w6 ⟨rfl,hst6,hl6,hl7⟩;have HST6:=hid (hst6.join HST5.out);clear hst6;(go_wp2_with fail);go_ret;rw [HA.out];exact ⟨rfl,(HST6.out).unprot HFB.out HDD.out,by dsimp only;omega,by dsimp only;omega⟩
     · skip
       obtain ⟨b3,k3,hf3⟩ : ∃b k,Z1k k2 x.value=(b,k):=⟨_,_,rfl⟩;have HA:=hid (show oneK K x=(b3,k3) by unfold oneK;simp only [HG.out];simp [hh,hf,hf3]);clear hh hf;(go_wp2_with fail);refine HFA.out.mono ?_;rintro e w6 ⟨rfl,hst6,hl6,hl7⟩;have HST6:=hid (hst6.join HST5.out);clear hst6;have hbk:=HBK.out.fr (HST6.out).fr_ (fun hn=>hn HBD.out);have hlo:=hbk.lt;have hzw:W.heap.size≤w6.heap.size:=Zip HFB.out.size (HST6.out).fr_.size;have e2:w6.cell? ⟨W.heap.size,2,none⟩=some (.string x.id):=(hbk.cell 2).trans rfl;have e3:w6.cell? ⟨W.heap.size,3,none⟩=some (.slice A1 x.attr.length c1):=(hbk.cell 3).trans rfl;have e4:w6.cell? ⟨W.heap.size,4,none⟩=some (.slice A2 x.value.length c2):=(hbk.cell 4).trans rfl;clear hbk;have hfa:=Z51 x.value (A:=A2) (c:=c2) (HST6.out.prot0) HK1.out (HR2.out.fr HST6.out.fr_ (fun k hk hn=>hn hk)) (by omega) (by omega);rw [hf3] at hfa;have HFA:=hid hfa;clear hfa hf3;(go_wp2_with fail);refine HFA.out.mono ?_;rintro e w7 ⟨rfl,hst7,hl8,hl9⟩;have HST7:=hid (hst7.join HST6.out);clear hst7;(go_wp2_with fail);go_ret;rw [HA.out];exact ⟨rfl,(HST7.out).unprot HFB.out HDD.out,by dsimp only;omega,by dsimp only;omega⟩
theorem Z5l (s:Sym) (w:World):Calls Tryz.prog 229 #[.agg #[.int .i64 s.kind,.string s.text,.int .i64 s.n]] w fun e w'=>e = .returned (.bool (Z6l s))∧Below w.heap.size w w':=by
 have hq : ∀W:World,(binOp .eql 23 (.agg #[.int .i64 s.kind,.string s.text,.int .i64 s.n]) (.agg #[.int .i64 0,.string ⟨#[]⟩,.int .i64 0])).run Tryz.prog W = .ok (.bool (Z6l s)) W:=fun W=>Z2y s zS W;go_enter Tryz.func229,Tryz.ntmps229;(go_wp2_with fail);go_ret;exact ⟨rfl,(Zi2 _ _).alloc (Zi3 _) _⟩
theorem Zfx (k:Int) (w:World):Calls Tryz.prog 196 #[.int .i64 k] w fun e w'=>e = .returned (.bool (Z94 k))∧w=w':=by
 have HV:=hid (show Z94 k=(k == 8 || k == 9 || k == 10) from rfl);go_enter Tryz.func196,Tryz.ntmps196;go_wp2_with fail
 all_goals
  go_ret;refine ⟨?_,rfl⟩;rw [HV.out];refine Z0x ?_;simp_all
theorem Z2q (s:Sym) (w:World):Calls Tryz.prog 230 #[.agg #[.int .i64 s.kind,.string s.text,.int .i64 s.n]] w fun e w'=>e = .returned (.bool (Z3p s))∧Below w.heap.size w w':=by
 obtain ⟨r,hr⟩ : ∃r,r=Z3p s:=⟨_,rfl⟩;rw [← hr];have HR:=hid hr;clear hr;have HB:=hid ((Zi2 w.heap.size w).alloc (Zi3 _) (.cells #[.int .i64 s.kind,.string s.text,.int .i64 s.n] 23));go_enter Tryz.func230,Tryz.ntmps230;obtain ⟨W1,hW1⟩ : ∃W1,W1=w.alloc (.cells #[.int .i64 s.kind,.string s.text,.int .i64 s.n] 23):=⟨_,rfl⟩
 go_wp2_with (first
  | (go_at_call 242;refine (Zgc s _).mono ?_;rintro e w9 ⟨rfl,hb9⟩;have HB:=hid (HB.out.trans (hb9.mono HB.out.size));clear hb9))
 all_goals
  go_ret;refine ⟨?_,by (first | exact HB.out | (exact (Zi2 _ _).alloc (Zi3 _) _) | (simpa using HB.out))⟩;rw [HR.out];refine Z0x ?_
  first | (simp_all [Z3p];done) | (simp_all [Z3p];rfl)
theorem Zau (a:Z3t) (w:World):Calls Tryz.prog 197 #[.agg #[.string a.var,.int .i64 a.sym.kind,.string a.sym.text,.int .i64 a.sym.n]] w fun e w'=>e = .returned (.bool (Z5r a))∧Below w.heap.size w w':=by
 obtain ⟨r,hr⟩ : ∃r,r=Z5r a:=⟨_,rfl⟩;rw [← hr];have HR:=hid hr;clear hr;have HB:=hid ((Zi2 w.heap.size w).alloc (Zi3 _) (.cells #[.string a.var,.int .i64 a.sym.kind,.string a.sym.text,.int .i64 a.sym.n] 76));go_enter Tryz.func197,Tryz.ntmps197;obtain ⟨W1,hW1⟩ : ∃W1,W1=w.alloc (.cells #[.string a.var,.int .i64 a.sym.kind,.string a.sym.text,.int .i64 a.sym.n] 76):=⟨_,rfl⟩
 go_wp2_with (first
  | (go_at_call 229;refine (Z5l a.sym _).mono ?_;rintro e w9 ⟨rfl,hb9⟩;have HB:=hid (HB.out.trans (hb9.mono HB.out.size));clear hb9))
 all_goals
  go_ret;refine ⟨?_,by (first | exact HB.out | (exact (Zi2 _ _).alloc (Zi3 _) _) | (simpa using HB.out))⟩;rw [HR.out];refine Z0x ?_
  first | (simp_all [Z5r];done) | (simp_all [Z5r];rfl)
theorem Zbd (a:Z3t) (w:World):Calls Tryz.prog 231 #[.agg #[.string a.var,.int .i64 a.sym.kind,.string a.sym.text,.int .i64 a.sym.n]] w fun e w'=>e = .returned (.bool (Z5b a))∧Below w.heap.size w w':=by
 obtain ⟨r,hr⟩ : ∃r,r=Z5b a:=⟨_,rfl⟩;rw [← hr];have HR:=hid hr;clear hr;have HB:=hid ((Zi2 w.heap.size w).alloc (Zi3 _) (.cells #[.string a.var,.int .i64 a.sym.kind,.string a.sym.text,.int .i64 a.sym.n] 76));go_enter Tryz.func231,Tryz.ntmps231;obtain ⟨W1,hW1⟩ : ∃W1,W1=w.alloc (.cells #[.string a.var,.int .i64 a.sym.kind,.string a.sym.text,.int .i64 a.sym.n] 76):=⟨_,rfl⟩
 go_wp2_with (first
  | fail)
 all_goals
  go_ret;refine ⟨?_,by (first | exact HB.out | (exact (Zi2 _ _).alloc (Zi3 _) _) | (simpa using HB.out))⟩;rw [HR.out];refine Z0x ?_
  first | (simp_all [Z5b];done) | (simp_all [Z5b];rfl)
theorem Z5z (a:Z3t) (w:World):Calls Tryz.prog 194 #[.agg #[.string a.var,.int .i64 a.sym.kind,.string a.sym.text,.int .i64 a.sym.n]] w fun e w'=>e = .returned (.bool (Z37 a))∧Below w.heap.size w w':=by
 obtain ⟨r,hr⟩ : ∃r,r=Z37 a:=⟨_,rfl⟩;rw [← hr];have HR:=hid hr;clear hr;have HB:=hid ((Zi2 w.heap.size w).alloc (Zi3 _) (.cells #[.string a.var,.int .i64 a.sym.kind,.string a.sym.text,.int .i64 a.sym.n] 76));go_enter Tryz.func194,Tryz.ntmps194;obtain ⟨W1,hW1⟩ : ∃W1,W1=w.alloc (.cells #[.string a.var,.int .i64 a.sym.kind,.string a.sym.text,.int .i64 a.sym.n] 76):=⟨_,rfl⟩
 go_wp2_with (first
  | (go_at_call 229;refine (Z5l a.sym _).mono ?_;rintro e w9 ⟨rfl,hb9⟩;have HB:=hid (HB.out.trans (hb9.mono HB.out.size));clear hb9)
  | (go_at_call 230;refine (Z2q a.sym _).mono ?_;rintro e w9 ⟨rfl,hb9⟩;have HB:=hid (HB.out.trans (hb9.mono HB.out.size));clear hb9)
  | (go_at_call 154;refine (Z2s a.var _).mono ?_;rintro e w9 ⟨rfl,rfl⟩))
 all_goals
  go_ret;refine ⟨?_,by (first | exact HB.out | (exact (Zi2 _ _).alloc (Zi3 _) _) | (simpa using HB.out))⟩;rw [HR.out];refine Z0x ?_
  first | (simp_all [Z37];done) | (simp_all [Z37];rfl)
theorem Zha (t:Zcg) (w:World):Calls Tryz.prog 195 #[.agg #[.int .i64 t.op,.string t.a.var,.int .i64 t.a.sym.kind,.string t.a.sym.text,.int .i64 t.a.sym.n,.string t.b.var,.int .i64 t.b.sym.kind,.string t.b.sym.text,.int .i64 t.b.sym.n]] w fun e w'=>e = .returned (.bool (Z3k t))∧Below w.heap.size w w':=by
 by_cases c0:t.op<0;(have t0:decide (t.op<0)=true:=by simp [*]);have HR:=hid (show Z3k t=false by simp [Z3k, *]);clear c0;rotate_left 1;by_cases c1:3<t.op;(have t0:decide (t.op<0)=false:=by simp;omega);(have t1:decide (3<t.op)=true:=by simp [*]);have HR:=hid (show Z3k t=false by simp [Z3k, *]);clear c0 c1;rotate_left 1;by_cases c2:Z37 t.a=false;(have t0:decide (t.op<0)=false:=by simp;omega);(have t1:decide (3<t.op)=false:=by simp;omega);have t2:=c2;have HR:=hid (show Z3k t=false by simp [Z3k, *]);clear c0 c1 c2;rotate_left 1;by_cases c3:t.op=0;(have t0:decide (t.op<0)=false:=by simp;omega);(have t1:decide (3<t.op)=false:=by simp;omega);(have t2:Z37 t.a=true:=by simpa using c2);(have t3:decide (t.op=0)=true:=by simp [*]);(have t3b:(t.op == 0)=true:=by simp [*]);have HR:=hid (show Z3k t=Z5r t.b by simp [Z3k, *]);clear c0 c1 c2 c3;rotate_left 1;by_cases c4:Z37 t.b=false;(have t0:decide (t.op<0)=false:=by simp;omega);(have t1:decide (3<t.op)=false:=by simp;omega);(have t2:Z37 t.a=true:=by simpa using c2);(have t3:decide (t.op=0)=false:=by simp [*]);(have t3b:(t.op == 0)=false:=by simp [*]);have t4:=c4;have HR:=hid (show Z3k t=false by simp [Z3k, *]);clear c0 c1 c2 c3 c4;rotate_left 1;by_cases c5:Z5b t.a=true;(have t0:decide (t.op<0)=false:=by simp;omega);(have t1:decide (3<t.op)=false:=by simp;omega);have t2:Z37 t.a=true:=by simpa using c2
 (have t3:decide (t.op=0)=false:=by simp [*]);(have t3b:(t.op == 0)=false:=by simp [*]);(have t4:Z37 t.b=true:=by simpa using c4);have t5:=c5;have HR:=hid (show Z3k t=false by simp [Z3k, *]);clear c0 c1 c2 c3 c4 c5;rotate_left 1;(have t0:decide (t.op<0)=false:=by simp;omega);(have t1:decide (3<t.op)=false:=by simp;omega);(have t2:Z37 t.a=true:=by simpa using c2);(have t3:decide (t.op=0)=false:=by simp [*]);(have t3b:(t.op == 0)=false:=by simp [*]);(have t4:Z37 t.b=true:=by simpa using c4);(have t5:Z5b t.a=false:=by simpa using c5);have HR:=hid (show Z3k t=(!Z5b t.b) by simp [Z3k, *]);clear c0 c1 c2 c3 c4 c5
 all_goals
  go_enter Tryz.func195,Tryz.ntmps195;(go_upto_region 1 with fail);obtain ⟨W1,hW1⟩ : ∃W1,W1=w.alloc (.cells #[.int .i64 t.op,.string t.a.var,.int .i64 t.a.sym.kind,.string t.a.sym.text,.int .i64 t.a.sym.n,.string t.b.var,.int .i64 t.b.sym.kind,.string t.b.sym.text,.int .i64 t.b.sym.n] 78):=⟨_,rfl⟩;rw [← hW1];(have hBk:Blk W1 w.heap.size 78 #[.int .i64 t.op,.string t.a.var,.int .i64 t.a.sym.kind,.string t.a.sym.text,.int .i64 t.a.sym.n,.string t.b.var,.int .i64 t.b.sym.kind,.string t.b.sym.text,.int .i64 t.b.sym.n]:=by rw [hW1];exact Blk.new _ _ _);have HB:=hid (show Below w.heap.size w W1 by rw [hW1];exact (Zi2 _ _).alloc (Zi3 _) _);have e0:W1.cell? ⟨w.heap.size,0,none⟩=some (.int .i64 t.op):=(hBk.cell 0).trans rfl;have e1:W1.cell? ⟨w.heap.size,1,none⟩=some (.string t.a.var):=(hBk.cell 1).trans rfl;have e2:W1.cell? ⟨w.heap.size,2,none⟩=some (.int .i64 t.a.sym.kind):=(hBk.cell 2).trans rfl;have e3:W1.cell? ⟨w.heap.size,3,none⟩=some (.string t.a.sym.text):=(hBk.cell 3).trans rfl;have e4:W1.cell? ⟨w.heap.size,4,none⟩=some (.int .i64 t.a.sym.n):=(hBk.cell 4).trans rfl;have e5:W1.cell? ⟨w.heap.size,5,none⟩=some (.string t.b.var):=(hBk.cell 5).trans rfl;have e6:W1.cell? ⟨w.heap.size,6,none⟩=some (.int .i64 t.b.sym.kind):=(hBk.cell 6).trans rfl;have e7:W1.cell? ⟨w.heap.size,7,none⟩=some (.string t.b.sym.text):=(hBk.cell 7).trans rfl;have e8:W1.cell? ⟨w.heap.size,8,none⟩=some (.int .i64 t.b.sym.n):=(hBk.cell 8).trans rfl;have hbl:=hBk.lt;clear hW1 hBk
  go_wp2_with (first
   | (go_at_call 197;refine (Zau t.b _).mono ?_;rintro e w9 ⟨rfl,hb9⟩;have HB:=hid (HB.out.trans (hb9.mono HB.out.size));replace e0:=(hb9.cell (p:=⟨w.heap.size,0,none⟩) hbl).trans e0;replace e1:=(hb9.cell (p:=⟨w.heap.size,1,none⟩) hbl).trans e1;replace e2:=(hb9.cell (p:=⟨w.heap.size,2,none⟩) hbl).trans e2;replace e3:=(hb9.cell (p:=⟨w.heap.size,3,none⟩) hbl).trans e3;replace e4:=(hb9.cell (p:=⟨w.heap.size,4,none⟩) hbl).trans e4;replace e5:=(hb9.cell (p:=⟨w.heap.size,5,none⟩) hbl).trans e5;replace e6:=(hb9.cell (p:=⟨w.heap.size,6,none⟩) hbl).trans e6;replace e7:=(hb9.cell (p:=⟨w.heap.size,7,none⟩) hbl).trans e7;replace e8:=(hb9.cell (p:=⟨w.heap.size,8,none⟩) hbl).trans e8;replace hbl:=Zia hbl hb9.size;clear hb9)
   | (go_at_call 194;(first | (with_reducible refine (Z5z t.a _).mono ?_) | (with_reducible refine (Z5z t.b _).mono ?_));rintro e w9 ⟨rfl,hb9⟩;have HB:=hid (HB.out.trans (hb9.mono HB.out.size));replace e0:=(hb9.cell (p:=⟨w.heap.size,0,none⟩) hbl).trans e0;replace e1:=(hb9.cell (p:=⟨w.heap.size,1,none⟩) hbl).trans e1;replace e2:=(hb9.cell (p:=⟨w.heap.size,2,none⟩) hbl).trans e2;replace e3:=(hb9.cell (p:=⟨w.heap.size,3,none⟩) hbl).trans e3;replace e4:=(hb9.cell (p:=⟨w.heap.size,4,none⟩) hbl).trans e4;replace e5:=(hb9.cell (p:=⟨w.heap.size,5,none⟩) hbl).trans e5;replace e6:=(hb9.cell (p:=⟨w.heap.size,6,none⟩) hbl).trans e6;replace e7:=(hb9.cell (p:=⟨w.heap.size,7,none⟩) hbl).trans e7;replace e8:=(hb9.cell (p:=⟨w.heap.size,8,none⟩) hbl).trans e8;replace hbl:=Zia hbl hb9.size;clear hb9)
   | (go_at_call 231;(first | (with_reducible refine (Zbd t.a _).mono ?_) | (with_reducible refine (Zbd t.b _).mono ?_));rintro e w9 ⟨rfl,hb9⟩;have HB:=hid (HB.out.trans (hb9.mono HB.out.size));replace e0:=(hb9.cell (p:=⟨w.heap.size,0,none⟩) hbl).trans e0;replace e1:=(hb9.cell (p:=⟨w.heap.size,1,none⟩) hbl).trans e1;replace e2:=(hb9.cell (p:=⟨w.heap.size,2,none⟩) hbl).trans e2;replace e3:=(hb9.cell (p:=⟨w.heap.size,3,none⟩) hbl).trans e3;replace e4:=(hb9.cell (p:=⟨w.heap.size,4,none⟩) hbl).trans e4;replace e5:=(hb9.cell (p:=⟨w.heap.size,5,none⟩) hbl).trans e5;replace e6:=(hb9.cell (p:=⟨w.heap.size,6,none⟩) hbl).trans e6;replace e7:=(hb9.cell (p:=⟨w.heap.size,7,none⟩) hbl).trans e7;replace e8:=(hb9.cell (p:=⟨w.heap.size,8,none⟩) hbl).trans e8;replace hbl:=Zia hbl hb9.size;clear hb9))
  go_ret;exact ⟨by rw [HR.out]<;>rfl,by (first | exact HB.out | (exact (Zi2 _ _).alloc (Zi3 _) _) | (simpa using HB.out))⟩
end
end Go.Proofs.YtldndkngpdfpfaaGreat
