/-
  Texts put together: PutLword, MiscLword, NewLword, LrnDg, LrnNm, LrnTh, LevTy, LrnRsP, LrnLv, RangeM, LeafPgS, FindPgS, OpsPgS.
-/
import Derived.Test.YtldndkngpdfpfaaGreatPFd
namespace Go.Proofs.YtldndkngpdfpfaaGreat
open Lib (hid)
set_option maxRecDepth 100000
set_option maxHeartbeats 32000000
section
open Go.RowKit
def Z5b (w:World) (b:Nat) (sn:Bool) (A:Option Addr) (l:List Z1g) (x:Z1g) (e:Ending) (w':World):Prop:=
 e = .returned (.bool (!has Z0w l x))∧∃sn' A' c',Z2r w' b sn' A' c' (put Z0w l x)∧Fr (Z0y b sn A) w w'∧Z1p w sn A sn' A'
theorem Z8r (b c:Nat) (sn:Bool) (A:Option Addr) (l:List Z1g) (x:Z1g) (w:World) (hS:Z2r w b sn A c l) (hs:Srt Z0w l) (hl:(l.length:Int)≤100000000) (hh:has Z0w l x=true) :
 Calls Tryz.prog 80 #[.pointer (some ⟨b,0,none⟩),.string x] w (Z5b w b sn A l x):=by
 have HS:=hid hS;have HO:=hid hs;clear hS hs;go_enter Tryz.func80,Tryz.ntmps80;(go_wp2_with fail);refine (Z7i b c sn A l x _ (HS.out.new_ (Znz _ _)) HO.out (by omega)).mono ?_;rintro e w1 ⟨rfl,hb1⟩;(go_wp2_with fail);go_ret;refine ⟨by rw [hh];rfl,sn,A,c,?_,Fr.of_new ((Znz _ _).trans (hb1.mono (by simp))),.inl ⟨rfl,rfl⟩⟩;rw [Z3m hh];exact HS.out.new_ ((Znz _ _).trans (hb1.mono (by simp)))
theorem Zag (b c:Nat) (sn:Bool) (A:Option Addr) (l:List Z1g) (x:Z1g) (w:World) (hS:Z2r w b sn A c l) (hs:Srt Z0w l) (hl:(l.length:Int)≤100000000) (hh:has Z0w l x=false) :
 Calls Tryz.prog 80 #[.pointer (some ⟨b,0,none⟩),.string x] w (Z5b w b sn A l x):=by
 obtain ⟨i0,hi,hz0,hz1,hz2⟩:=info_parts Z9e;have HS:=hid hS;have HO:=hid hs;have hb:=hS.lt;clear hS hs;have hrk:=Z4z (cmp:=Z0w) l x;go_enter Tryz.func80,Tryz.ntmps80;(go_wp2_with fail);have hSa:=HS.out.new_ (Znz w.heap.size w);have HSa:=hid hSa;clear hSa;refine (Z7i b c sn A l x _ HSa.out HO.out (by omega)).mono ?_;rintro e w1 ⟨rfl,hb1⟩;have HS1:=hid (HSa.out.new_ hb1);(have hsz1:w.heap.size≤w1.heap.size:=by have:=hb1.size;(try simp at this);omega);have HB1:=hid hb1;clear hb1;(go_wp2_with fail);refine (Zia b c sn A l _ HS1.out (by omega)).mono ?_;rintro e w2 ⟨rfl,A1,c1,hS2,hF2,hM2⟩;have hsz2:w1.heap.size≤w2.heap.size:=hF2.size;have s0:=hS2.cell0;have f0:=hS2.blk.frozen 0;(have hb2:b<w2.heap.size:=by omega);have HS2:=hid hS2;have HF2:=hid hF2;have HM2:=hid hM2;clear hS2 hF2 hM2
 go_upto_region 8 with
  (at_builtin;refine Z0b (w2.alloc (.cells #[.string x] 158)) rfl (.tmp 23) (.tmp 25) 212 rfl 158 i0 _ 1 16 Tryz.underlying212 hi hz0 hz1 hz2 rfl (by omega) (.slice A1 l.length c1) l.length (l.flatMap Z1g.cells) rfl (Z02 HS2.out.row ((Znz _ _).alloc (Zo0 _) _)) (some ⟨w2.heap.size,0,none⟩) 1 1 (Z1g.cells x) rfl rfl (fun _=>⟨_,rfl,Zok (heap_alloc_new _ _)⟩) (Z1g.one x) (by unfold maxLen;omega) (by omega) ?_;
   intro v2 w3 hown hgr hnil hat;
   obtain ⟨g,c2,rfl⟩ : ∃g c2,v2 = .slice (some ⟨g,0,none⟩) (l.length+1) c2:=(by
    rcases Z07 hown with ⟨_,h0,_⟩ | ⟨g,c2,h,_⟩
    · omega
    · exact ⟨g,c2,h⟩);
   have HB3':=(HS2.out.blk.alloc (.cells #[.string x] 158)).grown hgr (Z01 HS2.out.row HS2.out.blk (by decide));
   have c0:=(HB3'.cell 0).trans rfl;
   have z0:=HB3'.frozen 0;
   have HB3:=hid HB3';
   have HOWN:=hid hown;
   have HGR:=hid hgr;
   clear HB3' hown hgr)
 have hlg:((l.length+1:Nat):Int)=(l.length:Int)+1:=by omega
 have hG:(Z0y b sn A g∨w.heap.size≤g)∧Z1p w sn A false (some ⟨g,0,none⟩)∧True∧g≠b:=by
  rcases hat with h | h
  · rcases A1 with _ | a1
    · simp [Value.ownBlock] at h
    · obtain ⟨A',c',hv,_,_,hz⟩:=Z0z HS2.out.row
      injection hv with hv _ _;obtain ⟨g',rfl⟩:=hz a1 hv.symm;(have hgg:g'=g:=by simpa [Value.ownBlock] using h.symm);subst hgg;have hne:g'≠b:=HS2.out.row_ne (by decide) _ rfl;rcases HM2.out with ⟨hsn,hA⟩ | ⟨_,g2,hg2,hA⟩
      · have h1:=HS.out.row_lt _ hA.symm
        exact ⟨.inl (.inr ⟨hsn.symm,_,hA.symm,rfl⟩),.inl ⟨hsn,hA⟩,True.intro,hne⟩
      · injection hA with hA
        injection hA with hA;subst hA;exact ⟨.inr (by omega),.inr ⟨rfl,_,by omega,rfl⟩,True.intro,hne⟩
  · have hgg:g=w2.heap.size+1:=by simpa [Value.ownBlock] using h
    subst hgg;exact ⟨.inr (by omega),.inr ⟨rfl,_,by omega,rfl⟩,True.intro,by omega⟩
 obtain ⟨hgM,hgMv,hgk1,hgb⟩:=hG;obtain ⟨w4,hw4⟩ : ∃w4,w4=w3.setCell ⟨b,0,none⟩ (.slice (some ⟨g,0,none⟩) (l.length+1) c2):=⟨_,rfl⟩;have hB4:Blk w4 b 214 #[.slice (some ⟨g,0,none⟩) (l.length+1) c2,.bool false]:=by rw [hw4];exact HB3.out.set_ 0 _
 have hR4:w4.ownsRow 0 158 1 (.slice (some ⟨g,0,none⟩) (l.length+1) c2) (l.length+1) ((Z0c l x l.length).flatMap Z1g.cells):=by
  rw [hw4,Z21];refine ownsRow_setCell_other (a:=⟨b,0,none⟩) ?_ (by simpa [Value.ownBlock] using hgb) _;rw [Zog,List.flatMap_singleton];exact HOWN.out
 have hF4:Fr (Z0y b sn A) w w4:=by
  rw [hw4];have h1:Fr (Z0y b sn A) w w1:=Fr.of_new ((Znz _ _).trans (HB1.out.mono (by simp)));have h2:Fr (Z0y b sn A) w w2:=h1.trans (HF2.out.mono (fun k _ h=>.inl h));refine ((h2.alloc _).grown HGR.out (fun k hk=>?_)).setCell (p:=⟨b,0,none⟩) (.inl (.inl rfl)) _;rcases A1 with _ | a1
  · cases hk
  · simp only [Value.ownBlock,Option.some.injEq] at hk
    subst hk;rcases HM2.out with ⟨hsn,hA⟩ | ⟨_,g',hg',hA⟩
    · left;right;exact ⟨hsn.symm,a1,hA.symm,rfl⟩
    · injection hA with hA
      subst hA;right;dsimp only;omega
 rw [← hw4];have HgM:=hid hgM;have HgMv:=hid hgMv;have HB4:=hid hB4;have HR4:=hid hR4;have HF4:=hid hF4;have s4:=hB4.cell 0;have s4':w4.cell? ⟨b,0,none⟩=some (.slice (some ⟨g,0,none⟩) (l.length+1) c2):=s4;clear s4 hw4 hB4 hR4 hF4 hat hgM hgMv hnil  s0 f0;go_wp2_with fail
 go_loopw [7] (fun s wr=>∃i:Nat,s = .int .i64 i∧rank Z0w l x≤i∧i≤l.length∧wr.ownsRow 0 158 1 (.slice (some ⟨g,0,none⟩) (l.length+1) c2) (l.length+1) ((Z0c l x i).flatMap Z1g.cells)∧Fr (· = g) w4 wr) (fun s wr=>(intOf s).toNat)
 case atStart=>exact ⟨l.length,by go_num,hrk,Zo0 _,HR4.out,Fr.refl _ _⟩
 case round=>
  obtain ⟨i,rfl,hi1,hi2,hown,hfr⟩:=hrel;have hgw:g<wr.heap.size:=(hown.lt g rfl).2;have r0:wr.cell? ⟨b,0,none⟩=some (.slice (some ⟨g,0,none⟩) (l.length+1) c2):=(hfr.cell (p:=⟨b,0,none⟩) HB4.out.lt (fun h=>hgb h.symm)).trans s4';have fz : ∀o,wr.frozen? ⟨g,o,none⟩=false:=fun o=>hown.frozenAt o;have HOW:=hid hown;have HFR:=hid hfr;clear hown hfr;by_cases hlt:rank Z0w l x<i
  · obtain ⟨j,rfl⟩ : ∃j,i=j+1:=⟨i - 1,by omega⟩
    (have hj:j<l.length:=by omega);have hrd:=Z0d (A:=some ⟨g,0,none⟩) (c:=c2) (l:=Z0c l x (j+1)) Z1g.cells_length (by rw [Z03 l x hi2];exact HOW.out);obtain ⟨g',o',hgo,_,hcell⟩:=hrd.at_ (k:=j) (by rw [Z03 l x hi2];omega);injection hgo with hgo;injection hgo with hg1 hg2;subst hg1;subst hg2;rw [Z26 l x hj] at hcell;have q0:wr.cell? ⟨g,j,none⟩=some (.string l[j]):=by simpa using hcell 0 _ rfl
    have rmj:Room wr g 158 (c2*1)∧l.length+1≤c2:=by
     rcases Z07 HOW.out with ⟨hv,_⟩ | ⟨g',cap,hv,hn,_,hr,_⟩
     · cases hv
     · injection hv with hA _ hc
       injection hA with hA;injection hA with hA;subst hA;subst hc;exact ⟨hr,hn⟩
    obtain ⟨hrm,hcap⟩:=rmj;obtain ⟨u0,t0⟩:=hrm.cell (i:=(j+1)) (by omega);(have b0:(0:Int)≤(j:Int)+1:=by omega);(have b1:(0:Int)≤(j:Int):=by omega);(have b4:(j:Int)<(l.length:Int):=by omega);(have b2:(j:Int)<(l.length:Int)+1:=by omega);(have b3:(j:Int)+1<(l.length:Int)+1:=by omega);have w1:IntKind.i64.wrap ((j:Int))=(j:Int):=Zof _ (by omega);(have w2:IntKind.i64.wrap ((j:Int)+1 - 1)=(j:Int):=by rw [Zof _ (by omega)];omega);clear hcell hrd hrm;obtain ⟨y,hy⟩ : ∃y,y=l[j]:=⟨_,rfl⟩;rw [← hy] at q0;have HY:=hid hy;have hbw:b<wr.heap.size:=Zoa wr _ r0;clear hy;(go_wp2_with fail);refine Z06 (fun w9=>Below wr.heap.size wr w9) [(0,0),(1,0),(2,0),(3,1),(4,0),(5,0),(6,0),(7,0),(8,1),(9,0),(10,0),(11,0),(12,1),(13,0),(14,2)] (by kernel_rfl) (by kernel_rfl) (fun KK hKK=>?_);simp only [Z05,Zo9,Zo2,Zo7,Zo5,Zo6,Zoc];(repeat ((first | (refine Z0a ?_ (Or.inl ⟨by rfl,fun w9=>?_⟩) ?_;rotate_left 1;go_simp;with_reducible rfl) | (refine Z09 ?_ (((Znz _ _).drew)) (Or.inl ⟨by rfl,fun w9 hw9=>?_⟩) ?_;rotate_left 1;obtain ⟨hc9,hf9⟩:=Z0q hw9;go_simp;with_reducible rfl) | refine Z0a undef (Or.inr ⟨by rfl,rfl⟩) ?_ | refine Z09 undef (((Znz _ _).drew)) (Or.inr ⟨by rfl,rfl⟩) ?_);go_frame));refine Z1n (by kernel_rfl) (fun K9 hK9=>?_);go_simp;refine hK9 _ _ ?_;clear hK9 K9;refine Z12 ?_;simp only [Z00];refine hKK _ _ ?_;clear hKK KK;(go_wp2_with fail);go_roundw
    case rel=>
     refine ⟨j,by go_num,by omega,by omega,?_,Fr.drew ((HFR.out).setCell (p:=⟨g,(j+1),none⟩) (.inl rfl) (_))⟩;have hst:=((HOW.out).stored ((j+1)) (.string y)).1
     have he:setAll ((Z0c l x (j+1)).flatMap Z1g.cells) ((j+1)) (Z1g.cells y)=(Z0c l x j).flatMap Z1g.cells:=by
      rw [Z4m Z1g.cells_length (by omega) _ (j+1) (by rw [Z03 l x hi2];omega),HY.out,Z27 l x hj]
     rw [← he];exact hst
    case measure=>simp [intOf]<;>omega
  · obtain rfl:i=rank Z0w l x:=by omega
    have rmj:Room wr g 158 (c2*1)∧l.length+1≤c2:=by
     rcases Z07 HOW.out with ⟨hv,_⟩ | ⟨g',cap,hv,hn,_,hr,_⟩
     · cases hv
     · injection hv with hA _ hc
       injection hA with hA;injection hA with hA;subst hA;subst hc;exact ⟨hr,hn⟩
    obtain ⟨hrm,hcap⟩:=rmj;obtain ⟨k,hk⟩ : ∃k,k=rank Z0w l x:=⟨_,rfl⟩;rw [← hk] at hi2 hlt ⊢;obtain ⟨u0,t0⟩:=hrm.cell (i:=k) (by omega);(have b1:(0:Int)≤(k:Int):=by omega);(have b2:(k:Int)<(l.length:Int)+1:=by omega);have HK:=hid hk;have hbw:b<wr.heap.size:=Zoa wr _ r0;clear hrm hk;(go_wp2_with fail);go_ret;have HOWk:=HOW.out;rw [← HK.out] at HOWk;have hst:=((HOWk).stored (k) (.string x)).1
    have he:setAll ((Z0c l x k).flatMap Z1g.cells) (k) (Z1g.cells x)=(put Z0w l x).flatMap Z1g.cells:=by
     rw [Z4m Z1g.cells_length (by omega) _ k (by rw [Z03 l x hi2];omega),Z2q l x hi2,Z66 Z3g HO.out hh,HK.out]
    have hln:=Z2e Z3g HO.out hh;refine ⟨by rw [hh];rfl,false,some ⟨g,0,none⟩,c2,⟨?_,?_⟩,?_,?_⟩
    · rw [hln]
      exact (HB4.out.fr HFR.out (fun h=>hgb h.symm)).far (p:=⟨g,k,none⟩) (fun h=>hgb h.symm) _
    · rw [hln,← he]
      exact hst
    · exact HF4.out.into (((HFR.out).setCell (p:=⟨g,k,none⟩) (.inl rfl) (_))) (fun k hk=>by subst hk;exact HgM.out)
    · exact HgMv.out
theorem Zie (b c:Nat) (sn:Bool) (A:Option Addr) (l:List Z1g) (x:Z1g) (w:World) (hS:Z2r w b sn A c l) (hs:Srt Z0w l) (hl:(l.length:Int)≤100000000) :
 Calls Tryz.prog 80 #[.pointer (some ⟨b,0,none⟩),.string x] w (Z5b w b sn A l x):=by
 cases hh:has Z0w l x
 · exact Zag b c sn A l x w hS hs hl hh
 · exact Z8r b c sn A l x w hS hs hl hh
theorem Zdg (b c:Nat) (sn:Bool) (A:Option Addr) (l:List Z1g) (x:Z1g) (w:World) (hS:Z2r w b sn A c l) (hs:Srt Z0w l) (hl:(l.length:Int)≤1000000000) :
 Calls Tryz.prog 82 #[.pointer (some ⟨b,0,none⟩),.string x] w (Z97 l x w):=by
 have HS:=hid hS;have HO:=hid hs;clear hS hs;go_enter Tryz.func82,Tryz.ntmps82;(go_wp2_with fail);refine (Z7i b c sn A l x _ (HS.out.new_ (Znz _ _)) HO.out (by omega)).mono ?_;rintro e w1 ⟨rfl,hb1⟩;(go_wp2_with fail);go_ret2;exact ⟨rfl,(Znz _ _).trans (hb1.mono (by simp))⟩
def Zaw (w:World) (xs:List Z1g) (e:Ending) (w':World):Prop:=
 ∃k,e = .returned (.pointer (some ⟨k,0,none⟩))∧w.heap.size≤k∧∃sn A c,Z2r w' k sn A c (puts Z0w [] xs)∧AIn A (w.heap.size≤·)∧Below w.heap.size w w'
theorem Zi5 (A:Option Addr) (c:Nat) (xs:List Z1g) (w:World) (hrd:Z0p w 1 Z1g.cells A c xs) (hl:(xs.length:Int)≤10000000) :
 Calls Tryz.prog 79 #[.slice A xs.length c] w (Zaw w xs):=by
 have HRD:=hid hrd;clear hrd;go_enter Tryz.func79,Tryz.ntmps79;(go_wp2_with fail);obtain ⟨W0,hW0⟩ : ∃W0,W0=w.alloc (.cells #[.slice none 0 0,.bool false] 214):=⟨_,rfl⟩;(have hb0:Below w.heap.size w W0:=by rw [hW0];exact (Znz _ _).alloc (Zo0 _) _);have hS0:Z2r W0 w.heap.size false none 0 []:=⟨by rw [hW0];exact Blk.new _ _ _,⟨by simp,.inl ⟨rfl,rfl⟩⟩⟩;rw [← hW0];clear hW0;have HB0:=hid hb0;have HS0:=hid hS0;clear hb0 hS0
 go_loopw [10] (fun s wr=>∃i:Nat,s = .int .i64 i∧i≤xs.length∧∃sn A' c',Z2r wr w.heap.size sn A' c' (puts Z0w [] (xs.take i))∧AIn A' (w.heap.size≤·)∧Below w.heap.size w wr) (fun s wr=>xs.length - (intOf s).toNat)
 case atStart=>exact ⟨0,rfl,Nat.zero_le _,false,none,0,HS0.out,AIn.none_ _,HB0.out⟩
 case round=>
  obtain ⟨i,rfl,hi,sn,A',c',hS,hA',hB⟩:=hrel;have HS:=hid hS;have HA:=hid hA';have HB:=hid hB;clear hS hA' hB;by_cases hlt:i<xs.length
  · obtain ⟨x,hx⟩ : ∃x,x=xs[i]:=⟨_,rfl⟩
    obtain ⟨g,off,rfl,hgs,hcell⟩:=(HRD.out.fr (Fr.of_new (M:=fun _=>False) HB.out) (fun _ _ h=>h)).at_ hlt;rw [← hx] at hcell;(have q0:wr.cell? ⟨g,off+i,none⟩=some (.string x):=by simpa using hcell 0 _ rfl);(have b1:(0:Int)≤(i:Int):=by omega);(have b2:(i:Int)<(xs.length:Int):=by omega);have HX:=hid hx;clear hcell hx;(go_wp2_with fail);have hsr:=Srt.puts Z3g (xs.take i) (Srt.nil (cmp:=Z0w))
    have hlen:(((puts Z0w [] (xs.take i)).length:Nat):Int)≤100000000:=by
     have:=Z13 Z3g (xs.take i) (Srt.nil (cmp:=Z0w));simp at this;omega
    refine (Zie w.heap.size c' sn A' _ x _ (HS.out.new_ (Znz _ _)) hsr hlen).mono ?_;rintro e w1 ⟨rfl,sn2,A2,c2,hS2,hF2,hM2⟩
    have hB1:Below w.heap.size w w1:=(HB.out).trans (hF2.below (by have:=HB.out.size;(try simp);omega) (fun k hk hm=>by
     rcases hm with hm | ⟨_,a,ha,hm⟩
     · omega
     · have:=HA.out a ha;omega))
    have hA2:AIn A2 (w.heap.size≤·):=by
     rcases hM2 with ⟨_,rfl⟩ | ⟨_,g2,hg2,rfl⟩
     · exact HA.out
     · intro a ha;cases ha;have:=HB.out.size;(try simp at hg2 ⊢);omega
    have HS2:=hid hS2;have HB1:=hid hB1;have HA2:=hid hA2;clear hS2 hB1 hA2 hF2 hM2 hsr hlen q0;(go_wp2_with fail);go_roundw
    case rel=>
     refine ⟨i+1,by go_num,by omega,sn2,A2,c2,?_,HA2.out,HB1.out⟩;rw [Zou,Zo8 hlt,← HX.out];simp only [Option.toList_some,Z23];exact HS2.out
    case measure=>simp [intOf]<;>omega
  · have hie:i=xs.length:=by omega
    subst hie;(go_wp2_with fail);go_ret;refine ⟨w.heap.size,rfl,Zo0 _,sn,A',c',?_,HA.out,HB.out⟩;have:=HS.out;rwa [Zop] at this
end
section
open Go.RowKit Go.Shelf
attribute [local go_sem] Oper.semAt_some
set_option linter.unusedSimpArgs false
theorem Zbl (n:Nat) (h : ¬n<10) (hn:n<9223372036854775808) (ih : ∀w,Calls Tryz.prog 81 #[.int .i64 ((n / 10:Nat):Int)] w fun e w'=>e = .returned (.string (decB (n / 10)))∧Below w.heap.size w w') (w:World):Calls Tryz.prog 81 #[.int .i64 n] w fun e w'=>e = .returned (.string (decB n))∧Below w.heap.size w w':=by
 (have t1:decide ((n:Int)<10)=false:=by simp;omega);(have b0:(0:Int)≤(n:Int):=by omega);(have b1:(n:Int)<9223372036854775808:=by omega);have hc:=Zju (n % 10) (by omega);(have e1:((n:Int) / 10)=((n / 10:Nat):Int):=by omega);(have e2:((n:Int) % 10)=((n % 10:Nat):Int):=by omega);(have m0:(0:Int)≤((n % 10:Nat):Int):=by omega);(have m1:((n % 10:Nat):Int)≤9:=by omega);obtain ⟨m,hm⟩ : ∃m,m=n % 10:=⟨_,rfl⟩;obtain ⟨q,hq⟩ : ∃q,q=n / 10:=⟨_,rfl⟩;rw [← hm] at hc e2 m0 m1;rw [← hq] at e1 ih;(have HD:Hid (decB n=decB q++Z61 m):=by rw [decB,if_neg h,hm,hq];rfl);have v1:IntKind.i64.wrap (q:Int)=(q:Int):=Zof _ (by omega);(have v2:((n:Int)).tmod 10=(m:Int):=by rw [Int.tmod_eq_emod_of_nonneg b0,e2]);have v3:IntKind.i64.wrap (48+(m:Int))=48+(m:Int):=Zof _ (by omega);(have v4:IntKind.u8.wrap (48+(m:Int))=48+(m:Int):=by simp [IntKind.wrap,IntKind.signed,IntKind.bits];omega);(have hz : ¬9223372036854775807<(decB q).size+(Z61 m).size:=by have:=Z6n (n:=q) (by omega);rw [Z5t];omega);clear e2;have IH:=hid ih;have HC:=hid hc;clear ih h hm hq hc;go_enter Tryz.func81,Tryz.ntmps81;(go_wp2_with fail);refine Z17 (fun _=>True) [0,1,3,4,5,6,9,10] [] (.fork [(0,0),(1,0),(3,0),(4,0),(5,0),(6,0)] 2 (.fin [(7,2),(8,2),(9,0),(10,0)]) 7 (.fork [] 2 (.fin [(8,2),(9,0),(10,0)]) 8 (.fin [(2,2),(9,0),(10,0)]))) (by kernel_rfl) (by kernel_rfl) (by kernel_rfl) (fun KK hKK=>?_);simp only [wpPl,Z05,Zo9,Zo2,Zo7,Zo5,Zo6,Zoc,List.any_nil];(repeat (refine Z1s ?_ (Or.inl ⟨by rfl,fun w9=>?_⟩) ?_;rotate_left 1;go_simp;with_reducible rfl;go_frame));refine Z0u ⟨?_,?_⟩
 · refine Z7v (fun _=>by simp) rfl (fun K9 hK9=>?_)
   go_simp;refine (IH.out _).mono ?_;rintro e w1 ⟨rfl,hb1⟩;refine hK9 _ _ ?_;clear hK9 K9;(try go_frame);refine Z73 (by rfl) (fun K9 hK9=>?_);go_simp;refine hK9 _ _ ?_;clear hK9 K9;(try go_frame);refine Z73 (by rfl) (fun K9 hK9=>?_);have hc:=HC.out (w1.alloc (.cells #[.int .u8 (48+(m:Int))] 5)) w1.heap.size ((Blk.new _ _ _).cell 0);go_simp;refine hK9 _ _ ?_;clear hK9 K9 hc;(try go_frame);(repeat (refine Z1s ?_ (Or.inl ⟨by rfl,fun w9=>?_⟩) ?_;rotate_left 1;go_simp;with_reducible rfl;go_frame));refine Z0u ?_;simp only [Z00];refine hKK _ _ ?_;clear hKK KK;(go_wp2_with fail);go_ret;exact ⟨by rw [HD.out];rfl,((Znz _ _).drew.trans (hb1.mono (by simp))).alloc (by have:=hb1.size;simpa using this) _⟩
 · refine Z7v (fun _=>by simp) rfl (fun K9 hK9=>?_)
   go_simp;refine hK9 _ _ ?_;clear hK9 K9;(try go_frame);(try simp only [Z05]);refine Z0u ⟨?_,?_⟩
   · refine Z7v (fun _=>by simp) rfl (fun K9 hK9=>?_)
     go_simp;refine (IH.out _).mono ?_;rintro e w1 ⟨rfl,hb1⟩;refine hK9 _ _ ?_;clear hK9 K9;(try go_frame);refine Z73 (by rfl) (fun K9 hK9=>?_);have hc:=HC.out w1 w.heap.size ((hb1.cell (by simp)).trans ((Blk.new w.drew 5 #[.int .u8 (48+(m:Int))]).cell 0));go_simp;refine hK9 _ _ ?_;clear hK9 K9 hc;(try go_frame);(repeat (refine Z1s ?_ (Or.inl ⟨by rfl,fun w9=>?_⟩) ?_;rotate_left 1;go_simp;with_reducible rfl;go_frame));refine Z0u ?_;simp only [Z00];refine hKK _ _ ?_;clear hKK KK;(go_wp2_with fail);go_ret;exact ⟨by rw [HD.out];rfl,((Znz _ _).drew.alloc (by simp) _).trans (hb1.mono (by simp))⟩
   · refine Z7v (fun _=>by simp) rfl (fun K9 hK9=>?_)
     have hc:=HC.out (w.alloc (.cells #[.int .u8 (48+(m:Int))] 5)).drew w.heap.size (((Blk.new w 5 #[.int .u8 (48+(m:Int))]).drew.cell 0).trans rfl);go_simp;refine hK9 _ _ ?_;clear hK9 K9 hc;(try go_frame);refine Z73 (by rfl) (fun K9 hK9=>?_);go_simp;refine (IH.out _).mono ?_;rintro e w1 ⟨rfl,hb1⟩;refine hK9 _ _ ?_;clear hK9 K9;(try go_frame);(repeat (refine Z1s ?_ (Or.inl ⟨by rfl,fun w9=>?_⟩) ?_;rotate_left 1;go_simp;with_reducible rfl;go_frame));refine Z0u ?_;simp only [Z00];refine hKK _ _ ?_;clear hKK KK;(go_wp2_with fail);go_ret;exact ⟨by rw [HD.out];rfl,((Znz _ _).drew.alloc (by simp) _).trans (hb1.mono (by simp))⟩
theorem Zbk (n:Nat) (h:n<10) (w:World):Calls Tryz.prog 81 #[.int .i64 n] w fun e w'=>e = .returned (.string (decB n))∧Below w.heap.size w w':=by
 (have t1:decide ((n:Int)<10)=true:=by simp;omega);(have b0:(0:Int)≤(n:Int):=by omega);(have b1:(n:Int)≤9:=by omega);have hc:=Zju n h (w.alloc (.cells #[.int .u8 (48+(n:Int))] 5)) w.heap.size ((Blk.new _ _ _).cell 0);(have HD:Hid (decB n=Z61 n):=by rw [decB,if_pos h];rfl);clear h;go_enter Tryz.func81,Tryz.ntmps81;(go_wp2_with fail);go_ret;exact ⟨by rw [HD.out];rfl,(Znz _ _).alloc (Zo0 _) _⟩
theorem Zfb (n:Nat) (hn:n<9223372036854775808) (w:World):Calls Tryz.prog 81 #[.int .i64 n] w fun e w'=>e = .returned (.string (decB n))∧Below w.heap.size w w':=by
 induction n using Nat.strongRecOn generalizing w with
 | _ n ih=>
   by_cases h:n<10
   · exact Zbk n h w
   · exact Zbl n h hn (fun w=>ih (n / 10) (by omega) (by omega) w) w
theorem Z5i (B:Nat) (w:World):KeepsFrom B w w:=KeepsFrom.of_fr (Fr.refl (fun _=>False) w) (fun _ h=>h.elim) B
theorem Zba (x y:Z04) (W:World):(binOp .eql 68 (.agg #[.int .i64 x.id.kind,.string x.id.text,.int .i64 x.id.n,.int .i64 x.attr.kind,.string x.attr.text,.int .i64 x.attr.n,.int .i64 x.value.kind,.string x.value.text,.int .i64 x.value.n,.int .i64 x.other.kind,.string x.other.text,.int .i64 x.other.n,.int .i64 x.kind,.bool x.o,.int .i64 x.level,.int .i64 x.by_]) (.agg #[.int .i64 y.id.kind,.string y.id.text,.int .i64 y.id.n,.int .i64 y.attr.kind,.string y.attr.text,.int .i64 y.attr.n,.int .i64 y.value.kind,.string y.value.text,.int .i64 y.value.n,.int .i64 y.other.kind,.string y.other.text,.int .i64 y.other.n,.int .i64 y.kind,.bool y.o,.int .i64 y.level,.int .i64 y.by_])).run Tryz.prog W = .ok (.bool (decide (x=y))) W:=by
 rw [run_eql_struct];go_simp;by_cases h:x=y
 · subst h;simp
 · rw [Zo1 h]
   have hs : ∀a b:Sym,a.kind=b.kind→a.text.toList=b.text.toList→a.n=b.n→a=b:=fun a b h1 h2 h3=>Sym.ext' h1 (toList_inj h2) h3;by_cases e0:x.id.kind=y.id.kind
   case neg=>rw [if_neg e0]
   rw [if_pos e0];by_cases e1:x.id.text.toList=y.id.text.toList
   case neg=>rw [if_neg e1]
   rw [if_pos e1];by_cases e2:x.id.n=y.id.n
   case neg=>rw [if_neg e2]
   rw [if_pos e2];by_cases e3:x.attr.kind=y.attr.kind
   case neg=>rw [if_neg e3]
   rw [if_pos e3];by_cases e4:x.attr.text.toList=y.attr.text.toList
   case neg=>rw [if_neg e4]
   rw [if_pos e4];by_cases e5:x.attr.n=y.attr.n
   case neg=>rw [if_neg e5]
   rw [if_pos e5];by_cases e6:x.value.kind=y.value.kind
   case neg=>rw [if_neg e6]
   rw [if_pos e6];by_cases e7:x.value.text.toList=y.value.text.toList
   case neg=>rw [if_neg e7]
   rw [if_pos e7];by_cases e8:x.value.n=y.value.n
   case neg=>rw [if_neg e8]
   rw [if_pos e8];by_cases e9:x.other.kind=y.other.kind
   case neg=>rw [if_neg e9]
   rw [if_pos e9];by_cases e10:x.other.text.toList=y.other.text.toList
   case neg=>rw [if_neg e10]
   rw [if_pos e10];by_cases e11:x.other.n=y.other.n
   case neg=>rw [if_neg e11]
   rw [if_pos e11];by_cases e12:x.kind=y.kind
   case neg=>rw [if_neg e12]
   rw [if_pos e12];by_cases e13:x.o=y.o
   case neg=>rw [if_neg e13]
   rw [if_pos e13];by_cases e14:x.level=y.level
   case neg=>rw [if_neg e14]
   rw [if_pos e14];by_cases e15:x.by_=y.by_
   case neg=>rw [if_neg e15]
   rw [if_pos e15];exact absurd (Zbc (hs _ _ e0 e1 e2) (hs _ _ e3 e4 e5) (hs _ _ e6 e7 e8) (hs _ _ e9 e10 e11) e12 e13 e14 e15) h
theorem Zel (l:List Z04) (A:Option Addr) (c:Nat) (p:Z04) (w:World) (h:Z0p w 16 Z04.cells A c l):Calls Tryz.prog 84 #[.slice A l.length c,.agg #[.int .i64 p.id.kind,.string p.id.text,.int .i64 p.id.n,.int .i64 p.attr.kind,.string p.attr.text,.int .i64 p.attr.n,.int .i64 p.value.kind,.string p.value.text,.int .i64 p.value.n,.int .i64 p.other.kind,.string p.other.text,.int .i64 p.other.n,.int .i64 p.kind,.bool p.o,.int .i64 p.level,.int .i64 p.by_]] w fun e w'=>e = .returned (.bool (decide (p∈l)))∧Below w.heap.size w w':=by
 have H:=hid h;have hlc:=h.cap;clear h;go_enter Tryz.func84,Tryz.ntmps84;(go_upto_region 2 with fail);obtain ⟨W1,hW1⟩ : ∃W,W=w.alloc (.cells #[.int .i64 p.id.kind,.string p.id.text,.int .i64 p.id.n,.int .i64 p.attr.kind,.string p.attr.text,.int .i64 p.attr.n,.int .i64 p.value.kind,.string p.value.text,.int .i64 p.value.n,.int .i64 p.other.kind,.string p.other.text,.int .i64 p.other.n,.int .i64 p.kind,.bool p.o,.int .i64 p.level,.int .i64 p.by_] 68):=⟨_,rfl⟩;obtain ⟨b3,hb3⟩ : ∃b,b=w.heap.size:=⟨_,rfl⟩;have K3:=hid (show Blk W1 b3 68 #[.int .i64 p.id.kind,.string p.id.text,.int .i64 p.id.n,.int .i64 p.attr.kind,.string p.attr.text,.int .i64 p.attr.n,.int .i64 p.value.kind,.string p.value.text,.int .i64 p.value.n,.int .i64 p.other.kind,.string p.other.text,.int .i64 p.other.n,.int .i64 p.kind,.bool p.o,.int .i64 p.level,.int .i64 p.by_] by rw [hW1,hb3];exact Blk.new _ _ _);have HB:=hid (show Below w.heap.size w W1 by rw [hW1];exact (Znz _ _).alloc (Zo0 _) _);rw [← hW1,← hb3];clear hW1 hb3
 go_loopw [9] (fun s wr=>∃i:Nat,s = .int .i64 (i:Int)∧i≤l.length∧p ∉ l.take i∧Below W1.heap.size W1 wr) (fun s wr=>l.length - (intOf s).toNat)
 case atStart=>exact ⟨0,rfl,Nat.zero_le _,by simp,Znz _ _⟩
 case round=>
  obtain ⟨i,rfl,hi,hno,hbw⟩:=hrel;have HNO:=hid hno;have HBW:=hid hbw;clear hno hbw;by_cases hlt:i<l.length
  · obtain ⟨y,hy⟩ : ∃y,y=l[i]:=⟨_,rfl⟩
    obtain ⟨g,off,hAA,hgl,hrg⟩:=(H.out.new_ (HB.out.trans (HBW.out.mono HB.out.size))).range hlt;rw [← hy] at hrg;subst hAA;have HTK:=hid (show l.take (i+1)=l.take i ++ [y] by rw [Zou,Zo8 hlt,hy];rfl);have HIN:=hid (show y∈l by rw [hy];exact Zoy hlt);have HRG:=hid (show wr.rangeAt g (off+i*16) [.int .i64 y.id.kind,.string y.id.text,.int .i64 y.id.n,.int .i64 y.attr.kind,.string y.attr.text,.int .i64 y.attr.n,.int .i64 y.value.kind,.string y.value.text,.int .i64 y.value.n,.int .i64 y.other.kind,.string y.other.text,.int .i64 y.other.n,.int .i64 y.kind,.bool y.o,.int .i64 y.level,.int .i64 y.by_] from hrg);have HTH:=hid (show (wr.alloc (.cells #[.int .i64 0,.string ⟨#[]⟩,.int .i64 0,.int .i64 0,.string ⟨#[]⟩,.int .i64 0,.int .i64 0,.string ⟨#[]⟩,.int .i64 0,.int .i64 0,.string ⟨#[]⟩,.int .i64 0,.int .i64 0,.bool false,.int .i64 0,.int .i64 0] 68)).there wr.heap.size 0 (#[.int .i64 y.id.kind,.string y.id.text,.int .i64 y.id.n,.int .i64 y.attr.kind,.string y.attr.text,.int .i64 y.attr.n,.int .i64 y.value.kind,.string y.value.text,.int .i64 y.value.n,.int .i64 y.other.kind,.string y.other.text,.int .i64 y.other.n,.int .i64 y.kind,.bool y.o,.int .i64 y.level,.int .i64 y.by_]:Array Value).size from (Blk.new wr 68 #[.int .i64 0,.string ⟨#[]⟩,.int .i64 0,.int .i64 0,.string ⟨#[]⟩,.int .i64 0,.int .i64 0,.string ⟨#[]⟩,.int .i64 0,.int .i64 0,.string ⟨#[]⟩,.int .i64 0,.int .i64 0,.bool false,.int .i64 0,.int .i64 0]).there);obtain ⟨W5,hW5⟩ : ∃W5,W5=(wr.alloc (.cells #[.int .i64 0,.string ⟨#[]⟩,.int .i64 0,.int .i64 0,.string ⟨#[]⟩,.int .i64 0,.int .i64 0,.string ⟨#[]⟩,.int .i64 0,.int .i64 0,.string ⟨#[]⟩,.int .i64 0,.int .i64 0,.bool false,.int .i64 0,.int .i64 0] 68)).setCells wr.heap.size 0 [.int .i64 y.id.kind,.string y.id.text,.int .i64 y.id.n,.int .i64 y.attr.kind,.string y.attr.text,.int .i64 y.attr.n,.int .i64 y.value.kind,.string y.value.text,.int .i64 y.value.n,.int .i64 y.other.kind,.string y.other.text,.int .i64 y.other.n,.int .i64 y.kind,.bool y.o,.int .i64 y.level,.int .i64 y.by_]:=⟨_,rfl⟩;have HW5:=hid hW5;have HR5:=hid (show W5.rangeAt wr.heap.size 0 [.int .i64 y.id.kind,.string y.id.text,.int .i64 y.id.n,.int .i64 y.attr.kind,.string y.attr.text,.int .i64 y.attr.n,.int .i64 y.value.kind,.string y.value.text,.int .i64 y.value.n,.int .i64 y.other.kind,.string y.other.text,.int .i64 y.other.n,.int .i64 y.kind,.bool y.o,.int .i64 y.level,.int .i64 y.by_] by rw [hW5];exact Zo4 _ _ _ _ HTH.out);have HB5:=hid (show Below wr.heap.size wr W5 by rw [hW5];exact Below.setCells' _ _ ((Znz _ _).alloc (Zo0 _) _) (Zo0 _));(have j1:(0:Int)≤(i:Int):=by omega);(have j2:(i:Int)<(l.length:Int):=by omega);have v1:IntKind.i64.wrap ((i:Int)+1)=(i:Int)+1:=Zof _ (by omega);clear hW5 hrg hy
    go_upto_region 4 with (first
     | (with_reducible refine wpList_load_mid rfl 68 _ rfl g (off+i*16) rfl _ _ HRG.out Tryz.underlying68 rfl (by kernel_rfl) ?_)
     | ((with_reducible refine wpList_store_mid rfl 68 _ _ rfl wr.heap.size 0 #[.int .i64 y.id.kind,.string y.id.text,.int .i64 y.id.n,.int .i64 y.attr.kind,.string y.attr.text,.int .i64 y.attr.n,.int .i64 y.value.kind,.string y.value.text,.int .i64 y.value.n,.int .i64 y.other.kind,.string y.other.text,.int .i64 y.other.n,.int .i64 y.kind,.bool y.o,.int .i64 y.level,.int .i64 y.by_] rfl rfl HTH.out (by kernel_rfl) (by kernel_rfl) ?_);rw [← HW5.out]))
    have HBW5:=hid (HBW.out.trans (HB5.out.mono HBW.out.size));have HR3:=hid ((K3.out.new_ HBW5.out).range);have heq:=Zba p y;by_cases he:p=y
    · have t1:decide (p=y)=true:=by simpa using he
      rw [t1] at heq;have HE:=hid he;clear he t1
      go_wp2_with (first
       | (with_reducible refine wpList_load_mid rfl 68 _ rfl b3 0 rfl _ _ HR3.out Tryz.underlying68 rfl (by kernel_rfl) ?_)
       | (with_reducible refine wpList_load_mid rfl 68 _ rfl wr.heap.size 0 rfl _ _ HR5.out Tryz.underlying68 rfl (by kernel_rfl) ?_))
      go_ret;exact ⟨by rw [Zoe (by rw [HE.out];exact HIN.out)];rfl,HB.out.trans (HBW5.out.mono HB.out.size)⟩
    · have t1:decide (p=y)=false:=by simpa using he
      rw [t1] at heq;have HE:=hid he;clear he t1
      go_wp2_with (first
       | (with_reducible refine wpList_load_mid rfl 68 _ rfl b3 0 rfl _ _ HR3.out Tryz.underlying68 rfl (by kernel_rfl) ?_)
       | (with_reducible refine wpList_load_mid rfl 68 _ rfl wr.heap.size 0 rfl _ _ HR5.out Tryz.underlying68 rfl (by kernel_rfl) ?_))
      go_roundw
      case rel=>exact ⟨i+1,by go_num,by omega,by rw [HTK.out,Zp7,Zpb];exact fun h=>h.elim HNO.out HE.out,HBW5.out⟩
      case measure=>simp [intOf]<;>omega
  · obtain rfl:i=l.length:=by omega
    (have jz : ¬(l.length:Int)<(l.length:Int):=by omega);have HNO:=hid (show p ∉ l by have:=HNO.out;rwa [Zop] at this);(go_wp2_with fail);go_ret;exact ⟨by rw [Zo1 HNO.out];rfl,HB.out.trans (HBW.out.mono HB.out.size)⟩
end
section
open Go.RowKit Go.ChangeShapes Go.WideShapes Go.Deep
structure LevT where
 sym:Sym
 n:Int
def LevT.cells (x:LevT):List Value:=[.int .i64 x.sym.kind,.string x.sym.text,.int .i64 x.sym.n,.int .i64 x.n]
theorem LevT.cells_length (x:LevT):x.cells.length=4:=rfl
def Zmz:RepT LevT:=RepT.flat 4 LevT.cells LevT.cells_length
theorem Zft:Zgj Tryz.prog 113 Zmz:=
 ⟨by kernel_rfl,fun H enc w base spare held n cs x h=>by
  have hl2:cs.length=4:=(Zem Tryz.underlying113 h).trans (by kernel_rfl);obtain ⟨m0,y0,h0⟩:=Z2g Tryz.underlying113 h 0 rfl 23 0 3 rfl rfl (by kernel_rfl);obtain ⟨m1,y1,h1⟩:=Z2g Tryz.underlying113 h 1 rfl 3 3 1 rfl rfl (by kernel_rfl)
  match cs,hl2 with
  | [v0,v1,v2,v3],_=>
    simp at h0 h1;obtain ⟨a0,e0⟩:=Z5l.2 H enc w base spare held _ _ _ h0;have e0:_=Sym.cells a0:=e0;simp [Sym.cells] at e0;obtain ⟨a1,e1,_⟩:=DataW.trod_int Tryz.underlying3 h1;simp at e1;obtain ⟨rfl,rfl,rfl⟩:=e0;subst e1
    exact ⟨⟨a0,a1⟩,rfl⟩⟩
end
section
def lvO:List LevT→Sym→Int
 | [],_=>0
 | x :: l,s=>if x.sym=s then Z8x x.n 9 else lvO l s
def Z2k (lv n:Int):Bool:=decide (1≤n) && decide (n<lv)
def addP (o:List Z04) (p:Z04):List Z04:=if p∈o then o else o ++ [p]
def Z2t (of:Sym→Int) (lv:Int) (o l:List Z04):List Z04:=l.foldl (fun o p=>if Z2k lv (of p.id)=true then addP o p else o) o
def Z5j (s:Sym) (lv:Int) (o all:List Z04):List Z04:=all.foldl (fun o p=>if p.id=s∧p.level≤lv then addP o p else o) o
def stepS (of:Sym→Int) (lv:Int) (all:List Z04) (st:List Z04×List Sym) (s:Sym):List Z04×List Sym:=
 if s.kind=1∧Z2k lv (of s)=false∧s ∉ st.2 then (Z5j s lv st.1 all,st.2 ++ [s]) else st
inductive RunR (of:Sym→Int) (lv:Int) (l all:List Z04):Nat→List Z04×List Sym→Prop
 | start:RunR of lv l all 0 (Z2t of lv [] l,[])
 | step {i:Nat} {st:List Z04×List Sym} {p:Z04}:RunR of lv l all i st→st.1[i]? = some p→RunR of lv l all (i+1) (stepS of lv all (stepS of lv all st p.value) p.other)
def EndR (of:Sym→Int) (lv:Int) (l all r:List Z04):Prop:=∃i gone,RunR of lv l all i (r,gone)∧r.length≤i
section
variable {of:Sym→Int} {lv:Int} {l all:List Z04}
def Z3t (l all o:List Z04):Prop:=o.Nodup∧∀p∈o,p∈l∨p∈all
theorem Z3t.add {o:List Z04} {p:Z04} (h:Z3t l all o) (hp:p∈l∨p∈all):Z3t l all (addP o p):=by
 unfold addP
 split
 · exact h
 · rename_i hn
   refine ⟨?_,fun q hq=>?_⟩
   · rw [List.nodup_append]
     refine ⟨h.1,List.nodup_cons.2 ⟨by simp,List.nodup_nil⟩,fun a ha b hb e=>?_⟩;rw [Zpb] at hb;subst hb;subst e;exact hn ha
   · rcases Zp7.1 hq with hq | hq
     · exact h.2 q hq
     · rw [Zpb] at hq;subst hq;exact hp
theorem Z3t.first : ∀{m o:List Z04},Z3t l all o→(∀p∈m,p∈l∨p∈all)→Z3t l all (Z2t of lv o m)
 | [],_,h,_=>h
 | p :: m,o,h,hm=>by
   show Z3t l all (Z2t of lv (if Z2k lv (of p.id)=true then addP o p else o) m);refine Z3t.first ?_ (fun q hq=>hm q (Zpk _ hq))
   split
   · exact h.add (hm p Zpl)
   · exact h
theorem Z3t.more {s:Sym} : ∀{m o:List Z04},Z3t l all o→(∀p∈m,p∈l∨p∈all)→Z3t l all (Z5j s lv o m)
 | [],_,h,_=>h
 | p :: m,o,h,hm=>by
   show Z3t l all (Z5j s lv (if p.id=s∧p.level≤lv then addP o p else o) m);refine Z3t.more ?_ (fun q hq=>hm q (Zpk _ hq))
   split
   · exact h.add (hm p Zpl)
   · exact h
theorem Z3t.stepS {st:List Z04×List Sym} {s:Sym} (h:Z3t l all st.1):Z3t l all (stepS of lv all st s).1:=by
 unfold Go.Proofs.YtldndkngpdfpfaaGreat.stepS
 split
 · exact h.more (fun p hp=>.inr hp)
 · exact h
theorem Zao {i:Nat} {st:List Z04×List Sym} (h:RunR of lv l all i st):Z3t l all st.1:=by
 induction h with
 | start=>exact Z3t.first ⟨List.nodup_nil,fun p hp=>by cases hp⟩ (fun p hp=>.inl hp)
 | step _ _ ih=>exact (ih.stepS).stepS
theorem Z3t.len {o:List Z04} (h:Z3t l all o):o.length≤l.length+all.length:=by
 have:=Z6t (m:=l++all) h.1 (fun p hp=>Zp7.2 (h.2 p hp));rwa [Zoi] at this
end
theorem Z8g (of:Sym→Int) (lv:Int) (o m:List Z04) (p:Z04):Z2t of lv o (m ++ [p])=if Z2k lv (of p.id)=true then addP (Z2t of lv o m) p else Z2t of lv o m:=by
 unfold Z2t;rw [List.foldl_append];rfl
theorem Zfr (s:Sym) (lv:Int) (o m:List Z04) (p:Z04):Z5j s lv o (m ++ [p])=if p.id=s∧p.level≤lv then addP (Z5j s lv o m) p else Z5j s lv o m:=by
 unfold Z5j;rw [List.foldl_append];rfl
end
section
open Go.RowKit Go.Shelf
attribute [local go_sem] Oper.semAt_some
set_option linter.unusedSimpArgs false
theorem Za4 {s:Sym} : ∀{l:List LevT} {i:Nat},i≤l.length→(∀k,(h:k<l.length)→k<i→l[k].sym≠s)→lvO l s=lvO (l.drop i) s
 | l,0,_,_=>rfl
 | [],i+1,hi,_=>absurd hi (by simp)
 | x :: l,i+1,hi,h=>by
   rw [lvO,if_neg (show ¬x.sym=s from h 0 (by simp) (by omega)),List.drop_succ_cons];exact Za4 (by simpa using hi) (fun k hk hki=>h (k+1) (by simpa using hk) (by omega))
theorem Znd (kb:Nat) (A:Option Addr) (c:Nat) (l:List LevT) (s:Sym) (w:World) (hb:Blk w kb 102 #[.slice A l.length c]) (h:Z0p w 4 LevT.cells A c l) :
 Calls Tryz.prog 87 #[.agg #[.int .i64 s.kind,.string s.text,.int .i64 s.n],.pointer (some ⟨kb,0,none⟩)] w fun e w'=>e = .returned (.int .i64 (lvO l s))∧Below w.heap.size w w':=by
 have HR:=hid h;have HK:=hid hb;have hlc:=h.cap;clear h hb;go_enter Tryz.func87,Tryz.ntmps87;(go_upto_region 2 with fail);obtain ⟨W1,hW1⟩ : ∃W,W=w.alloc (.cells #[.int .i64 s.kind,.string s.text,.int .i64 s.n] 23):=⟨_,rfl⟩;obtain ⟨b2,hb2⟩ : ∃b,b=w.heap.size:=⟨_,rfl⟩;have K2:=hid (show Blk W1 b2 23 #[.int .i64 s.kind,.string s.text,.int .i64 s.n] by rw [hW1,hb2];exact Blk.new _ _ _);have HB:=hid (show Below w.heap.size w W1 by rw [hW1];exact (Znz _ _).alloc (Zo0 _) _);rw [← hW1,← hb2];clear hW1 hb2
 go_loopw [4] (fun v wr=>∃i:Nat,v = .int .i64 (i:Int)∧i≤l.length∧(∀k,(h:k<l.length)→k<i→l[k].sym≠s)∧Below W1.heap.size W1 wr) (fun v wr=>l.length - (intOf v).toNat)
 case atStart=>exact ⟨0,rfl,Nat.zero_le _,fun k _ h=>absurd h (by omega),Znz _ _⟩
 case round=>
  obtain ⟨i,rfl,hi,hno,hbw⟩:=hrel;have HNO:=hid hno;have HBW:=hid hbw;have HBA:=hid (HB.out.trans (hbw.mono HB.out.size));clear hno hbw;have k0:=(HK.out.new_ HBA.out).c1;have kz:=(HK.out.new_ HBA.out).lt;obtain ⟨s0,s1,s2⟩:=(K2.out.new_ HBW.out).c3;have sz:=(K2.out.new_ HBW.out).lt;by_cases hlt:i<l.length
  · obtain ⟨y,hy⟩ : ∃y,y=l[i]:=⟨_,rfl⟩
    obtain ⟨g,off,hAA,hgl,hcell⟩:=(HR.out.new_ HBA.out).at_ hlt;rw [hAA] at k0;rw [← hy] at hcell;have HY:=hid hy;(have q0:wr.cell? ⟨g,off+i*4,none⟩=some (.int .i64 y.sym.kind):=by simpa using hcell 0 _ rfl);(have q1:wr.cell? ⟨g,off+i*4+1,none⟩=some (.string y.sym.text):=by simpa using hcell 1 _ rfl);(have q2:wr.cell? ⟨g,off+i*4+2,none⟩=some (.int .i64 y.sym.n):=by simpa using hcell 2 _ rfl);(have q3:wr.cell? ⟨g,off+i*4+3,none⟩=some (.int .i64 y.n):=by simpa using hcell 3 _ rfl);(have j1:(0:Int)≤(i:Int):=by omega);(have j2:(i:Int)<(l.length:Int):=by omega);have v1:IntKind.i64.wrap ((i:Int)+1)=(i:Int)+1:=Zof _ (by omega);have heq:=Z5g y.sym s;clear hcell hy hAA;by_cases he:y.sym=s
    · have t1:decide (y.sym=s)=true:=by simpa using he
      rw [t1] at heq;have HE:=hid he;clear he t1;(go_wp2_with fail);go_quiet (fail);have HB2:=hid (Below.drewN' HBA.out nq);have HWI:=hid (show ∀W,Calls Tryz.prog 25 #[.int .i64 y.n,.int .i64 9] W fun e w'=>e = .returned (.int .i64 (Z8x y.n 9))∧W=w' from fun W=>Ziy y.n 9 W (by omega));(go_wp2_with fail);refine (HWI.out _).mono ?_;rintro e w0 ⟨rfl,rfl⟩;(go_wp2_with fail);go_ret;refine ⟨?_,HB2.out⟩;rw [Za4 hi HNO.out,Zpj hlt,lvO,← HY.out,if_pos HE.out];rfl
    · have t1:decide (y.sym=s)=false:=by simpa using he
      rw [t1] at heq;have HE:=hid he;clear he t1;(go_wp2_with fail);go_quiet (fail);have HB2:=hid (Below.drewN' HBW.out nq);clear q0 q1 q2 q3 s0 s1 s2 sz k0 kz;(go_wp2_with fail);go_roundw
      case rel=>exact ⟨i+1,by go_num,by omega,fun k hk hki=>by
       by_cases e:k=i
       · subst e;rw [← HY.out];exact HE.out
       · exact HNO.out k hk (by omega),HB2.out⟩
      case measure=>simp [intOf]<;>omega
  · obtain rfl:i=l.length:=by omega
    (have jz : ¬(l.length:Int)<(l.length:Int):=by omega);(go_wp2_with fail);go_ret;refine ⟨?_,HBA.out⟩;rw [Za4 (Zo0 _) HNO.out,List.drop_length];rfl
end
section
open Go.RowKit
variable {P:Program} {α:Type}
section
variable {J Jx:(Nat→Prop)→List α→World→Prop} {D E E':Nat→Prop} {W X Y:World} {pre xs:List α}
end
def Z33 (E:Nat→Prop):List Deferred→World→Prop
 | [],_=>True
 | d :: ds,w=>(∃r,d = { target:=.collected r,args:=#[] }∧E r∧w.heap[r]? = some (.deferred (some []))∧∀d'∈ds,d'.target≠.collected r)∧Z33 E ds w
section
variable {E E':Nat→Prop} {ds:List Deferred} {w w':World}
theorem Z33.mono (h:Z33 E ds w) (hE : ∀k,E k→E' k):Z33 E' ds w:=by
 induction ds with
 | nil=>trivial
 | cons d ds ih=>
   obtain ⟨⟨r,h1,h2,h3,h4⟩,h5⟩:=h;exact ⟨⟨r,h1,hE r h2,h3,h4⟩,ih h5⟩
theorem Z33.of (h:Z33 E ds w):Z33 (fun k=>E k∧k<w.heap.size) ds w:=by
 induction ds with
 | nil=>trivial
 | cons d ds ih=>
   obtain ⟨⟨r,h1,h2,h3,h4⟩,h5⟩:=h;exact ⟨⟨r,h1,⟨h2,(Zob.1 h3).1⟩,h3,h4⟩,ih h5⟩
theorem Z33.in_ (h:Z33 E ds w) : ∀d∈ds,∀r,d.target = .collected r→E r:=by
 induction ds with
 | nil=>intro d hd;cases hd
 | cons d ds ih=>
   obtain ⟨⟨r,h1,h2,h3,h4⟩,h5⟩:=h;intro d' hd r' hr;rcases Zoj.1 hd with e | hd
   · subst e;subst h1
     injection hr with hr;subst hr;exact h2
   · exact ih h5 d' hd r' hr
theorem Z33.cons {d:Nat} (h:Z33 E ds w) (hE : ∀k,E k→E' k) (hd:E' d) (hk:w.heap[d]? = some (.deferred (some []))) (hn : ¬E d):Z33 E' ({ target:=.collected d,args:=#[] } :: ds) w:=
 ⟨⟨d,rfl,hd,hk,fun d' hd' e=>hn (h.in_ d' hd' d e)⟩,h.mono hE⟩
end
end
section
open Go.RowKit
structure PgS where
 kk:Sym
 v:Int
 deriving DecidableEq
def PgS.cells (x:PgS):List Value:=[.int .i64 x.kk.kind,.string x.kk.text,.int .i64 x.kk.n,.int .i64 x.v]
theorem PgS.cells_length (x:PgS):x.cells.length=4:=rfl
def Z10 (a b:PgS):Int:=Z08 a.kk b.kk
theorem Z4b:TC Z10:=⟨fun _=>Z2x.refl _,fun _ _=>Z2x.symm _ _,fun _ _ _=>Z2x.trans _ _ _⟩
theorem Z8c {a b:PgS}:Z10 a b=0↔a.kk=b.kk:=Z3x
theorem Zab (a : Int) (b : ByteArray) (c : Int) (w : World) : (nilAhead 555 23 (.agg #[.int .i64 a, .string b, .int .i64 c]) "Compare").run Tryz.prog w = .ok (some false) w := by kernel_rfl
theorem Zd0 (a : Int) (b : ByteArray) (c : Int) (w : World) : (method 555 23 (.agg #[.int .i64 a, .string b, .int .i64 c]) "Compare").run Tryz.prog w = .ok (143, .agg #[.int .i64 a, .string b, .int .i64 c]) w := by kernel_rfl
theorem Zlz (a b:PgS) (w:World):Calls Tryz.prog 326 #[.agg #[.int .i64 a.kk.kind,.string a.kk.text,.int .i64 a.kk.n,.int .i64 a.v],.agg #[.int .i64 b.kk.kind,.string b.kk.text,.int .i64 b.kk.n,.int .i64 b.v]] w fun e w'=>e = .returned (.int .i64 (Z10 a b))∧Below w.heap.size w w':=by
 have N:=Zab;have M:=Zd0;go_enter Tryz.func326,Tryz.ntmps326;(go_wp2_with fail);refine (Zh9 a.kk b.kk _).mono ?_;rintro e w1 ⟨rfl,hb1⟩;have HB1:=hid ((((Znz w.heap.size w).alloc (Zo0 _) _).alloc (by simp) _).trans (hb1.mono (by simp;omega)));clear hb1;(go_wp2_with fail);go_ret;exact ⟨rfl,HB1.out⟩
abbrev Z2n:=Z1w (α:=PgS) 281 224 4 PgS.cells
theorem Zbt (k0 : Int) (k1 : ByteArray) (k2 : Int) (k3 : Int) (w : World) : (nilAhead 555 224 (.agg #[.int .i64 k0, .string k1, .int .i64 k2, .int .i64 k3]) "Compare").run Tryz.prog w = .ok (some false) w := by kernel_rfl
theorem Zfn (k0 : Int) (k1 : ByteArray) (k2 : Int) (k3 : Int) (w : World) : (method 555 224 (.agg #[.int .i64 k0, .string k1, .int .i64 k2, .int .i64 k3]) "Compare").run Tryz.prog w = .ok (326, .agg #[.int .i64 k0, .string k1, .int .i64 k2, .int .i64 k3]) w := by kernel_rfl
def Zj7 (l:List PgS) (x:PgS) (w:World) (e:Ending) (w':World):Prop:=
 e = .returned (.tuple #[.int .i64 (rank Z10 l x),.bool (has Z10 l x)])∧Below w.heap.size w w'
theorem Z86 (b c:Nat) (sn:Bool) (A:Option Addr) (l:List PgS) (x:PgS) (w:World) (hS:Z2n w b sn A c l) (hs:Srt Z10 l) (hl:(l.length:Int)≤4611686018427387904) :
 Calls Tryz.prog 187 #[.pointer (some ⟨b,0,none⟩),.agg #[.int .i64 x.kk.kind,.string x.kk.text,.int .i64 x.kk.n,.int .i64 x.v]] w (Zj7 l x w):=by
 have hrd:=hS.rd PgS.cells_length;have h0:=hS.cell0;have hb:=hS.lt;clear hS;have HS:=hid hs;have HRD:=hid hrd;clear hs hrd;go_enter Tryz.func187,Tryz.ntmps187;(go_wp2_with fail);go_quiet (fail);(go_wp2_with fail);obtain ⟨W0,hW0⟩ : ∃W0,W0=((w.alloc (Obj.cells #[.int .i64 x.kk.kind,.string x.kk.text,.int .i64 x.kk.n,.int .i64 x.v] 224)).drewN nq):=⟨_,rfl⟩;(have hB0:Below w.heap.size w W0:=by rw [hW0];exact Below.drewN' ((Znz _ _).alloc (Zo0 _) _) _);(have hx0:W0.cell? ⟨w.heap.size,0,none⟩=some (.int .i64 x.kk.kind):=by rw [hW0];go_simp);(have hx1:W0.cell? ⟨w.heap.size,1,none⟩=some (.string x.kk.text):=by rw [hW0];go_simp);(have hx2:W0.cell? ⟨w.heap.size,2,none⟩=some (.int .i64 x.kk.n):=by rw [hW0];go_simp);(have hx3:W0.cell? ⟨w.heap.size,3,none⟩=some (.int .i64 x.v):=by rw [hW0];go_simp);rw [← hW0];clear hW0;have HB0:=hid hB0;clear hB0
 go_loopw [6,7] (fun lo hi wr=>∃i j:Nat,lo = .int .i64 i∧hi = .int .i64 j∧i≤j∧j≤l.length∧(∀k,(h:k<l.length)→k<i→Z10 l[k] x<0)∧(∀k,(h:k<l.length)→j≤k→0<Z10 l[k] x)∧Below W0.heap.size W0 wr) (fun lo hi wr=>(intOf hi).toNat - (intOf lo).toNat)
 case atStart=>exact ⟨0,l.length,rfl,rfl,Nat.zero_le _,Zo0 _,fun k _ h=>absurd h (by omega),fun k h h'=>absurd h (by omega),Znz _ _⟩
 case round=>
  obtain ⟨i,j,rfl,rfl,hij,hj,hlo,hhi,hB⟩:=hrel;have HLO:=hid hlo;have HHI:=hid hhi;clear hlo hhi;have hsz:w.heap.size<W0.heap.size:=Zoa W0 _ hx0;by_cases hlt:i<j
  · obtain ⟨m,hm⟩ : ∃m,m=i+(j - i) / 2:=⟨_,rfl⟩
    (have hml:m<l.length:=by omega);(have hmj:m<j:=by omega);(have hmi:i≤m:=by omega);(have e1:((i:Int)+((j:Int) - (i:Int)) / 2)=(m:Int):=by omega);have E1:=hid e1;clear e1 hm;obtain ⟨g,off,rfl,hgs,hcell⟩:=HRD.out.at_ hml;have low : ∀(p:Addr),p.block<w.heap.size→wr.cell? p=w.cell? p:=fun p hp=>(hB.cell (p:=p) (by omega)).trans (HB0.out.cell (p:=p) hp);have r0:=(low ⟨b,0,none⟩ hb).trans h0;have q0:=(low ⟨g,off+m*4,none⟩ hgs).trans (hcell 0 _ rfl);have q1:=(low ⟨g,off+m*4+1,none⟩ hgs).trans (hcell 1 _ rfl);have q2:=(low ⟨g,off+m*4+2,none⟩ hgs).trans (hcell 2 _ rfl);have q3:=(low ⟨g,off+m*4+3,none⟩ hgs).trans (hcell 3 _ rfl);have y0:=(hB.cell (p:=⟨w.heap.size,0,none⟩) hsz).trans hx0;have y1:=(hB.cell (p:=⟨w.heap.size,1,none⟩) hsz).trans hx1;have y2:=(hB.cell (p:=⟨w.heap.size,2,none⟩) hsz).trans hx2;have y3:=(hB.cell (p:=⟨w.heap.size,3,none⟩) hsz).trans hx3;(have b1:(0:Int)≤(m:Int):=by omega);(have b2:(m:Int)<(l.length:Int):=by omega);have hsw:W0.heap.size≤wr.heap.size:=hB.size;have N:=Zbt;have M:=Zfn;clear low hcell hx0 hx1 hx2 hx3 h0;have HB:=hid hB;clear hB;obtain ⟨y,hy⟩ : ∃y,y=l[m]:=⟨_,rfl⟩;rw [← hy] at q0 q1 q2 q3;have HY:=hid hy;clear hy;(have hbw:b<wr.heap.size:=by omega);(have hgw:g<wr.heap.size:=by omega);(have hww:w.heap.size<wr.heap.size:=by omega);(go_wp2_with fail);rw [E1.out]
    go_region_held3 (fun w'=>w'.cell? ⟨b,0,none⟩=some (.slice (some ⟨g,off,none⟩) l.length c)∧w'.cell? ⟨g,off+m*4,none⟩=some (.int .i64 y.kk.kind)∧w'.cell? ⟨g,off+m*4+1,none⟩=some (.string y.kk.text)∧w'.cell? ⟨g,off+m*4+2,none⟩=some (.int .i64 y.kk.n)∧w'.cell? ⟨g,off+m*4+3,none⟩=some (.int .i64 y.v)∧w'.cell? ⟨w.heap.size,0,none⟩=some (.int .i64 x.kk.kind)∧w'.cell? ⟨w.heap.size,1,none⟩=some (.string x.kk.text)∧w'.cell? ⟨w.heap.size,2,none⟩=some (.int .i64 x.kk.n)∧w'.cell? ⟨w.heap.size,3,none⟩=some (.int .i64 x.v))
     (first | go_keep | (refine ⟨?_,?_,?_,?_,?_,?_,?_,?_,?_⟩<;>exact (hb1.cell (by simpa using by assumption)).trans (by simp [*])))
     ((go_at_call 326;refine (Zlz y x _).mono ?_;rintro e w1 ⟨rfl,hb1⟩))
    have HB1:Below W0.heap.size W0 w1:=HB.out.drew.trans (hb1.mono hsw);clear r0 q0 q1 q2 q3 y0 y1 y2 y3 N M;by_cases hc:Z10 y x=0
    · have HC:=hid hc
      (have t1:(Z10 y x == 0)=true:=by simp [hc]);clear hc;(go_wp2_with fail);go_ret2;have e:=HC.out;rw [HY.out] at e;refine ⟨?_,HB0.out.trans (HB1.mono (by omega))⟩;rw [Z3j Z4b HS.out hml e,(Z4g Z4b HS.out hml e).2.2.1];rfl
    · have t1:(Z10 y x == 0)=false:=by simp [hc]
      by_cases hc2:Z10 y x<0
      · have HC:=hid hc2
        (have t2:decide (Z10 y x<0)=true:=by simpa using hc2);clear hc hc2;(go_wp2_with fail);go_roundw
        case rel=>
         refine ⟨m+1,j,by go_num,rfl,by omega,hj,fun k h1 h2=>?_,HHI.out,HB1⟩;have e:=HC.out;rw [HY.out] at e;rcases Nat.lt_or_ge k m with h3 | h3
         · exact Z4b.lt_of_lt_of_le (HS.out.lt h3 hml) (by omega)
         · obtain rfl:k=m:=by omega
           exact e
        case measure=>simp [intOf];omega
      · have t2:decide (Z10 y x<0)=false:=by simpa using hc2
        (have hc3:0<Z10 y x:=by omega);have HC:=hid hc3;clear hc hc2 hc3;(go_wp2_with fail);go_roundw
        case rel=>
         refine ⟨i,m,rfl,rfl,by omega,by omega,HLO.out,fun k h1 h2=>?_,HB1⟩;have e:=HC.out;rw [HY.out] at e;rcases Nat.lt_or_ge m k with h3 | h3
         · exact (Z4b.symm _ _).1 (Z4b.lt_trans ((Z4b.symm _ _).2 e) (HS.out.lt h3 h1))
         · obtain rfl:k=m:=by omega
           exact e
        case measure=>simp [intOf];omega
  · obtain rfl:i=j:=by omega
    have HB:=hid hB;clear hB;(go_wp2_with fail);go_ret2;refine ⟨?_,HB0.out.trans (HB.out.mono (by omega))⟩;rw [Z3i hj HLO.out HHI.out,(Z4v HLO.out HHI.out).2.2];rfl
theorem Zea:(Tryz.prog.info? 224).map (fun i=>(i.zero,i.size,i.bytes))=some (some (.agg #[.int .i64 0,.string ⟨#[]⟩,.int .i64 0,.int .i64 0]),4,40):=by kernel_rfl
theorem PgS.one (x:PgS) : ∀u∈PgS.cells x,u.oneCell'=true:=by intro u hu;simp [PgS.cells] at hu;rcases hu with rfl | rfl | rfl | rfl<;>rfl
theorem PgS.oneAll (l:List PgS) : ∀u∈l.flatMap PgS.cells,u.oneCell'=true:=by intro u hu;obtain ⟨x,_,hx⟩:=List.mem_flatMap.1 hu;exact PgS.one x u hx
def Z77 (w:World) (b:Nat) (sn:Bool) (A:Option Addr) (l:List PgS) (e:Ending) (w':World):Prop:=
 e = .returned (.tuple #[])∧∃A' c',Z2n w' b false A' c' l∧Fr (· = b) w w'∧Z1p w sn A false A'
theorem Zfw (b c:Nat) (A:Option Addr) (l:List PgS) (w:World) (hS:Z2n w b false A c l) :
 Calls Tryz.prog 225 #[.pointer (some ⟨b,0,none⟩)] w (Z77 w b false A l):=by
 have h1:=hS.cell1;have HS:=hid hS;clear hS;go_enter Tryz.func225,Tryz.ntmps225;go_wp2;go_end0;exact ⟨rfl,A,c,HS.out,Fr.refl _ _,.inl ⟨rfl,rfl⟩⟩
theorem Zdd (b c:Nat) (A:Option Addr) (l:List PgS) (w:World) (hS:Z2n w b true A c l) (hl:(l.length:Int)≤1000000000) :
 Calls Tryz.prog 225 #[.pointer (some ⟨b,0,none⟩)] w (Z77 w b true A l):=by
 obtain ⟨i0,hi,hz0,hz1,hz2⟩:=info_parts Zea;have h0:=hS.cell0;have h1:=hS.cell1;have hb:=hS.lt;have f0:=hS.blk.frozen 0;have f1:=hS.blk.frozen 1;have hrd:=hS.rd PgS.cells_length;have HB:=hid hS.blk;have HRD:=hid hrd;clear hS hrd;have e1:IntKind.i64.wrap ((l.length:Int)+1)=(l.length:Int)+1:=Zof _ (by omega)
 have hmk : ∀W:World,(Instr.makeSlice 279 (.int .i64 0) (.int .i64 ((l.length:Int)+1))).run Tryz.prog W = .ok (.slice (some ⟨W.heap.size,0,none⟩) 0 (l.length+1)) (W.alloc (.cells (madeCells (Value.cells (.agg #[.int .i64 0,.string ⟨#[]⟩,.int .i64 0,.int .i64 0])) ((l.length+1)*4)) 224)):=fun W=>by
  have h:=run_make (P:=Tryz.prog) W 279 224 i0 _ Tryz.underlying279 hi hz0 .i64 .i64 0 ((l.length:Int)+1) (by omega) (by omega) (by rw [hz2];omega) (by omega);rw [hz1] at h;simpa [show ((l.length:Int)+1).toNat=l.length+1 by omega] using h
 go_enter Tryz.func225,Tryz.ntmps225;(go_wp2_with fail);refine Z06 (fun w9=>Below w.heap.size w w9) [(0,0),(1,0),(2,0),(3,0),(4,1),(5,0),(6,0),(8,0),(9,0),(10,0),(11,1),(7,2),(12,2),(13,0),(14,0),(15,2)] (by kernel_rfl) (by kernel_rfl) (fun KK hKK=>?_);simp only [Z05,Zo9,Zo2,Zo7,Zo5,Zo6,Zoc];(repeat ((first | (refine Z0a ?_ (Or.inl ⟨by rfl,fun w9=>?_⟩) ?_;rotate_left 1;go_simp;with_reducible rfl) | (refine Z09 ?_ (((Znz _ _).drew)) (Or.inl ⟨by rfl,fun w9 hw9=>?_⟩) ?_;rotate_left 1;obtain ⟨hc9,hf9⟩:=Z0q hw9;go_simp;with_reducible rfl) | refine Z0a undef (Or.inr ⟨by rfl,rfl⟩) ?_ | refine Z09 undef (((Znz _ _).drew)) (Or.inr ⟨by rfl,rfl⟩) ?_);go_frame));refine Z29 (fun K9 hK9=>?_);go_simp;refine hK9 _ _ (((Znz _ _).drew).alloc (Zo0 _) _) ?_;clear hK9 K9;refine Z1n (by kernel_rfl) (fun K9 hK9=>?_)
 refine Z0i _ (by rfl) _ _ _ (by rfl) 224 i0 _ 4 40 Tryz.underlying279 hi hz0 hz1 hz2 rfl (by omega) _ 0 [] (by rfl) (World.ownsRow_made _ _ _ (Nat.zero_le _) (by unfold maxLen;omega) (by simp [madeCells])) A l.length c (l.flatMap PgS.cells) (by rfl) (Z0t PgS.cells_length l)
  ((HRD.out.drew.alloc _).news PgS.cells_length (by omega)) (PgS.oneAll l) (by unfold maxLen;omega) (by omega) ?_
 intro v2 w2 hown hgr hnil hat;refine hK9 _ _ ?_;clear hK9 K9;rw [Zov,Zom] at hown;obtain ⟨A',c',rfl,_,_,hz⟩:=Z0z hown;have HB1:=(HB.out.drew.alloc (.cells (madeCells (Value.cells (.agg #[.int .i64 0,.string ⟨#[]⟩,.int .i64 0,.int .i64 0])) ((l.length+1)*4)) 224)).grown hgr (by simp [Value.ownBlock];omega);have c0:=(HB1.cell 0).trans rfl;have c1:=(HB1.cell 1).trans rfl;have z0:=HB1.frozen 0;have z1:=HB1.frozen 1;have HB2:=hid HB1;clear HB1;(repeat ((first | (refine Z0a ?_ (Or.inl ⟨by rfl,fun w9=>?_⟩) ?_;rotate_left 1;go_simp;with_reducible rfl) | (refine Z09 ?_ (((Znz _ _).drew).alloc (Zo0 _) _) (Or.inl ⟨by rfl,fun w9 hw9=>?_⟩) ?_;rotate_left 1;obtain ⟨hc9,hf9⟩:=Z0q hw9;go_simp;with_reducible rfl) | refine Z0a undef (Or.inr ⟨by rfl,rfl⟩) ?_ | refine Z09 undef (((Znz _ _).drew).alloc (Zo0 _) _) (Or.inr ⟨by rfl,rfl⟩) ?_);go_frame));refine Z1n (by kernel_rfl) (fun K9 hK9=>?_);go_simp;refine hK9 _ _ ?_;clear hK9 K9;refine Z12 ?_;simp only [Z00];refine hKK _ _ ?_;clear hKK KK;go_wp2;go_end0
 have hb2:(Value.slice A' l.length c').ownBlock=some w.heap.size∨(Value.slice A' l.length c').ownBlock=some (w.heap.size+1):=by
  rcases hat with h | h
  · left;rw [h];rfl
  · right;rw [h];simp
 have hA : ∃g,w.heap.size≤g∧A'=some ⟨g,0,none⟩:=by
  rcases A' with _ | a
  · exfalso;simp [Value.ownBlock] at hb2
  · obtain ⟨g,rfl⟩:=hz a rfl
    refine ⟨g,?_,rfl⟩;simp [Value.ownBlock] at hb2;omega
 obtain ⟨g,hg,rfl⟩:=hA;have HB1:=HB2.out;have HF:Fr (· = b) w w2:=((Fr.refl (· = b) w).drew.alloc _).grown hgr (fun k e=>by simp [Value.ownBlock] at e;right;omega);refine ⟨rfl,some ⟨g,0,none⟩,c',⟨(HB1.set_ 0 _).set_ 1 _,?_⟩,(HF.setCell (p:=⟨b,0,none⟩) (.inl rfl) _).setCell (p:=⟨b,1,none⟩) (.inl rfl) _,.inr ⟨rfl,g,hg,rfl⟩⟩;(have hne:(Value.slice (some ⟨g,0,none⟩) l.length c').ownBlock≠some b:=by simp [Value.ownBlock];omega);exact ownsRow_setCell_other (a:=⟨b,1,none⟩) (ownsRow_setCell_other (a:=⟨b,0,none⟩) hown hne _) hne _
theorem Zms (b c:Nat) (sn:Bool) (A:Option Addr) (l:List PgS) (w:World) (hS:Z2n w b sn A c l) (hl:(l.length:Int)≤1000000000) :
 Calls Tryz.prog 225 #[.pointer (some ⟨b,0,none⟩)] w (Z77 w b sn A l):=by
 cases sn
 · exact Zfw b c A l w hS
 · exact Zdd b c A l w hS hl
end
end Go.Proofs.YtldndkngpdfpfaaGreat
