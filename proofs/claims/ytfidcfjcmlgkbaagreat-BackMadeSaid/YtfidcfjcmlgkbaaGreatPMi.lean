/-
  Texts put together: PutName, MiscName, NewName, WorkName, Known1, Known3, Known2, Known4, Known5, Shape1.
-/
import Derived.Test.YtfidcfjcmlgkbaaGreatPMh
namespace Go.Proofs.YtfidcfjcmlgkbaaGreat
open Lib (hid)
set_option maxRecDepth 100000
set_option maxHeartbeats 32000000
set_option linter.unusedSimpArgs false
section
open Go.RowKit
def Z6l (w:World) (b:Nat) (sn:Bool) (A:Option Addr) (l:List Name) (x:Name) (e:Ending) (w':World):Prop:=
 e = .returned (.bool (!has Z0o l x))∧∃sn' A' c',Z2p w' b sn' A' c' (put Z0o l x)∧Fr (Z1f b sn A) w w'∧Z32 w sn A sn' A'
theorem Z9w (b c:Nat) (sn:Bool) (A:Option Addr) (l:List Name) (x:Name) (w:World) (hS:Z2p w b sn A c l) (hs:Srt Z0o l) (hl:(l.length:Int)≤100000000) (hh:has Z0o l x=true) :
 Calls Tryz.prog 179 #[.pointer (some ⟨b,0,none⟩),.string x] w (Z6l w b sn A l x):=by
 have HS:=hid hS;have HO:=hid hs;clear hS hs;go_enter Tryz.func179,Tryz.ntmps179;(go_wp2_with fail);refine (Z92 b c sn A l x _ (HS.out.new_ (Znk _ _)) HO.out (by omega)).mono ?_;rintro e w1 ⟨rfl,hb1⟩;(go_wp2_with fail);go_ret;refine ⟨by rw [hh];rfl,sn,A,c,?_,Fr.of_new ((Znk _ _).trans (hb1.mono (by simp))),.inl ⟨rfl,rfl⟩⟩;rw [Z4z hh];exact HS.out.new_ ((Znk _ _).trans (hb1.mono (by simp)))
theorem Zct (b c:Nat) (sn:Bool) (A:Option Addr) (l:List Name) (x:Name) (w:World) (hS:Z2p w b sn A c l) (hs:Srt Z0o l) (hl:(l.length:Int)≤100000000) (hh:has Z0o l x=false) :
 Calls Tryz.prog 179 #[.pointer (some ⟨b,0,none⟩),.string x] w (Z6l w b sn A l x):=by
 obtain ⟨i0,hi,hz0,hz1,hz2⟩:=info_parts Zc9;have HS:=hid hS;have HO:=hid hs;have hb:=hS.lt;clear hS hs;have hrk:=Z6p (cmp:=Z0o) l x;go_enter Tryz.func179,Tryz.ntmps179;(go_wp2_with fail);have hSa:=HS.out.new_ (Znk w.heap.size w);have HSa:=hid hSa;clear hSa;refine (Z92 b c sn A l x _ HSa.out HO.out (by omega)).mono ?_;rintro e w1 ⟨rfl,hb1⟩;have HS1:=hid (HSa.out.new_ hb1);(have hsz1:w.heap.size≤w1.heap.size:=by have:=hb1.size;(try simp at this);omega);have HB1:=hid hb1;clear hb1;(go_wp2_with fail);refine (Zkr b c sn A l _ HS1.out (by omega)).mono ?_;rintro e w2 ⟨rfl,A1,c1,hS2,hF2,hM2⟩;have hsz2:w1.heap.size≤w2.heap.size:=hF2.size;have s0:=hS2.cell0;have f0:=hS2.blk.frozen 0;(have hb2:b<w2.heap.size:=by omega);have HS2:=hid hS2;have HF2:=hid hF2;have HM2:=hid hM2;clear hS2 hF2 hM2
 go_upto_region 8 with
  (at_builtin;refine Z00 (w2.alloc (.cells #[.string x] 216)) rfl (.tmp 23) (.tmp 25) 268 rfl 216 i0 _ 1 16 Tryz.underlying268 hi hz0 hz1 hz2 rfl (by omega) (.slice A1 l.length c1) l.length (l.flatMap Name.cells) rfl (Z05 HS2.out.row ((Znk _ _).alloc (Znl _) _)) (some ⟨w2.heap.size,0,none⟩) 1 1 (Name.cells x) rfl rfl (fun _=>⟨_,rfl,Zo7 (heap_alloc_new _ _)⟩) (Name.one x) (by unfold maxLen;omega) (by omega) ?_;
   intro v2 w3 hown hgr hnil hat;
   obtain ⟨g,c2,rfl⟩:∃g c2,v2 = .slice (some ⟨g,0,none⟩) (l.length+1) c2:=(by
    rcases Z0h hown with ⟨_,h0,_⟩|⟨g,c2,h,_⟩
    · omega
    · exact ⟨g,c2,h⟩);
   have HB3':=(HS2.out.blk.alloc (.cells #[.string x] 216)).grown hgr (Z02 HS2.out.row HS2.out.blk (by decide));
   have c0:=(HB3'.cell 0).trans rfl;
   have z0:=HB3'.frozen 0;
   have HB3:=hid HB3';
   have HOWN:=hid hown;
   have HGR:=hid hgr;
   clear HB3' hown hgr)
 have hlg:((l.length+1:Nat):Int)=(l.length:Int)+1:=by omega
 have hG:(Z1f b sn A g∨w.heap.size≤g)∧Z32 w sn A false (some ⟨g,0,none⟩)∧True∧g≠b:=by
  rcases hat with h|h
  · rcases A1 with _|a1
    · simp [Value.ownBlock] at h
    · obtain ⟨A',c',hv,_,_,hz⟩:=Z0v HS2.out.row
      injection hv with hv _ _;obtain ⟨g',rfl⟩:=hz a1 hv.symm;(have hgg:g'=g:=by simpa [Value.ownBlock] using h.symm);subst hgg;have hne:g'≠b:=HS2.out.row_ne (by decide) _ rfl;rcases HM2.out with ⟨hsn,hA⟩|⟨_,g2,hg2,hA⟩
      · have h1:=HS.out.row_lt _ hA.symm
        exact ⟨.inl (.inr ⟨hsn.symm,_,hA.symm,rfl⟩),.inl ⟨hsn,hA⟩,True.intro,hne⟩
      · injection hA with hA
        injection hA with hA;subst hA;exact ⟨.inr (by omega),.inr ⟨rfl,_,by omega,rfl⟩,True.intro,hne⟩
  · have hgg:g=w2.heap.size+1:=by simpa [Value.ownBlock] using h
    subst hgg;exact ⟨.inr (by omega),.inr ⟨rfl,_,by omega,rfl⟩,True.intro,by omega⟩
 obtain ⟨hgM,hgMv,hgk1,hgb⟩:=hG;obtain ⟨w4,hw4⟩:∃w4,w4=w3.setCell ⟨b,0,none⟩ (.slice (some ⟨g,0,none⟩) (l.length+1) c2):=⟨_,rfl⟩;have hB4:Blk w4 b 270 #[.slice (some ⟨g,0,none⟩) (l.length+1) c2,.bool false]:=by rw [hw4];exact HB3.out.set_ 0 _
 have hR4:w4.ownsRow 0 216 1 (.slice (some ⟨g,0,none⟩) (l.length+1) c2) (l.length+1) ((Z0s l x l.length).flatMap Name.cells):=by
  rw [hw4,Z2y];refine ownsRow_setCell_other (a:=⟨b,0,none⟩) ?_ (by simpa [Value.ownBlock] using hgb) _;rw [Zny,List.flatMap_singleton];exact HOWN.out
 have hF4:Fr (Z1f b sn A) w w4:=by
  rw [hw4];have h1:Fr (Z1f b sn A) w w1:=Fr.of_new ((Znk _ _).trans (HB1.out.mono (by simp)));have h2:Fr (Z1f b sn A) w w2:=h1.trans (HF2.out.mono (fun k _ h=>.inl h));refine ((h2.alloc _).grown HGR.out (fun k hk=>?_)).setCell (p:=⟨b,0,none⟩) (.inl (.inl rfl)) _;rcases A1 with _|a1
  · cases hk
  · simp only [Value.ownBlock,Option.some.injEq] at hk
    subst hk;rcases HM2.out with ⟨hsn,hA⟩|⟨_,g',hg',hA⟩
    · left;right;exact ⟨hsn.symm,a1,hA.symm,rfl⟩
    · injection hA with hA
      subst hA;right;dsimp only;omega
 rw [←hw4];have HgM:=hid hgM;have HgMv:=hid hgMv;have HB4:=hid hB4;have HR4:=hid hR4;have HF4:=hid hF4;have s4:=hB4.cell 0;have s4':w4.cell? ⟨b,0,none⟩=some (.slice (some ⟨g,0,none⟩) (l.length+1) c2):=s4;clear s4 hw4 hB4 hR4 hF4 hat hgM hgMv hnil  s0 f0;go_wp2_with fail
 go_loopw [7] (fun s wr=>∃i:Nat,s = .int .i64 i∧rank Z0o l x≤i∧i≤l.length∧wr.ownsRow 0 216 1 (.slice (some ⟨g,0,none⟩) (l.length+1) c2) (l.length+1) ((Z0s l x i).flatMap Name.cells)∧Fr (· = g) w4 wr) (fun s wr=>(intOf s).toNat)
 case atStart=>exact ⟨l.length,by go_num,hrk,Znl _,HR4.out,Fr.refl _ _⟩
 case round=>
  obtain ⟨i,rfl,hi1,hi2,hown,hfr⟩:=hrel;have hgw:g<wr.heap.size:=(hown.lt g rfl).2;have r0:wr.cell? ⟨b,0,none⟩=some (.slice (some ⟨g,0,none⟩) (l.length+1) c2):=(hfr.cell (p:=⟨b,0,none⟩) HB4.out.lt (fun h=>hgb h.symm)).trans s4';have fz :∀o,wr.frozen? ⟨g,o,none⟩=false:=fun o=>hown.frozenAt o;have HOW:=hid hown;have HFR:=hid hfr;clear hown hfr;by_cases hlt:rank Z0o l x<i
  · obtain ⟨j,rfl⟩:∃j,i=j+1:=⟨i - 1,by omega⟩
    (have hj:j<l.length:=by omega);have hrd:=Z0d (A:=some ⟨g,0,none⟩) (c:=c2) (l:=Z0s l x (j+1)) Name.cells_length (by rw [Z0g l x hi2];exact HOW.out);obtain ⟨g',o',hgo,_,hcell⟩:=hrd.at_ (k:=j) (by rw [Z0g l x hi2];omega);injection hgo with hgo;injection hgo with hg1 hg2;subst hg1;subst hg2;rw [Z3a l x hj] at hcell;have q0:wr.cell? ⟨g,j,none⟩=some (.string l[j]):=by simpa using hcell 0 _ rfl
    have rmj:Room wr g 216 (c2*1)∧l.length+1≤c2:=by
     rcases Z0h HOW.out with ⟨hv,_⟩|⟨g',cap,hv,hn,_,hr,_⟩
     · cases hv
     · injection hv with hA _ hc
       injection hA with hA;injection hA with hA;subst hA;subst hc;exact ⟨hr,hn⟩
    obtain ⟨hrm,hcap⟩:=rmj;obtain ⟨u0,t0⟩:=hrm.cell (i:=(j+1)) (by omega);(have b0:(0:Int)≤(j:Int)+1:=by omega);(have b1:(0:Int)≤(j:Int):=by omega);(have b4:(j:Int)<(l.length:Int):=by omega);(have b2:(j:Int)<(l.length:Int)+1:=by omega);(have b3:(j:Int)+1<(l.length:Int)+1:=by omega);have w1:IntKind.i64.wrap ((j:Int))=(j:Int):=Znu _ (by omega);(have w2:IntKind.i64.wrap ((j:Int)+1 - 1)=(j:Int):=by rw [Znu _ (by omega)];omega);clear hcell hrd hrm;obtain ⟨y,hy⟩:∃y,y=l[j]:=⟨_,rfl⟩;rw [←hy] at q0;have HY:=hid hy;have hbw:b<wr.heap.size:=Znx wr _ r0;clear hy;(go_wp2_with fail);refine Z0c (fun w9=>Below wr.heap.size wr w9) [(0,0),(1,0),(2,0),(3,1),(4,0),(5,0),(6,0),(7,0),(8,1),(9,0),(10,0),(11,0),(12,1),(13,0),(14,2)] (by kernel_rfl) (by kernel_rfl) (fun KK hKK=>?_);simp only [Z0w,Znz,Znt,Znv,Znr,Zns,Zo1];(repeat ((first|(refine Z0m ?_ (Or.inl ⟨by rfl,fun w9=>?_⟩) ?_;rotate_left 1;go_simp;with_reducible rfl)|(refine Z0k ?_ (((Znk _ _).drew)) (Or.inl ⟨by rfl,fun w9 hw9=>?_⟩) ?_;rotate_left 1;obtain ⟨hc9,hf9⟩:=Z1e hw9;go_simp;with_reducible rfl)|refine Z0m undef (Or.inr ⟨by rfl,rfl⟩) ?_|refine Z0k undef (((Znk _ _).drew)) (Or.inr ⟨by rfl,rfl⟩) ?_);go_frame));refine Z1y (by kernel_rfl) (fun K9 hK9=>?_);go_simp;refine hK9 _ _ ?_;clear hK9 K9;refine Z16 ?_;simp only [Z04];refine hKK _ _ ?_;clear hKK KK;(go_wp2_with fail);go_roundw
    case rel=>
     refine ⟨j,by go_num,by omega,by omega,?_,Fr.drew ((HFR.out).setCell (p:=⟨g,(j+1),none⟩) (.inl rfl) (_))⟩;have hst:=((HOW.out).stored ((j+1)) (.string y)).1
     have he:setAll ((Z0s l x (j+1)).flatMap Name.cells) ((j+1)) (Name.cells y)=(Z0s l x j).flatMap Name.cells:=by
      rw [Z4h Name.cells_length (by omega) _ (j+1) (by rw [Z0g l x hi2];omega),HY.out,Z3b l x hj]
     rw [←he];exact hst
    case measure=>simp [intOf]<;>omega
  · obtain rfl:i=rank Z0o l x:=by omega
    have rmj:Room wr g 216 (c2*1)∧l.length+1≤c2:=by
     rcases Z0h HOW.out with ⟨hv,_⟩|⟨g',cap,hv,hn,_,hr,_⟩
     · cases hv
     · injection hv with hA _ hc
       injection hA with hA;injection hA with hA;subst hA;subst hc;exact ⟨hr,hn⟩
    obtain ⟨hrm,hcap⟩:=rmj;obtain ⟨k,hk⟩:∃k,k=rank Z0o l x:=⟨_,rfl⟩;rw [←hk] at hi2 hlt ⊢;obtain ⟨u0,t0⟩:=hrm.cell (i:=k) (by omega);(have b1:(0:Int)≤(k:Int):=by omega);(have b2:(k:Int)<(l.length:Int)+1:=by omega);have HK:=hid hk;have hbw:b<wr.heap.size:=Znx wr _ r0;clear hrm hk;(go_wp2_with fail);go_ret;have HOWk:=HOW.out;rw [←HK.out] at HOWk;have hst:=((HOWk).stored (k) (.string x)).1
    have he:setAll ((Z0s l x k).flatMap Name.cells) (k) (Name.cells x)=(put Z0o l x).flatMap Name.cells:=by
     rw [Z4h Name.cells_length (by omega) _ k (by rw [Z0g l x hi2];omega),Z3t l x hi2,Z9b Z3u HO.out hh,HK.out]
    have hln:=Z3s Z3u HO.out hh;refine ⟨by rw [hh];rfl,false,some ⟨g,0,none⟩,c2,⟨?_,?_⟩,?_,?_⟩
    · rw [hln]
      exact (HB4.out.fr HFR.out (fun h=>hgb h.symm)).far (p:=⟨g,k,none⟩) (fun h=>hgb h.symm) _
    · rw [hln,←he]
      exact hst
    · exact HF4.out.into (((HFR.out).setCell (p:=⟨g,k,none⟩) (.inl rfl) (_))) (fun k hk=>by subst hk;exact HgM.out)
    · exact HgMv.out
theorem Zf7 (b c:Nat) (sn:Bool) (A:Option Addr) (l:List Name) (x:Name) (w:World) (hS:Z2p w b sn A c l) (hs:Srt Z0o l) (hl:(l.length:Int)≤100000000) :
 Calls Tryz.prog 179 #[.pointer (some ⟨b,0,none⟩),.string x] w (Z6l w b sn A l x):=by
 cases hh:has Z0o l x
 · exact Zct b c sn A l x w hS hs hl hh
 · exact Z9w b c sn A l x w hS hs hl hh
theorem Zgm (b c:Nat) (sn:Bool) (A:Option Addr) (l:List Name) (x:Name) (w:World) (hS:Z2p w b sn A c l) (hs:Srt Z0o l) (hl:(l.length:Int)≤1000000000) :
 Calls Tryz.prog 204 #[.pointer (some ⟨b,0,none⟩),.string x] w (Zbn l x w):=by
 have HS:=hid hS;have HO:=hid hs;clear hS hs;go_enter Tryz.func204,Tryz.ntmps204;(go_wp2_with fail);refine (Z92 b c sn A l x _ (HS.out.new_ (Znk _ _)) HO.out (by omega)).mono ?_;rintro e w1 ⟨rfl,hb1⟩;(go_wp2_with fail);go_ret2;exact ⟨rfl,(Znk _ _).trans (hb1.mono (by simp))⟩
def Zal (w:World) (b:Nat) (A:Option Addr) (c:Nat) (l:List Name) (e:Ending) (w':World):Prop:=
 ∃k,e = .returned (.pointer (some ⟨k,0,none⟩))∧w.heap.size≤k∧Z2p w' b true A c l∧Z2p w' k true A c l∧Fr (· = b) w w'
theorem Zft (b c:Nat) (sn:Bool) (A:Option Addr) (l:List Name) (w:World) (hS:Z2p w b sn A c l) :
 Calls Tryz.prog 201 #[.pointer (some ⟨b,0,none⟩)] w (Zal w b A c l):=by
 have s0:=hS.cell0;have s1:=hS.cell1;have f1:=hS.blk.frozen 1;have hb:=hS.lt;have HS:=hid hS;clear hS;go_enter Tryz.func201,Tryz.ntmps201;go_wp2;go_ret;have h1:Z2p (w.setCell ⟨b,1,none⟩ (.bool true)) b true A c l:=⟨HS.out.blk.set_ 1 _,ownsRow_setCell_other HS.out.row (Z02 HS.out.row HS.out.blk (by decide)) _⟩;refine ⟨w.heap.size,by simp,Znl _,h1.new_ ((Znk _ _).alloc (Znl _) _),⟨?_,Z05 h1.row ((Znk _ _).alloc (Znl _) _)⟩,((Fr.refl (· = b) w).setCell (p:=⟨b,1,none⟩) (.inl rfl) _).alloc _⟩;have h2:=Blk.new (w.setCell ⟨b,1,none⟩ (.bool true)) 270 #[.slice A l.length c,.bool true];simpa using h2
def Zd5 (w:World) (xs:List Name) (e:Ending) (w':World):Prop:=
 ∃k,e = .returned (.pointer (some ⟨k,0,none⟩))∧w.heap.size≤k∧∃sn A c,Z2p w' k sn A c (puts Z0o [] xs)∧AIn A (w.heap.size≤·)∧Below w.heap.size w w'
theorem Zkj (A:Option Addr) (c:Nat) (xs:List Name) (w:World) (hrd:Z0z w 1 Name.cells A c xs) (hl:(xs.length:Int)≤10000000) :
 Calls Tryz.prog 137 #[.slice A xs.length c] w (Zd5 w xs):=by
 have HRD:=hid hrd;clear hrd;go_enter Tryz.func137,Tryz.ntmps137;(go_wp2_with fail);obtain ⟨W0,hW0⟩:∃W0,W0=w.alloc (.cells #[.slice none 0 0,.bool false] 270):=⟨_,rfl⟩;(have hb0:Below w.heap.size w W0:=by rw [hW0];exact (Znk _ _).alloc (Znl _) _);have hS0:Z2p W0 w.heap.size false none 0 []:=⟨by rw [hW0];exact Blk.new _ _ _,⟨by simp,.inl ⟨rfl,rfl⟩⟩⟩;rw [←hW0];clear hW0;have HB0:=hid hb0;have HS0:=hid hS0;clear hb0 hS0
 go_loopw [10] (fun s wr=>∃i:Nat,s = .int .i64 i∧i≤xs.length∧∃sn A' c',Z2p wr w.heap.size sn A' c' (puts Z0o [] (xs.take i))∧AIn A' (w.heap.size≤·)∧Below w.heap.size w wr) (fun s wr=>xs.length - (intOf s).toNat)
 case atStart=>exact ⟨0,rfl,Nat.zero_le _,false,none,0,HS0.out,AIn.none_ _,HB0.out⟩
 case round=>
  obtain ⟨i,rfl,hi,sn,A',c',hS,hA',hB⟩:=hrel;have HS:=hid hS;have HA:=hid hA';have HB:=hid hB;clear hS hA' hB;by_cases hlt:i<xs.length
  · obtain ⟨x,hx⟩:∃x,x=xs[i]:=⟨_,rfl⟩
    obtain ⟨g,off,rfl,hgs,hcell⟩:=(HRD.out.fr (Fr.of_new (M:=fun _=>False) HB.out) (fun _ _ h=>h)).at_ hlt;rw [←hx] at hcell;(have q0:wr.cell? ⟨g,off+i,none⟩=some (.string x):=by simpa using hcell 0 _ rfl);(have b1:(0:Int)≤(i:Int):=by omega);(have b2:(i:Int)<(xs.length:Int):=by omega);have HX:=hid hx;clear hcell hx;(go_wp2_with fail);have hsr:=Srt.puts Z3u (xs.take i) (Srt.nil (cmp:=Z0o))
    have hlen:(((puts Z0o [] (xs.take i)).length:Nat):Int)≤100000000:=by
     have:=Z1d Z3u (xs.take i) (Srt.nil (cmp:=Z0o));simp at this;omega
    refine (Zf7 w.heap.size c' sn A' _ x _ (HS.out.new_ (Znk _ _)) hsr hlen).mono ?_;rintro e w1 ⟨rfl,sn2,A2,c2,hS2,hF2,hM2⟩
    have hB1:Below w.heap.size w w1:=(HB.out).trans (hF2.below (by have:=HB.out.size;(try simp);omega) (fun k hk hm=>by
     rcases hm with hm|⟨_,a,ha,hm⟩
     · omega
     · have:=HA.out a ha;omega))
    have hA2:AIn A2 (w.heap.size≤·):=by
     rcases hM2 with ⟨_,rfl⟩|⟨_,g2,hg2,rfl⟩
     · exact HA.out
     · intro a ha;cases ha;have:=HB.out.size;(try simp at hg2 ⊢);omega
    have HS2:=hid hS2;have HB1:=hid hB1;have HA2:=hid hA2;clear hS2 hB1 hA2 hF2 hM2 hsr hlen q0;(go_wp2_with fail);go_roundw
    case rel=>
     refine ⟨i+1,by go_num,by omega,sn2,A2,c2,?_,HA2.out,HB1.out⟩;rw [Zor,Znq hlt,←HX.out];simp only [Option.toList_some,Z36];exact HS2.out
    case measure=>simp [intOf]<;>omega
  · have hie:i=xs.length:=by omega
    subst hie;(go_wp2_with fail);go_ret;refine ⟨w.heap.size,rfl,Znl _,sn,A',c',?_,HA.out,HB.out⟩;have:=HS.out;rwa [Zo6] at this
abbrev Z2k:=Sets (α:=Name) 270 216 1 Name.cells Z0o
section
variable {D:Nat→Prop}{w:World}{S:Nat→Option (List Name)}{σ:Nat→St}{b:Nat}{l:List Name}
def Zd2 (D:Nat→Prop) (w:World) (S:Nat→Option (List Name)) (σ:Nat→St) (b:Nat) (l:List Name) (w':World):Prop:=
 ∃σ',Z2k D w' (upd S b (some l)) σ'∧(∀k,k≠b→σ' k=σ k)∧Fr (fun k=>¬D k) w w'∧Fr (Z1f b (σ b).sn (σ b).A) w w'
theorem Ziz (x:Name) (h:Z2k D w S σ) (hb:S b=some l) (hl:(l.length:Int)≤100000000) :
 Calls Tryz.prog 179 #[.pointer (some ⟨b,0,none⟩),.string x] w fun e w'=>e = .returned (.bool (!has Z0o l x))∧Zd2 D w S σ b (put Z0o l x) w':=by
 refine (Zf7 b _ _ _ l x w (h.at_ b l hb) (h.srt b l hb) hl).mono ?_;rintro e w' ⟨he,sn',A',c',h1,hF,hM⟩;exact ⟨he,_,h.moved (by decide) hb h1 ((h.srt b l hb).put Z3u x) hF hM,fun k hk=>Z1q _ _ hk,h.mod hb hF,hF⟩
def Zje (D:Nat→Prop) (w:World) (S:Nat→Option (List Name)) (_:Nat→St) (l:List Name) (e:Ending) (w':World):Prop:=
 ∃k,e = .returned (.pointer (some ⟨k,0,none⟩))∧w.heap.size≤k∧(∀b l,S b=some l→b≠k)∧∃σ',Z2k D w' (upd S k (some l)) σ'∧Fr (fun k=>¬D k) w w'
theorem Ziy (A:Option Addr) (c:Nat) (xs:List Name) (h:Z2k D w S σ) (hrd:Z0z w 1 Name.cells A c xs) (hl:(xs.length:Int)≤10000000) :
 Calls Tryz.prog 137 #[.slice A xs.length c] w fun e w'=>Zje D w S σ (puts Z0o [] xs) e w'∧Below w.heap.size w w':=by
 refine (Zkj A c xs w hrd hl).mono ?_;rintro e w' ⟨k,he,hk,sn,A',c',h1,hA,hB⟩;exact ⟨⟨k,he,hk,fun b l hb e=>by have:=h.lt hb;omega,_,h.add hk h1 (Srt.puts Z3u xs Srt.nil) (.inl hA) hB,Fr.of_new hB⟩,hB⟩
theorem Zeb (h:Z2k D w S σ) (hb:S b=some l) :
 Calls Tryz.prog 201 #[.pointer (some ⟨b,0,none⟩)] w fun e w'=>∃k,e = .returned (.pointer (some ⟨k,0,none⟩))∧w.heap.size≤k∧(∀b l,S b=some l→b≠k)∧
  ∃σ',Z2k D w' (upd S k (some l)) σ'∧(∀j,j≠k→j≠b→σ' j=σ j)∧(σ' b).sn=true∧(σ' b).A=(σ b).A∧(σ' k).sn=true∧(σ' k).A=(σ b).A∧Fr (fun k=>¬D k) w w'∧Fr (· = b) w w':=by
 refine (Zft b _ _ _ l w (h.at_ b l hb)).mono ?_;rintro e w' ⟨k,he,hk,h1,h2,hF⟩;(have hnb:b≠k:=fun e=>by have:=h.lt hb;omega);have hD:Fr (fun k=>¬D k) w w':=hF.mono (fun k _ hk=>by rw [hk];exact (h.out b l hb).1);have hs:=h.seen (by decide) hb h1 hF;have hrow:=(h.at_ b l hb).row_lt;refine ⟨k,he,hk,fun b l hb e=>by have:=h.lt hb;omega,upd (upd σ b ⟨true,(σ b).A,(σ b).c⟩) k ⟨true,(σ b).A,(σ b).c⟩,⟨fun j m hj=>?_,fun j m hj=>?_,fun j m hj=>?_,fun j m j' m' hj hj' hjj hsj a a' ha ha'=>?_,hs.low⟩,fun j h1 h2=>by rw [Z1q _ _ h1,Z1q _ _ h2],by rw [Z1q _ _ hnb,Z0r],by rw [Z1q _ _ hnb,Z0r],by rw [Z0r],by rw [Z0r],hD,hF⟩
 · by_cases e:j=k
   · subst e;rw [Z0r] at hj ⊢;cases hj;exact h2
   · rw [Z1q _ _ e] at hj ⊢;exact hs.at_ j m hj
 · by_cases e:j=k
   · subst e;rw [Z0r] at hj;cases hj;exact h.srt b l hb
   · rw [Z1q _ _ e] at hj;exact h.srt j m hj
 · by_cases e:j=k
   · subst e;rw [Z0r] at hj ⊢;cases hj
     exact ⟨fun hd=>by have:=h.low _ hd;omega,fun hs2=>by cases hs2⟩
   · rw [Z1q _ _ e] at hj ⊢;exact hs.out j m hj
 · by_cases e:j=k
   · subst e;rw [Z0r] at hsj;cases hsj
   · rw [Z1q _ _ e] at hj hsj ha
     by_cases e2:j'=k
     · subst e2
       rw [Z0r] at ha';by_cases e3:j=b
       · subst e3;rw [Z0r] at hsj;cases hsj
       · exact hs.apart j m b l hj hb e3 hsj a a' ha (by rw [Z0r];exact ha')
     · rw [Z1q _ _ e2] at hj' ha'
       exact hs.apart j m j' m' hj hj' hjj hsj a a' ha ha'
end
end
section
open Go.RowKit Go.Shelf
structure KnS (W:World) (S:Nat→Option (List Name)) (kb sb:Nat) (K:Kn) (A:Option Addr) (c:Nat):Prop where
 blk:Blk W kb 218 #[.pointer (some ⟨sb,0,none⟩),.slice A K.2.length c]
 row:W.ownsRow 0 9 1 (.slice A K.2.length c) K.2.length (K.2.map Value.string)
 set:S sb=some K.1
theorem Zhr {D:Nat→Prop}{W:World}{S:Nat→Option (List Name)}{σ:Nat→St}{kb sb:Nat}{K:Kn}{A:Option Addr}{c:Nat}(v:ByteArray) (hN:Z2k D W S σ) (hK:KnS W S kb sb K A c) (hl:(K.1.length:Int)≤1000000) :
 Calls Tryz.prog 182 #[.pointer (some ⟨kb,0,none⟩),.string v] W fun e W'=>e = .returned (.bool (hasK K v))∧Below W.heap.size W W':=by
 have s0:W.cell? ⟨kb,0,none⟩=some (.pointer (some ⟨sb,0,none⟩)):=(hK.blk.cell 0).trans rfl;have hkl:=hK.blk.lt;have HS:=hid (hN.at_ sb K.1 hK.set);have HO:=hid (hN.srt sb K.1 hK.set);clear hN hK;go_enter Tryz.func182,Tryz.ntmps182;(go_wp2_with fail);refine (Zgm sb _ _ _ K.1 v _ HS.out HO.out (by omega)).mono ?_;rintro e w1 ⟨rfl,hb1⟩;(go_wp2_with fail);go_ret;exact ⟨rfl,hb1⟩
theorem Zhs {D:Nat→Prop}{W:World}{S:Nat→Option (List Name)}{σ:Nat→St}{kb sb:Nat}{K:Kn}{A:Option Addr}{c:Nat}(hN:Z2k D W S σ) (hK:KnS W S kb sb K A c) :
 Calls Tryz.prog 180 #[.pointer (some ⟨kb,0,none⟩)] W fun e W'=>∃kb' sb',e = .returned (.pointer (some ⟨kb',0,none⟩))∧W.heap.size≤kb'∧W.heap.size≤sb'∧(∃σ',Z2k D W' (upd S sb' (some K.1)) σ')∧KnS W' (upd S sb' (some K.1)) kb' sb' (K.1,[]) none 0∧Fr (fun j=>¬D j) W W'∧Fr (· = sb) W W':=by
 have s0:W.cell? ⟨kb,0,none⟩=some (.pointer (some ⟨sb,0,none⟩)):=(hK.blk.cell 0).trans rfl;have hkl:=hK.blk.lt;have HN:=hid hN;have HS:=hid hK.set;clear hN hK;go_enter Tryz.func180,Tryz.ntmps180;(go_wp2_with fail);refine (Zeb HN.out HS.out).mono ?_;rintro e w1 ⟨k,rfl,hk,_,σ',h1,_,_,_,_,_,hF,hFb⟩;have H1:=hid h1;have HF:=hid hF;have HFb:=hid hFb;clear h1 hF hFb;(go_wp2_with fail);go_ret;have hn:Below w1.heap.size w1 (w1.alloc (.cells #[.pointer (some ⟨k,0,none⟩),.slice none 0 0] 218)):=(Znk _ _).alloc (Znl _) _;exact ⟨w1.heap.size,k,rfl,HF.out.size,hk,⟨σ',H1.out.below hn⟩,⟨Blk.new _ _ _,Z68 _ _ _ _,Z0r _ _ _⟩,HF.out.trans (Fr.of_new hn),HFb.out.trans (Fr.of_new hn)⟩
theorem Zht {D:Nat→Prop}{W:World}{S:Nat→Option (List Name)}{σ:Nat→St}{kb sb:Nat}{K:Kn}{A:Option Addr}{c:Nat}(a:Z2o) (hN:Z2k D W S σ) (hK:KnS W S kb sb K A c) (hl:(K.1.length:Int)≤1000000) :
 Calls Tryz.prog 139 #[.pointer (some ⟨kb,0,none⟩),.agg #[.string a.var,.int .i64 a.sym.kind,.string a.sym.text,.int .i64 a.sym.n]] W fun e W'=>e = .returned (.bool (Z34 K a))∧Below W.heap.size W W':=by
 have HN:=hid hN;have HK:=hid hK;clear hN hK;by_cases hv:a.var.toList = []
 · have v1:(a.var.toList == [])=true:=by simp [hv]
   (have v2:a.var.toList.isEmpty=true:=by simp [hv]);(have v3:decide (a.var.toList = [])=true:=by simp [hv]);have HR:=hid (show Z34 K a=false by simp [Z34,hv]);clear hv;go_enter Tryz.func139,Tryz.ntmps139;(go_wp2_with fail);go_ret;exact ⟨by rw [HR.out]<;>rfl,(Znk _ _).alloc (Znl _) _⟩
 · have v1:(a.var.toList == [])=false:=by simp [hv]
   (have v2:a.var.toList.isEmpty=false:=by simp [hv]);(have v3:decide (a.var.toList = [])=false:=by simp [hv]);have HR:=hid (show Z34 K a = !hasK K a.var by simp [Z34,hv]);clear hv;go_enter Tryz.func139,Tryz.ntmps139;(go_wp2_with fail);have hb:=(Znk W.heap.size W).alloc (Znl _) (.cells #[.string a.var,.int .i64 a.sym.kind,.string a.sym.text,.int .i64 a.sym.n] 91);refine (Zhr a.var (HN.out.below hb) ⟨HK.out.blk.new_ hb,Z05 HK.out.row hb,HK.out.set⟩ hl).mono ?_;rintro e w1 ⟨rfl,hb1⟩;have HB:=hid (hb.trans (hb1.mono (by simp)));clear hb hb1;(go_wp2_with fail);go_ret;exact ⟨by rw [HR.out]<;>rfl,HB.out⟩
theorem Sets.off_of {α:Type}{tSet tE size:Nat}{cells:α→List Value}{cmp:α→α→Int}{D:Nat→Prop}{w:World}{S:Nat→Option (List α)}{σ:Nat→St}{k:Nat}{t:TypeId}{cs:Array Value}(h:Sets tSet tE size cells cmp D w S σ) (hB:Blk w k t cs) (n1:t≠tSet) (n2:t≠tE):Off k S σ:=
 fun b l hb=>⟨fun e=>hB.ne_ (h.at_ b l hb).blk n1 e.symm,fun a ha e=>by
  have:=Z02 (h.at_ b l hb).row hB (Ne.symm n2);rw [ha] at this
  exact this (by simp [Value.ownBlock,e])⟩
theorem Sets.offM {α:Type}{tSet tE size:Nat}{cells:α→List Value}{cmp:α→α→Int}{D M:Nat→Prop}{w w':World}{S:Nat→Option (List α)}{σ:Nat→St}(h:Sets tSet tE size cells cmp D w S σ) (ho :∀q,M q→Off q S σ) (hF:Fr M w w'):Sets tSet tE size cells cmp D w' S σ:=
 ⟨fun b l hb=>(h.at_ b l hb).fr hF (fun hd=>(ho b hd b l hb).1 rfl) (fun a ha hd=>(ho _ hd b l hb).2 a ha rfl),h.srt,h.out,h.apart,fun k hk=>Znn (h.low k hk) hF.size⟩
theorem Zkt {α:Type}{tSet tE size:Nat}{cells:α→List Value}{w w':World}{b:Nat}{sn:Bool}{A:Option Addr}{c:Nat}{l:List α}{e sz n:Nat}{v:Value}{xs:List Value}(hS:Z25 tSet tE size cells w b sn A c l) (h:w.ownsRow 0 e sz v n xs) (n1:e≠tSet) (n2:e≠tE) (hF:Fr (Z1f b sn A) w w'):w'.ownsRow 0 e sz v n xs:=
 ⟨h.1,h.2.imp id fun ⟨g,cap,cur,hv,h0,hg,hr⟩=>⟨g,cap,cur,hv,h0,Blk.fr (t:=e) hg hF (Zh6 hS hg n1 n2),hr⟩⟩
theorem Zkl {Y:World}{t:TypeId}{cs:List Value}{k:Nat}(hk:Y.heap.size=k):∀(j:Nat) (u:Value),cs[j]? = some u→(Y.alloc (.cells cs.toArray t)).cell? ((⟨k,0,none⟩:Addr).add j)=some u:=by
 subst hk;exact Zo7 (heap_alloc_new _ _)
def Zll (D:Nat→Prop) (W:World) (S:Nat→Option (List Name)) (kb sb:Nat) (K:Kn) (v:ByteArray) (W':World):Prop:=
 ∃σ' A' c',Z2k D W' (upd S sb (some (metK K v).1)) σ'∧KnS W' (upd S sb (some (metK K v).1)) kb sb (metK K v) A' c'∧AIn A' (fun j=>¬D j)∧Fr (fun j=>¬D j) W W'
theorem Zjw:(Tryz.prog.info? 9).map (fun i=>(i.zero,i.size,i.bytes))=some (some (.string ⟨#[]⟩),1,16):=by kernel_rfl
theorem Zm0 {D:Nat→Prop}{W:World}{S:Nat→Option (List Name)}{σ:Nat→St}{kb sb:Nat}{K:Kn}{A:Option Addr}{c:Nat}(v:ByteArray) (hN:Z2k D W S σ) (hK:KnS W S kb sb K A c) (hkD :¬D kb) (hAD:AIn A (fun j=>¬D j)) (hl:(K.1.length:Int)≤1000000) (hl2:(K.2.length:Int)≤1000000) :
 Calls Tryz.prog 202 #[.pointer (some ⟨kb,0,none⟩),.string v] W fun e W'=>e = .returned (.tuple #[])∧Zll D W S kb sb K v W':=by
 obtain ⟨i0,hi0,hz0,hz1,hz2⟩:=info_parts Zjw;have s0:W.cell? ⟨kb,0,none⟩=some (.pointer (some ⟨sb,0,none⟩)):=(hK.blk.cell 0).trans rfl;have hkl:=hK.blk.lt;have HN:=hid hN;have HK:=hid hK;have HAD:=hid hAD;have HKD:=hid hkD;have HSA:=hid (hN.at_ sb K.1 hK.set);clear hN hK hAD hkD;go_enter Tryz.func202,Tryz.ntmps202;(go_wp2_with fail);refine (Ziz v HN.out HK.out.set (by omega)).mono ?_;rintro e w1 ⟨rfl,σ',h1,_,hF,hFb⟩;have hkb1:=HK.out.blk.fr hFb (Zh6 HSA.out HK.out.blk (by decide) (by decide));have hrw1:=Zkt HSA.out HK.out.row (by decide) (by decide) hFb;have H1:=hid h1;have HF:=hid hF;have HKB:=hid hkb1;have HRW:=hid hrw1;clear h1 hF hFb;cases hh:has Z0o K.1 v
 · have hm:metK K v=(put Z0o K.1 v,K.2 ++ [v]):=by unfold metK;rw [hh];rfl
   have HM:=hid hm;have s1:w1.cell? ⟨kb,1,none⟩=some (.slice A K.2.length c):=(hkb1.cell 1).trans rfl;have f1:=hkb1.frozen 1;have hkl1:=hkb1.lt;have hlt1:=HF.out.size;clear hm hh hkb1 hrw1 s0;(go_wp2_with (at_builtin;refine Z00 _ rfl (.tmp 14) (.tmp 16) 114 rfl 9 i0 _ 1 16 Tryz.underlying114 hi0 hz0 hz1 hz2 rfl (by omega) (.slice A K.2.length c) K.2.length (K.2.map Value.string) rfl (Z05 HRW.out ((Znk _ _).alloc (Znl _) _)) _ 1 1 [.string v] rfl rfl (fun _=>⟨_,rfl,Zkl (by simp)⟩) (by intro u hu;simp at hu;subst hu;rfl) (by unfold maxLen;omega) (by omega) ?_;intro v' w4 hown hg hnil hat;obtain ⟨A',c',rfl,_,_,_⟩:=Z0v hown;have hkb4:=(HKB.out.alloc (.cells #[.string v] 9)).grown hg (Z02 HRW.out HKB.out (by decide));have s1:=(hkb4.cell 1).trans rfl;have f1:=hkb4.frozen 1;have hkl1:=hkb4.lt;have HKB4:=hid hkb4;have HO4:=hid hown;have HG4:=hid hg;have HAT:=hid hat;clear hkb4 hown hg hnil hat));go_end0;refine ⟨rfl,?_⟩;unfold Zll;rw [HM.out];have hfr:Fr (fun j=>(Value.slice A K.2.length c).ownBlock=some j∨j=kb) w1 (w4.setCell ⟨kb,1,none⟩ (.slice A' (K.2.length+1) c')):=(((Fr.refl _ w1).alloc _).grown HG4.out (fun k hk=>.inl (.inl hk))).setCell (p:=⟨kb,1,none⟩) (.inl (.inr rfl)) _
   have hoff :∀k,((Value.slice A K.2.length c).ownBlock=some k∨k=kb)→Off k (upd S sb (some (put Z0o K.1 v))) σ':=by
    intro k hk;rcases hk with hk|rfl
    · rcases HRW.out.2 with ⟨hv,_⟩|⟨g,cap,cur,hv,_,hg,_⟩
      · rw [hv] at hk;simp [Value.ownBlock] at hk
      · rw [hv] at hk
        (have e:g=k:=by simpa [Value.ownBlock] using hk);subst e;exact H1.out.off_of (t:=9) hg (by decide) (by decide)
    · exact H1.out.off_of HKB.out (by decide) (by decide)
   refine ⟨σ',A',c',H1.out.offM hoff hfr,⟨?_,?_,Z0r _ _ _⟩,?_,HF.out.trans (hfr.mono (fun j _ hj=>?_))⟩
   · have:=HKB4.out.set_ 1 (.slice A' (K.2.length+1) c')
     rw [Znp];exact this
   · have h9:=ownsRow_setCell_other (a:=⟨kb,1,none⟩) HO4.out (Z02 HO4.out HKB4.out (by decide)) (.slice A' (K.2.length+1) c')
     rw [Znp,Zop];exact h9
   · intro a ha hd
     subst ha;have hlow:=H1.out.low _ hd;rcases HAT.out with h|h
     · rcases A with _|b
       · simp [Value.ownBlock] at h
       · have e:a.block=b.block:=by simpa [Value.ownBlock] using h
         exact HAD.out b rfl (e ▸ hd)
     · have e:a.block=w1.heap.size+1:=by simpa [Value.ownBlock] using h
       omega
   · rcases hj with hj|rfl
     · rcases A with _|b
       · simp [Value.ownBlock] at hj
       · have e:b.block=j:=by simpa [Value.ownBlock] using hj
         exact fun hd=>HAD.out b rfl (e ▸ hd)
     · exact HKD.out
 · have hm:metK K v=(put Z0o K.1 v,K.2):=by unfold metK;rw [hh];rfl
   have HM:=hid hm;clear hm hh;(go_wp2_with fail);go_end0;refine ⟨rfl,?_⟩;unfold Zll;rw [HM.out];exact ⟨σ',A,c,H1.out,⟨HKB.out,HRW.out,Z0r _ _ _⟩,HAD.out,HF.out⟩
theorem Zj4 {α:Type}(S:Nat→α) (b:Nat) (x y:α):upd (upd S b x) b y=upd S b y:=by
 funext k;by_cases e:k=b
 · subst e;rw [Z0r,Z0r]
 · rw [Z1q _ _ e,Z1q _ _ e,Z1q _ _ e]
def KSt (D:Nat→Prop) (W:World) (S:Nat→Option (List Name)) (kb sb:Nat) (K:Kn) (W':World):Prop:=
 ∃σ' A' c',Z2k D W' (upd S sb (some K.1)) σ'∧KnS W' (upd S sb (some K.1)) kb sb K A' c'∧AIn A' (fun j=>¬D j)∧Fr (fun j=>¬D j) W W'
theorem KSt.below {D:Nat→Prop}{W W1 W2:World}{S:Nat→Option (List Name)}{kb sb:Nat}{K:Kn}(h:KSt D W S kb sb K W1) (hb:Below W1.heap.size W1 W2):KSt D W S kb sb K W2:=by
 obtain ⟨σ',A',c',h1,h2,h3,h4⟩:=h;exact ⟨σ',A',c',h1.below hb,⟨h2.blk.new_ hb,Z05 h2.row hb,h2.set⟩,h3,h4.trans (Fr.of_new hb)⟩
theorem Zkf (K:Kn) (v:ByteArray) (hs:Srt Z0o K.1):(metK K v).1.length≤K.1.length+1∧(metK K v).2.length≤K.2.length+1:=by
 unfold metK;cases h:has Z0o K.1 v
 · simp [Z3s Z3u hs h]
 · simp [Z4z h]
theorem KSt.met {D:Nat→Prop}{W W1:World}{S:Nat→Option (List Name)}{kb sb:Nat}{K:Kn}(v:ByteArray) (h:KSt D W S kb sb K W1) (hkD :¬D kb) (hl:(K.1.length:Int)≤1000000) (hl2:(K.2.length:Int)≤1000000) :
 Calls Tryz.prog 202 #[.pointer (some ⟨kb,0,none⟩),.string v] W1 fun e W'=>e = .returned (.tuple #[])∧KSt D W S kb sb (metK K v) W'∧(metK K v).1.length≤K.1.length+1∧(metK K v).2.length≤K.2.length+1:=by
 obtain ⟨σ',A',c',h1,h2,h3,h4⟩:=h;refine (Zm0 v h1 h2 hkD h3 hl hl2).mono ?_;rintro e W' ⟨he,σ2,A2,c2,g1,g2,g3,g4⟩;rw [Zj4] at g1 g2;exact ⟨he,⟨σ2,A2,c2,g1,g2,g3,h4.trans g4⟩,Zkf K v (h1.srt sb _ (Z0r _ _ _))⟩
theorem KSt.has_ {D:Nat→Prop}{W W1:World}{S:Nat→Option (List Name)}{kb sb:Nat}{K:Kn}(v:ByteArray) (h:KSt D W S kb sb K W1) (hl:(K.1.length:Int)≤1000000) :
 Calls Tryz.prog 182 #[.pointer (some ⟨kb,0,none⟩),.string v] W1 fun e W'=>e = .returned (.bool (hasK K v))∧Below W1.heap.size W1 W':=by
 obtain ⟨σ',A',c',h1,h2,h3,h4⟩:=h;exact Zhr v h1 h2 hl
theorem Z70 {α:Type}{l:List α}{i:Nat}(h:i<l.length):l.drop i=l[i] :: l.drop (i+1):=Zol h
theorem Z2e (k:Kn) (t:Z1r) (l:List Z1r):Z0u k (t :: l)=if t.rel=8∨t.var.toList = [] then Z0u k l else if t.rel=1 then Z0u (metK k t.var) l else if hasK k t.var=true then Z0u k l else (false,k):=rfl
theorem Z73 {D:Nat→Prop}{W:World}{S:Nat→Option (List Name)}{kb sb:Nat}{K:Kn}{A:Option Addr}{c:Nat}(l:List Z1r) (h:KSt D W S kb sb K W) (hkD :¬D kb) (hrd:RowR Z03 D W A c l) (hl:(K.1.length:Int)+l.length≤1000000) (hl2:(K.2.length:Int)+l.length≤1000000) :
 Calls Tryz.prog 203 #[.pointer (some ⟨kb,0,none⟩),.slice A l.length c] W fun e W'=>e = .returned (.bool (Z0u K l).1)∧KSt D W S kb sb (Z0u K l).2 W'∧(Z0u K l).2.1.length≤K.1.length+l.length∧(Z0u K l).2.2.length≤K.2.length+l.length:=by
 have H0:=hid h;have HR:=hid hrd;have HKD:=hid hkD;have hlc:=hrd.cap;clear h hrd hkD;go_enter Tryz.func203,Tryz.ntmps203;go_wp2_with fail
 go_loopw [9] (fun s wr=>∃(i:Nat) (K':Kn),s = .int .i64 i∧i≤l.length∧Z0u K l=Z0u K' (l.drop i)∧KSt D W S kb sb K' wr∧K'.1.length≤K.1.length+i∧K'.2.length≤K.2.length+i) (fun s wr=>l.length - (intOf s).toNat)
 case atStart=>exact ⟨0,K,rfl,Nat.zero_le _,rfl,H0.out,Znl _,Znl _⟩
 case round=>
  obtain ⟨i,K',rfl,hi,hfk,hst,hk1,hk2⟩:=hrel;have HFK:=hid hfk;have HST:=hid hst;have HF:=hid (show Fr (fun j=>¬D j) W wr from by obtain ⟨_,_,_,_,_,_,h4⟩:=hst;exact h4);clear hfk hst;by_cases hlt:i<l.length
  · obtain ⟨y,hy⟩:∃y,y=l[i]:=⟨_,rfl⟩
    have hdr:=Z70 hlt;rw [←hy] at hdr;obtain ⟨g,off,A1,c1,rfl,_,hg,q0,q1,q2,q3,q4,q5,hrow⟩:=Z2w (HR.out.fr HF.out (fun j hd hn=>hn hd)) hlt;rw [←hy] at q0 q1 q2 q3 q4 q5;have HDR:=hid hdr;(have b1:(0:Int)≤(i:Int):=by omega);(have b2:(i:Int)<(l.length:Int):=by omega);clear hy hrow hdr;by_cases h8:y.rel=8
    · have r1:(y.rel == 8)=true:=by simp [h8]
      (have r2:decide (y.rel=8)=true:=by simp [h8]);have HS:=hid (show Z0u K' (y :: l.drop (i+1))=Z0u K' (l.drop (i+1)) by rw [Z2e,if_pos (.inl h8)]);clear h8;(go_wp2_with fail);go_roundw
      case rel=>exact ⟨i+1,K',by go_num,by omega,by rw [HFK.out,HDR.out,HS.out],HST.out.below (by (repeat (first|exact Znk _ _|refine Below.drew ?_|refine Below.al ?_ _|refine Below.sc ?_ _))),by omega,by omega⟩
      case measure=>simp [intOf]<;>omega
    (have r1:(y.rel == 8)=false:=by simp [h8]);(have r2:decide (y.rel=8)=false:=by simp [h8]);by_cases hv:y.var.toList = []
    · have v1:(y.var.toList == [])=true:=by simp [hv]
      (have v2:y.var.toList.isEmpty=true:=by simp [hv]);(have v3:decide (y.var.toList = [])=true:=by simp [hv]);have HS:=hid (show Z0u K' (y :: l.drop (i+1))=Z0u K' (l.drop (i+1)) by rw [Z2e,if_pos (.inr hv)]);clear h8 hv;(go_wp2_with fail);go_roundw
      case rel=>exact ⟨i+1,K',by go_num,by omega,by rw [HFK.out,HDR.out,HS.out],HST.out.below (by (repeat (first|exact Znk _ _|refine Below.drew ?_|refine Below.al ?_ _|refine Below.sc ?_ _))),by omega,by omega⟩
      case measure=>simp [intOf]<;>omega
    (have v1:(y.var.toList == [])=false:=by simp [hv]);(have v2:y.var.toList.isEmpty=false:=by simp [hv]);(have v3:decide (y.var.toList = [])=false:=by simp [hv]);have hnot :¬(y.rel=8∨y.var.toList = []):=fun h=>h.elim h8 hv;by_cases h1:y.rel=1
    · have s1:(y.rel == 1)=true:=by simp [h1]
      (have s2:decide (y.rel=1)=true:=by simp [h1]);have HS:=hid (show Z0u K' (y :: l.drop (i+1))=Z0u (metK K' y.var) (l.drop (i+1)) by rw [Z2e,if_neg hnot,if_pos h1]);clear h8 hv hnot h1;(go_wp2_with fail);refine (KSt.met y.var (HST.out.below (by (repeat (first|exact Znk _ _|refine Below.drew ?_|refine Below.al ?_ _|refine Below.sc ?_ _)))) HKD.out (by omega) (by omega)).mono ?_;rintro e w5 ⟨rfl,hst5,hl5,hl6⟩;have HST5:=hid hst5;clear hst5 q0 q1 q2 q3 q4 q5;(go_wp2_with fail);go_roundw
      case rel=>exact ⟨i+1,metK K' y.var,by go_num,by omega,by rw [HFK.out,HDR.out,HS.out],HST5.out,by omega,by omega⟩
      case measure=>simp [intOf]<;>omega
    (have s1:(y.rel == 1)=false:=by simp [h1]);(have s2:decide (y.rel=1)=false:=by simp [h1]);cases hh:hasK K' y.var
    · have HS:=hid (show Z0u K' (y :: l.drop (i+1))=(false,K') by rw [Z2e,if_neg hnot,if_neg h1,hh];rfl)
      clear h8 hv hnot h1;(go_wp2_with fail);refine (KSt.has_ y.var (HST.out.below (by (repeat (first|exact Znk _ _|refine Below.drew ?_|refine Below.al ?_ _|refine Below.sc ?_ _)))) (by omega)).mono ?_;rintro e w5 ⟨rfl,hb5⟩;rw [hh];have hb5':=Below.trans (show Below wr.heap.size wr _ from (by (repeat (first|exact Znk _ _|refine Below.drew ?_|refine Below.al ?_ _|refine Below.sc ?_ _)))) (hb5.mono (by simp));have HST5:=hid (HST.out.below hb5');have HE:=hid (show Z0u K l=(false,K') by rw [HFK.out,HDR.out,HS.out]);clear hb5 hb5' hh q0 q1 q2 q3 q4 q5;(go_wp2_with fail);go_ret;rw [HE.out];exact ⟨rfl,HST5.out,by dsimp only;omega,by dsimp only;omega⟩
    · have HS:=hid (show Z0u K' (y :: l.drop (i+1))=Z0u K' (l.drop (i+1)) by rw [Z2e,if_neg hnot,if_neg h1,hh];rfl)
      clear h8 hv hnot h1;(go_wp2_with fail);refine (KSt.has_ y.var (HST.out.below (by (repeat (first|exact Znk _ _|refine Below.drew ?_|refine Below.al ?_ _|refine Below.sc ?_ _)))) (by omega)).mono ?_;rintro e w5 ⟨rfl,hb5⟩;rw [hh];have hb5':=Below.trans (show Below wr.heap.size wr _ from (by (repeat (first|exact Znk _ _|refine Below.drew ?_|refine Below.al ?_ _|refine Below.sc ?_ _)))) (hb5.mono (by simp));have HST5:=hid (HST.out.below hb5');clear hb5 hb5' hh q0 q1 q2 q3 q4 q5;(go_wp2_with fail);go_roundw
      case rel=>exact ⟨i+1,K',by go_num,by omega,by rw [HFK.out,HDR.out,HS.out],HST5.out,by omega,by omega⟩
      case measure=>simp [intOf]<;>omega
  · have hie:i=l.length:=by omega
    subst hie;(have hend:Z0u K l=(true,K'):=by rw [HFK.out,Zoq];rfl);have HE:=hid hend;clear hend;(go_wp2_with fail);go_ret;rw [HE.out];exact ⟨rfl,HST.out,hk1,hk2⟩
theorem KSt.fr_ {D:Nat→Prop}{W W1:World}{S:Nat→Option (List Name)}{kb sb:Nat}{K:Kn}(h:KSt D W S kb sb K W1):Fr (fun j=>¬D j) W W1:=by
 obtain ⟨_,_,_,_,_,_,h4⟩:=h;exact h4
theorem KSt.start {D:Nat→Prop}{W:World}{S:Nat→Option (List Name)}{σ:Nat→St}{kb sb:Nat}{K:Kn}{A:Option Addr}{c:Nat}(hN:Z2k D W S σ) (hK:KnS W S kb sb K A c) (hA:AIn A (fun j=>¬D j)):KSt D W S kb sb K W:=by
 have e:upd S sb (some K.1)=S:=Zne _ _ _ hK.set;exact ⟨σ,A,c,by rw [e];exact hN,by rw [e];exact hK,hA,Fr.refl _ _⟩
theorem KSt.lt {D:Nat→Prop}{W W1:World}{S:Nat→Option (List Name)}{kb sb:Nat}{K:Kn}(h:KSt D W S kb sb K W1):kb<W1.heap.size:=by
 obtain ⟨_,_,_,_,h2,_,_⟩:=h;exact h2.blk.lt
theorem Z9i {W:World}{e size n:Nat}{A:Option Addr}{c:Nat}{xs:List Value}(h:W.ownsRow 0 e size (.slice A n c) n xs):AIn A (· < W.heap.size):=by
 intro a ha;rcases h.2 with ⟨hv,_⟩|⟨g,cap,cur,hv,_,hg,_⟩
 · simp only [Value.slice.injEq] at hv;rw [hv.1] at ha;cases ha
 · simp only [Value.slice.injEq] at hv;rw [hv.1] at ha;cases ha
   exact Blk.lt (t:=e) (cs:=cur) hg
theorem KSt.prot {D:Nat→Prop}{W W1 W2:World}{S:Nat→Option (List Name)}{kb sb:Nat}{K:Kn}(h:KSt D W S kb sb K W1) (hb:Below W1.heap.size W1 W2) :
 KSt (fun k=>D k∨(W1.heap.size≤k∧k<W2.heap.size)) W2 S kb sb K W2:=by
 obtain ⟨σ',A',c',h1,h2,h3,_⟩:=h;refine ⟨σ',A',c',h1.protect hb,⟨h2.blk.new_ hb,Z05 h2.row hb,h2.set⟩,fun a ha hd=>?_,Fr.refl _ _⟩;rcases hd with hd|hd
 · exact h3 a ha hd
 · have:=Z9i h2.row a ha;omega
theorem KSt.unprot {D D':Nat→Prop}{W W1 W2:World}{S:Nat→Option (List Name)}{kb sb:Nat}{K:Kn}(h:KSt D' W1 S kb sb K W2) (hF:Fr (fun j=>¬D j) W W1) (hD :∀k,D k→D' k):KSt D W S kb sb K W2:=by
 obtain ⟨σ',A',c',h1,h2,h3,h4⟩:=h;exact ⟨σ',A',c',h1.weaken hD,h2,h3.mono (fun k hk hd=>hk (hD k hd)),hF.trans (h4.mono (fun k _ hk hd=>hk (hD k hd)))⟩
theorem KSt.prot0 {D:Nat→Prop}{W W1:World}{S:Nat→Option (List Name)}{kb sb:Nat}{K:Kn}(h:KSt D W S kb sb K W1):KSt D W1 S kb sb K W1:=by
 obtain ⟨σ',A',c',h1,h2,h3,_⟩:=h;exact ⟨σ',A',c',h1,h2,h3,Fr.refl _ _⟩
theorem KSt.join {D:Nat→Prop}{W W1 W2:World}{S:Nat→Option (List Name)}{kb sb:Nat}{K K':Kn}(h:KSt D W1 S kb sb K W2) (h0:KSt D W S kb sb K' W1):KSt D W S kb sb K W2:=by
 obtain ⟨σ',A',c',h1,h2,h3,h4⟩:=h;exact ⟨σ',A',c',h1,h2,h3,h0.fr_.trans h4⟩
theorem Zhu {D:Nat→Prop}{W:World}{S:Nat→Option (List Name)}{kb sb:Nat}{K:Kn}{A1 A2 A3:Option Addr}{c1 c2 c3:Nat}(x:Z0a) (h:KSt D W S kb sb K W) (hkD :¬D kb) (h1:RowR Z03 D W A1 c1 x.attr) (h2:RowR Z03 D W A2 c2 x.value) (hl:(K.1.length:Int)+(1+x.attr.length+x.value.length)≤1000000) (hl2:(K.2.length:Int)+(1+x.attr.length+x.value.length)≤1000000) :
 Calls Tryz.prog 181 #[.pointer (some ⟨kb,0,none⟩),.agg #[.int .i64 x.kind,.bool x.goal,.string x.id,.slice A1 x.attr.length c1,.slice A2 x.value.length c2,.bool x.acc,.slice A3 x.conds.length c3]] W fun e W'=>e = .returned (.bool (oneK K x).1)∧KSt D W S kb sb (oneK K x).2 W'∧(oneK K x).2.1.length≤K.1.length+(1+x.attr.length+x.value.length)∧(oneK K x).2.2.length≤K.2.length+(1+x.attr.length+x.value.length):=by
 have H0:=hid h;have HKD:=hid hkD;have H1:=hid h1;have H2:=hid h2;have hl1c:=h1.cap;have hl2c:=h2.cap;clear h hkD h1 h2;by_cases hg:x.goal=true
 · have g1:=hg
   have hgk:(if x.goal=true then metK K x.id else K)=metK K x.id:=if_pos hg;have H_g:=hid g1;have HG:=hid hgk;clear g1 hg hgk;go_enter Tryz.func181,Tryz.ntmps181;(go_upto_region 1 with fail);obtain ⟨W1,hW1⟩:∃W1,W1=W.alloc (.cells #[.int .i64 x.kind,.bool x.goal,.string x.id,.slice A1 x.attr.length c1,.slice A2 x.value.length c2,.bool x.acc,.slice A3 x.conds.length c3] 59):=⟨_,rfl⟩;rw [←hW1];(have hbk:Blk W1 W.heap.size 59 #[.int .i64 x.kind,.bool x.goal,.string x.id,.slice A1 x.attr.length c1,.slice A2 x.value.length c2,.bool x.acc,.slice A3 x.conds.length c3]:=by rw [hW1];exact Blk.new _ _ _);(have hB:Below W.heap.size W W1:=by rw [hW1];exact (Znk _ _).alloc (Znl _) _);(have hsz:W1.heap.size=W.heap.size+1:=by rw [hW1,Zoj]);have hst1:=H0.out.prot hB;have hbD:(fun k=>D k∨(W.heap.size≤k∧k<W1.heap.size)) W.heap.size:=.inr ⟨Znl _,by omega⟩;have hkD1 :¬(fun k=>D k∨(W.heap.size≤k∧k<W1.heap.size)) kb:=fun hd=>hd.elim HKD.out (fun hd=>by have:=H0.out.lt;omega);obtain ⟨D1,hD1⟩:∃D1,D1=(fun k=>D k∨(W.heap.size≤k∧k<W1.heap.size)):=⟨_,rfl⟩;rw [←hD1] at hst1 hbD hkD1;have HR1:=hid (show RowR Z03 D1 W1 A1 c1 x.attr from (H1.out.new_ hB).weaken (fun k hk=>by rw [hD1];exact .inl hk));have HR2:=hid (show RowR Z03 D1 W1 A2 c2 x.value from (H2.out.new_ hB).weaken (fun k hk=>by rw [hD1];exact .inl hk));have HDD:=hid (show ∀k,D k→D1 k from fun k hk=>by rw [hD1];exact .inl hk);have HFB:=hid (show Fr (fun j=>¬D j) W W1 from Fr.of_new hB);have HST:=hid hst1;have HBD:=hid hbD;have HK1:=hid hkD1;have HBK:=hid hbk;have hlo:=hbk.lt;have e1:W1.cell? ⟨W.heap.size,1,none⟩=some (.bool x.goal):=(hbk.cell 1).trans rfl;have e2:W1.cell? ⟨W.heap.size,2,none⟩=some (.string x.id):=(hbk.cell 2).trans rfl;have e3:W1.cell? ⟨W.heap.size,3,none⟩=some (.slice A1 x.attr.length c1):=(hbk.cell 3).trans rfl;have e4:W1.cell? ⟨W.heap.size,4,none⟩=some (.slice A2 x.value.length c2):=(hbk.cell 4).trans rfl;clear hW1 hbk hB hsz hst1 hbD hkD1 hD1;have g1:=H_g.out;(go_wp2_with fail);refine (KSt.met x.id HST.out HK1.out (by omega) (by omega)).mono ?_;rintro e w4 ⟨rfl,hst4,hl4,hl5⟩;have HST4:=hid hst4;clear hst4 e1 e2 e3 e4 hlo;have hbk:=HBK.out.fr (HST4.out).fr_ (fun hn=>hn HBD.out);have hlo:=hbk.lt;have hzw:W.heap.size≤w4.heap.size:=Zo2 HFB.out.size (HST4.out).fr_.size;have e2:w4.cell? ⟨W.heap.size,2,none⟩=some (.string x.id):=(hbk.cell 2).trans rfl;have e3:w4.cell? ⟨W.heap.size,3,none⟩=some (.slice A1 x.attr.length c1):=(hbk.cell 3).trans rfl
   have e4:w4.cell? ⟨W.heap.size,4,none⟩=some (.slice A2 x.value.length c2):=(hbk.cell 4).trans rfl;clear hbk;(go_wp2_with fail);cases hh:hasK (metK K x.id) x.id
   · skip
     have hhx:=KSt.has_ x.id (HST4.out) (by omega);rw [hh] at hhx;refine hhx.mono ?_;rintro e w5 ⟨rfl,hb5⟩;have HST5:=hid ((HST4.out).below (hb5));clear hhx hb5;have HA:=hid (show oneK K x=(false,metK K x.id) by unfold oneK;simp only [HG.out];simp [hh]);clear hh;(go_wp2_with fail);go_ret;rw [HA.out];exact ⟨rfl,(HST5.out).unprot HFB.out HDD.out,by dsimp only;omega,by dsimp only;omega⟩
   · skip
     have hhx:=KSt.has_ x.id (HST4.out) (by omega);rw [hh] at hhx;refine hhx.mono ?_;rintro e w5 ⟨rfl,hb5⟩;have HST5:=hid ((HST4.out).below (hb5));clear hhx hb5;have hbk:=HBK.out.fr (HST5.out).fr_ (fun hn=>hn HBD.out);have hlo:=hbk.lt;have hzw:W.heap.size≤w5.heap.size:=Zo2 HFB.out.size (HST5.out).fr_.size;have e2:w5.cell? ⟨W.heap.size,2,none⟩=some (.string x.id):=(hbk.cell 2).trans rfl;have e3:w5.cell? ⟨W.heap.size,3,none⟩=some (.slice A1 x.attr.length c1):=(hbk.cell 3).trans rfl;have e4:w5.cell? ⟨W.heap.size,4,none⟩=some (.slice A2 x.value.length c2):=(hbk.cell 4).trans rfl;clear hbk;obtain ⟨b2,k2,hf⟩:∃b k,Z0u (metK K x.id) x.attr=(b,k):=⟨_,_,rfl⟩;have hfa:=Z73 x.attr (A:=A1) (c:=c1) (HST5.out.prot0) HK1.out (HR1.out.fr HST5.out.fr_ (fun k hk hn=>hn hk)) (by omega) (by omega);rw [hf] at hfa;have HFA:=hid hfa;clear hfa;cases b2
     · skip
       have HA:=hid (show oneK K x=(false,k2) by unfold oneK;simp only [HG.out];simp [hh,hf]);clear hh hf;(go_wp2_with fail);refine HFA.out.mono ?_;rintro e w6 ⟨rfl,hst6,hl6,hl7⟩;have HST6:=hid (hst6.join HST5.out);clear hst6;(go_wp2_with fail);go_ret;rw [HA.out];exact ⟨rfl,(HST6.out).unprot HFB.out HDD.out,by dsimp only;omega,by dsimp only;omega⟩
     · skip
       obtain ⟨b3,k3,hf3⟩:∃b k,Z0u k2 x.value=(b,k):=⟨_,_,rfl⟩;have HA:=hid (show oneK K x=(b3,k3) by unfold oneK;simp only [HG.out];simp [hh,hf,hf3]);clear hh hf;(go_wp2_with fail);refine HFA.out.mono ?_;rintro e w6 ⟨rfl,hst6,hl6,hl7⟩;have HST6:=hid (hst6.join HST5.out);clear hst6;have hbk:=HBK.out.fr (HST6.out).fr_ (fun hn=>hn HBD.out);have hlo:=hbk.lt;have hzw:W.heap.size≤w6.heap.size:=Zo2 HFB.out.size (HST6.out).fr_.size;have e2:w6.cell? ⟨W.heap.size,2,none⟩=some (.string x.id):=(hbk.cell 2).trans rfl;have e3:w6.cell? ⟨W.heap.size,3,none⟩=some (.slice A1 x.attr.length c1):=(hbk.cell 3).trans rfl;have e4:w6.cell? ⟨W.heap.size,4,none⟩=some (.slice A2 x.value.length c2):=(hbk.cell 4).trans rfl;clear hbk;have hfa:=Z73 x.value (A:=A2) (c:=c2) (HST6.out.prot0) HK1.out (HR2.out.fr HST6.out.fr_ (fun k hk hn=>hn hk)) (by omega) (by omega);rw [hf3] at hfa;have HFA:=hid hfa;clear hfa hf3;(go_wp2_with fail);refine HFA.out.mono ?_;rintro e w7 ⟨rfl,hst7,hl8,hl9⟩;have HST7:=hid (hst7.join HST6.out);clear hst7;(go_wp2_with fail);go_ret;rw [HA.out];exact ⟨rfl,(HST7.out).unprot HFB.out HDD.out,by dsimp only;omega,by dsimp only;omega⟩
 · have g1:x.goal=false:=by simpa using hg
   have hgk:(if x.goal=true then metK K x.id else K)=K:=if_neg hg;have H_g:=hid g1;have HG:=hid hgk;clear g1 hg hgk;go_enter Tryz.func181,Tryz.ntmps181;(go_upto_region 1 with fail);obtain ⟨W1,hW1⟩:∃W1,W1=W.alloc (.cells #[.int .i64 x.kind,.bool x.goal,.string x.id,.slice A1 x.attr.length c1,.slice A2 x.value.length c2,.bool x.acc,.slice A3 x.conds.length c3] 59):=⟨_,rfl⟩;rw [←hW1];(have hbk:Blk W1 W.heap.size 59 #[.int .i64 x.kind,.bool x.goal,.string x.id,.slice A1 x.attr.length c1,.slice A2 x.value.length c2,.bool x.acc,.slice A3 x.conds.length c3]:=by rw [hW1];exact Blk.new _ _ _);(have hB:Below W.heap.size W W1:=by rw [hW1];exact (Znk _ _).alloc (Znl _) _);(have hsz:W1.heap.size=W.heap.size+1:=by rw [hW1,Zoj]);have hst1:=H0.out.prot hB;have hbD:(fun k=>D k∨(W.heap.size≤k∧k<W1.heap.size)) W.heap.size:=.inr ⟨Znl _,by omega⟩;have hkD1 :¬(fun k=>D k∨(W.heap.size≤k∧k<W1.heap.size)) kb:=fun hd=>hd.elim HKD.out (fun hd=>by have:=H0.out.lt;omega);obtain ⟨D1,hD1⟩:∃D1,D1=(fun k=>D k∨(W.heap.size≤k∧k<W1.heap.size)):=⟨_,rfl⟩;rw [←hD1] at hst1 hbD hkD1;have HR1:=hid (show RowR Z03 D1 W1 A1 c1 x.attr from (H1.out.new_ hB).weaken (fun k hk=>by rw [hD1];exact .inl hk));have HR2:=hid (show RowR Z03 D1 W1 A2 c2 x.value from (H2.out.new_ hB).weaken (fun k hk=>by rw [hD1];exact .inl hk));have HDD:=hid (show ∀k,D k→D1 k from fun k hk=>by rw [hD1];exact .inl hk);have HFB:=hid (show Fr (fun j=>¬D j) W W1 from Fr.of_new hB);have HST:=hid hst1;have HBD:=hid hbD;have HK1:=hid hkD1;have HBK:=hid hbk;have hlo:=hbk.lt;have e1:W1.cell? ⟨W.heap.size,1,none⟩=some (.bool x.goal):=(hbk.cell 1).trans rfl;have e2:W1.cell? ⟨W.heap.size,2,none⟩=some (.string x.id):=(hbk.cell 2).trans rfl;have e3:W1.cell? ⟨W.heap.size,3,none⟩=some (.slice A1 x.attr.length c1):=(hbk.cell 3).trans rfl;have e4:W1.cell? ⟨W.heap.size,4,none⟩=some (.slice A2 x.value.length c2):=(hbk.cell 4).trans rfl;clear hW1 hbk hB hsz hst1 hbD hkD1 hD1;have g1:=H_g.out;(go_wp2_with fail);cases hh:hasK (K) x.id
   · skip
     have hhx:=KSt.has_ x.id (HST.out) (by omega);rw [hh] at hhx;refine hhx.mono ?_;rintro e w5 ⟨rfl,hb5⟩;have HST5:=hid ((HST.out).below (hb5));clear hhx hb5;have HA:=hid (show oneK K x=(false,K) by unfold oneK;simp only [HG.out];simp [hh]);clear hh;(go_wp2_with fail);go_ret;rw [HA.out];exact ⟨rfl,(HST5.out).unprot HFB.out HDD.out,by dsimp only;omega,by dsimp only;omega⟩
   · skip
     have hhx:=KSt.has_ x.id (HST.out) (by omega);rw [hh] at hhx;refine hhx.mono ?_;rintro e w5 ⟨rfl,hb5⟩;have HST5:=hid ((HST.out).below (hb5));clear hhx hb5;have hbk:=HBK.out.fr (HST5.out).fr_ (fun hn=>hn HBD.out);have hlo:=hbk.lt;have hzw:W.heap.size≤w5.heap.size:=Zo2 HFB.out.size (HST5.out).fr_.size;have e2:w5.cell? ⟨W.heap.size,2,none⟩=some (.string x.id):=(hbk.cell 2).trans rfl;have e3:w5.cell? ⟨W.heap.size,3,none⟩=some (.slice A1 x.attr.length c1):=(hbk.cell 3).trans rfl;have e4:w5.cell? ⟨W.heap.size,4,none⟩=some (.slice A2 x.value.length c2):=(hbk.cell 4).trans rfl;clear hbk;obtain ⟨b2,k2,hf⟩:∃b k,Z0u (K) x.attr=(b,k):=⟨_,_,rfl⟩;have hfa:=Z73 x.attr (A:=A1) (c:=c1) (HST5.out.prot0) HK1.out (HR1.out.fr HST5.out.fr_ (fun k hk hn=>hn hk)) (by omega) (by omega);rw [hf] at hfa;have HFA:=hid hfa;clear hfa;cases b2
     · skip
       have HA:=hid (show oneK K x=(false,k2) by unfold oneK;simp only [HG.out];simp [hh,hf]);clear hh hf;(go_wp2_with fail);refine HFA.out.mono ?_;rintro e w6 ⟨rfl,hst6,hl6,hl7⟩;have HST6:=hid (hst6.join HST5.out);clear hst6;(go_wp2_with fail);go_ret;rw [HA.out];exact ⟨rfl,(HST6.out).unprot HFB.out HDD.out,by dsimp only;omega,by dsimp only;omega⟩
     · skip
       obtain ⟨b3,k3,hf3⟩:∃b k,Z0u k2 x.value=(b,k):=⟨_,_,rfl⟩;have HA:=hid (show oneK K x=(b3,k3) by unfold oneK;simp only [HG.out];simp [hh,hf,hf3]);clear hh hf;(go_wp2_with fail);refine HFA.out.mono ?_;rintro e w6 ⟨rfl,hst6,hl6,hl7⟩;have HST6:=hid (hst6.join HST5.out);clear hst6;have hbk:=HBK.out.fr (HST6.out).fr_ (fun hn=>hn HBD.out);have hlo:=hbk.lt;have hzw:W.heap.size≤w6.heap.size:=Zo2 HFB.out.size (HST6.out).fr_.size;have e2:w6.cell? ⟨W.heap.size,2,none⟩=some (.string x.id):=(hbk.cell 2).trans rfl;have e3:w6.cell? ⟨W.heap.size,3,none⟩=some (.slice A1 x.attr.length c1):=(hbk.cell 3).trans rfl;have e4:w6.cell? ⟨W.heap.size,4,none⟩=some (.slice A2 x.value.length c2):=(hbk.cell 4).trans rfl;clear hbk;have hfa:=Z73 x.value (A:=A2) (c:=c2) (HST6.out.prot0) HK1.out (HR2.out.fr HST6.out.fr_ (fun k hk hn=>hn hk)) (by omega) (by omega);rw [hf3] at hfa;have HFA:=hid hfa;clear hfa hf3;(go_wp2_with fail);refine HFA.out.mono ?_;rintro e w7 ⟨rfl,hst7,hl8,hl9⟩;have HST7:=hid (hst7.join HST6.out);clear hst7;(go_wp2_with fail);go_ret;rw [HA.out];exact ⟨rfl,(HST7.out).unprot HFB.out HDD.out,by dsimp only;omega,by dsimp only;omega⟩
theorem Z7v (s:Sym) (w:World):Calls Tryz.prog 207 #[.agg #[.int .i64 s.kind,.string s.text,.int .i64 s.n]] w fun e w'=>e = .returned (.bool (Z57 s))∧Below w.heap.size w w':=by
 have hq :∀W:World,(binOp .eql 38 (.agg #[.int .i64 s.kind,.string s.text,.int .i64 s.n]) (.agg #[.int .i64 0,.string ⟨#[]⟩,.int .i64 0])).run Tryz.prog W = .ok (.bool (Z57 s)) W:=fun W=>Zdg s zS W;go_enter Tryz.func207,Tryz.ntmps207;(go_wp2_with fail);go_ret;exact ⟨rfl,(Znk _ _).alloc (Znl _) _⟩
theorem Zkp (k:Int) (w:World):Calls Tryz.prog 197 #[.int .i64 k] w fun e w'=>e = .returned (.bool (Z2m k))∧w=w':=by
 have HV:=hid (show Z2m k=(k == 8 ||k == 9 ||k == 10) from rfl);go_enter Tryz.func197,Tryz.ntmps197;go_wp2_with fail
 all_goals
  go_ret;refine ⟨?_,rfl⟩;rw [HV.out];refine Z18 ?_;simp_all
theorem Z3r (s:Sym) (w:World):Calls Tryz.prog 208 #[.agg #[.int .i64 s.kind,.string s.text,.int .i64 s.n]] w fun e w'=>e = .returned (.bool (Z28 s))∧Below w.heap.size w w':=by
 obtain ⟨r,hr⟩:∃r,r=Z28 s:=⟨_,rfl⟩;rw [←hr];have HR:=hid hr;clear hr;have HB:=hid ((Znk w.heap.size w).alloc (Znl _) (.cells #[.int .i64 s.kind,.string s.text,.int .i64 s.n] 38));go_enter Tryz.func208,Tryz.ntmps208;obtain ⟨W1,hW1⟩:∃W1,W1=w.alloc (.cells #[.int .i64 s.kind,.string s.text,.int .i64 s.n] 38):=⟨_,rfl⟩
 go_wp2_with (first
  | (go_at_call 49;refine (Zl5 s _).mono ?_;rintro e w9 ⟨rfl,hb9⟩;have HB:=hid (HB.out.trans (hb9.mono HB.out.size));clear hb9))
 all_goals
  go_ret;refine ⟨?_,by (first|exact HB.out|(exact (Znk _ _).alloc (Znl _) _)|(simpa using HB.out))⟩;rw [HR.out];refine Z18 ?_
  first|(simp_all [Z28];done)|(simp_all [Z28];rfl)
theorem Zeo (a:Z2o) (w:World):Calls Tryz.prog 198 #[.agg #[.string a.var,.int .i64 a.sym.kind,.string a.sym.text,.int .i64 a.sym.n]] w fun e w'=>e = .returned (.bool (Z2t a))∧Below w.heap.size w w':=by
 obtain ⟨r,hr⟩:∃r,r=Z2t a:=⟨_,rfl⟩;rw [←hr];have HR:=hid hr;clear hr;have HB:=hid ((Znk w.heap.size w).alloc (Znl _) (.cells #[.string a.var,.int .i64 a.sym.kind,.string a.sym.text,.int .i64 a.sym.n] 91));go_enter Tryz.func198,Tryz.ntmps198;obtain ⟨W1,hW1⟩:∃W1,W1=w.alloc (.cells #[.string a.var,.int .i64 a.sym.kind,.string a.sym.text,.int .i64 a.sym.n] 91):=⟨_,rfl⟩
 go_wp2_with (first
  | (go_at_call 207;refine (Z7v a.sym _).mono ?_;rintro e w9 ⟨rfl,hb9⟩;have HB:=hid (HB.out.trans (hb9.mono HB.out.size));clear hb9))
 all_goals
  go_ret;refine ⟨?_,by (first|exact HB.out|(exact (Znk _ _).alloc (Znl _) _)|(simpa using HB.out))⟩;rw [HR.out];refine Z18 ?_
  first|(simp_all [Z2t];done)|(simp_all [Z2t];rfl)
theorem Zfg (a:Z2o) (w:World):Calls Tryz.prog 209 #[.agg #[.string a.var,.int .i64 a.sym.kind,.string a.sym.text,.int .i64 a.sym.n]] w fun e w'=>e = .returned (.bool (Z4v a))∧Below w.heap.size w w':=by
 obtain ⟨r,hr⟩:∃r,r=Z4v a:=⟨_,rfl⟩;rw [←hr];have HR:=hid hr;clear hr;have HB:=hid ((Znk w.heap.size w).alloc (Znl _) (.cells #[.string a.var,.int .i64 a.sym.kind,.string a.sym.text,.int .i64 a.sym.n] 91));go_enter Tryz.func209,Tryz.ntmps209;obtain ⟨W1,hW1⟩:∃W1,W1=w.alloc (.cells #[.string a.var,.int .i64 a.sym.kind,.string a.sym.text,.int .i64 a.sym.n] 91):=⟨_,rfl⟩
 go_wp2_with (first
  | fail)
 all_goals
  go_ret;refine ⟨?_,by (first|exact HB.out|(exact (Znk _ _).alloc (Znl _) _)|(simpa using HB.out))⟩;rw [HR.out];refine Z18 ?_
  first|(simp_all [Z4v];done)|(simp_all [Z4v];rfl)
theorem Z8l (a:Z2o) (w:World):Calls Tryz.prog 195 #[.agg #[.string a.var,.int .i64 a.sym.kind,.string a.sym.text,.int .i64 a.sym.n]] w fun e w'=>e = .returned (.bool (Z2c a))∧Below w.heap.size w w':=by
 obtain ⟨r,hr⟩:∃r,r=Z2c a:=⟨_,rfl⟩;rw [←hr];have HR:=hid hr;clear hr;have HB:=hid ((Znk w.heap.size w).alloc (Znl _) (.cells #[.string a.var,.int .i64 a.sym.kind,.string a.sym.text,.int .i64 a.sym.n] 91));go_enter Tryz.func195,Tryz.ntmps195;obtain ⟨W1,hW1⟩:∃W1,W1=w.alloc (.cells #[.string a.var,.int .i64 a.sym.kind,.string a.sym.text,.int .i64 a.sym.n] 91):=⟨_,rfl⟩
 go_wp2_with (first
  | (go_at_call 207;refine (Z7v a.sym _).mono ?_;rintro e w9 ⟨rfl,hb9⟩;have HB:=hid (HB.out.trans (hb9.mono HB.out.size));clear hb9)
  | (go_at_call 208;refine (Z3r a.sym _).mono ?_;rintro e w9 ⟨rfl,hb9⟩;have HB:=hid (HB.out.trans (hb9.mono HB.out.size));clear hb9)
  | (go_at_call 98;refine (Z3v a.var _).mono ?_;rintro e w9 ⟨rfl,rfl⟩))
 all_goals
  go_ret;refine ⟨?_,by (first|exact HB.out|(exact (Znk _ _).alloc (Znl _) _)|(simpa using HB.out))⟩;rw [HR.out];refine Z18 ?_
  first|(simp_all [Z2c];done)|(simp_all [Z2c];rfl)
theorem Zmr (t:Z8j) (w:World):Calls Tryz.prog 196 #[.agg #[.int .i64 t.op,.string t.a.var,.int .i64 t.a.sym.kind,.string t.a.sym.text,.int .i64 t.a.sym.n,.string t.b.var,.int .i64 t.b.sym.kind,.string t.b.sym.text,.int .i64 t.b.sym.n]] w fun e w'=>e = .returned (.bool (Z2n t))∧Below w.heap.size w w':=by
 by_cases c0:t.op<0;(have t0:decide (t.op<0)=true:=by simp [*]);have HR:=hid (show Z2n t=false by simp [Z2n, *]);clear c0;rotate_left 1;by_cases c1:3<t.op;(have t0:decide (t.op<0)=false:=by simp;omega);(have t1:decide (3<t.op)=true:=by simp [*]);have HR:=hid (show Z2n t=false by simp [Z2n, *]);clear c0 c1;rotate_left 1;by_cases c2:Z2c t.a=false;(have t0:decide (t.op<0)=false:=by simp;omega);(have t1:decide (3<t.op)=false:=by simp;omega);have t2:=c2;have HR:=hid (show Z2n t=false by simp [Z2n, *]);clear c0 c1 c2;rotate_left 1;by_cases c3:t.op=0;(have t0:decide (t.op<0)=false:=by simp;omega);(have t1:decide (3<t.op)=false:=by simp;omega);(have t2:Z2c t.a=true:=by simpa using c2);(have t3:decide (t.op=0)=true:=by simp [*]);(have t3b:(t.op == 0)=true:=by simp [*]);have HR:=hid (show Z2n t=Z2t t.b by simp [Z2n, *]);clear c0 c1 c2 c3;rotate_left 1;by_cases c4:Z2c t.b=false;(have t0:decide (t.op<0)=false:=by simp;omega);(have t1:decide (3<t.op)=false:=by simp;omega);(have t2:Z2c t.a=true:=by simpa using c2);(have t3:decide (t.op=0)=false:=by simp [*]);(have t3b:(t.op == 0)=false:=by simp [*]);have t4:=c4;have HR:=hid (show Z2n t=false by simp [Z2n, *]);clear c0 c1 c2 c3 c4;rotate_left 1;by_cases c5:Z4v t.a=true;(have t0:decide (t.op<0)=false:=by simp;omega);(have t1:decide (3<t.op)=false:=by simp;omega);have t2:Z2c t.a=true:=by simpa using c2
 (have t3:decide (t.op=0)=false:=by simp [*]);(have t3b:(t.op == 0)=false:=by simp [*]);(have t4:Z2c t.b=true:=by simpa using c4);have t5:=c5;have HR:=hid (show Z2n t=false by simp [Z2n, *]);clear c0 c1 c2 c3 c4 c5;rotate_left 1;(have t0:decide (t.op<0)=false:=by simp;omega);(have t1:decide (3<t.op)=false:=by simp;omega);(have t2:Z2c t.a=true:=by simpa using c2);(have t3:decide (t.op=0)=false:=by simp [*]);(have t3b:(t.op == 0)=false:=by simp [*]);(have t4:Z2c t.b=true:=by simpa using c4);(have t5:Z4v t.a=false:=by simpa using c5);have HR:=hid (show Z2n t=(!Z4v t.b) by simp [Z2n, *]);clear c0 c1 c2 c3 c4 c5
 all_goals
  go_enter Tryz.func196,Tryz.ntmps196;(go_upto_region 1 with fail);obtain ⟨W1,hW1⟩:∃W1,W1=w.alloc (.cells #[.int .i64 t.op,.string t.a.var,.int .i64 t.a.sym.kind,.string t.a.sym.text,.int .i64 t.a.sym.n,.string t.b.var,.int .i64 t.b.sym.kind,.string t.b.sym.text,.int .i64 t.b.sym.n] 93):=⟨_,rfl⟩;rw [←hW1];(have hBk:Blk W1 w.heap.size 93 #[.int .i64 t.op,.string t.a.var,.int .i64 t.a.sym.kind,.string t.a.sym.text,.int .i64 t.a.sym.n,.string t.b.var,.int .i64 t.b.sym.kind,.string t.b.sym.text,.int .i64 t.b.sym.n]:=by rw [hW1];exact Blk.new _ _ _);have HB:=hid (show Below w.heap.size w W1 by rw [hW1];exact (Znk _ _).alloc (Znl _) _);have e0:W1.cell? ⟨w.heap.size,0,none⟩=some (.int .i64 t.op):=(hBk.cell 0).trans rfl;have e1:W1.cell? ⟨w.heap.size,1,none⟩=some (.string t.a.var):=(hBk.cell 1).trans rfl;have e2:W1.cell? ⟨w.heap.size,2,none⟩=some (.int .i64 t.a.sym.kind):=(hBk.cell 2).trans rfl;have e3:W1.cell? ⟨w.heap.size,3,none⟩=some (.string t.a.sym.text):=(hBk.cell 3).trans rfl;have e4:W1.cell? ⟨w.heap.size,4,none⟩=some (.int .i64 t.a.sym.n):=(hBk.cell 4).trans rfl;have e5:W1.cell? ⟨w.heap.size,5,none⟩=some (.string t.b.var):=(hBk.cell 5).trans rfl;have e6:W1.cell? ⟨w.heap.size,6,none⟩=some (.int .i64 t.b.sym.kind):=(hBk.cell 6).trans rfl;have e7:W1.cell? ⟨w.heap.size,7,none⟩=some (.string t.b.sym.text):=(hBk.cell 7).trans rfl;have e8:W1.cell? ⟨w.heap.size,8,none⟩=some (.int .i64 t.b.sym.n):=(hBk.cell 8).trans rfl;have hbl:=hBk.lt;clear hW1 hBk
  go_wp2_with (first
   | (go_at_call 198;refine (Zeo t.b _).mono ?_;rintro e w9 ⟨rfl,hb9⟩;have HB:=hid (HB.out.trans (hb9.mono HB.out.size));replace e0:=(hb9.cell (p:=⟨w.heap.size,0,none⟩) hbl).trans e0;replace e1:=(hb9.cell (p:=⟨w.heap.size,1,none⟩) hbl).trans e1;replace e2:=(hb9.cell (p:=⟨w.heap.size,2,none⟩) hbl).trans e2;replace e3:=(hb9.cell (p:=⟨w.heap.size,3,none⟩) hbl).trans e3;replace e4:=(hb9.cell (p:=⟨w.heap.size,4,none⟩) hbl).trans e4;replace e5:=(hb9.cell (p:=⟨w.heap.size,5,none⟩) hbl).trans e5;replace e6:=(hb9.cell (p:=⟨w.heap.size,6,none⟩) hbl).trans e6;replace e7:=(hb9.cell (p:=⟨w.heap.size,7,none⟩) hbl).trans e7;replace e8:=(hb9.cell (p:=⟨w.heap.size,8,none⟩) hbl).trans e8;replace hbl:=Znn hbl hb9.size;clear hb9)
   | (go_at_call 195;(first|(with_reducible refine (Z8l t.a _).mono ?_)|(with_reducible refine (Z8l t.b _).mono ?_));rintro e w9 ⟨rfl,hb9⟩;have HB:=hid (HB.out.trans (hb9.mono HB.out.size));replace e0:=(hb9.cell (p:=⟨w.heap.size,0,none⟩) hbl).trans e0;replace e1:=(hb9.cell (p:=⟨w.heap.size,1,none⟩) hbl).trans e1;replace e2:=(hb9.cell (p:=⟨w.heap.size,2,none⟩) hbl).trans e2;replace e3:=(hb9.cell (p:=⟨w.heap.size,3,none⟩) hbl).trans e3;replace e4:=(hb9.cell (p:=⟨w.heap.size,4,none⟩) hbl).trans e4;replace e5:=(hb9.cell (p:=⟨w.heap.size,5,none⟩) hbl).trans e5;replace e6:=(hb9.cell (p:=⟨w.heap.size,6,none⟩) hbl).trans e6;replace e7:=(hb9.cell (p:=⟨w.heap.size,7,none⟩) hbl).trans e7;replace e8:=(hb9.cell (p:=⟨w.heap.size,8,none⟩) hbl).trans e8;replace hbl:=Znn hbl hb9.size;clear hb9)
   | (go_at_call 209;(first|(with_reducible refine (Zfg t.a _).mono ?_)|(with_reducible refine (Zfg t.b _).mono ?_));rintro e w9 ⟨rfl,hb9⟩;have HB:=hid (HB.out.trans (hb9.mono HB.out.size));replace e0:=(hb9.cell (p:=⟨w.heap.size,0,none⟩) hbl).trans e0;replace e1:=(hb9.cell (p:=⟨w.heap.size,1,none⟩) hbl).trans e1;replace e2:=(hb9.cell (p:=⟨w.heap.size,2,none⟩) hbl).trans e2;replace e3:=(hb9.cell (p:=⟨w.heap.size,3,none⟩) hbl).trans e3;replace e4:=(hb9.cell (p:=⟨w.heap.size,4,none⟩) hbl).trans e4;replace e5:=(hb9.cell (p:=⟨w.heap.size,5,none⟩) hbl).trans e5;replace e6:=(hb9.cell (p:=⟨w.heap.size,6,none⟩) hbl).trans e6;replace e7:=(hb9.cell (p:=⟨w.heap.size,7,none⟩) hbl).trans e7;replace e8:=(hb9.cell (p:=⟨w.heap.size,8,none⟩) hbl).trans e8;replace hbl:=Znn hbl hb9.size;clear hb9))
  go_ret;exact ⟨by rw [HR.out]<;>rfl,by (first|exact HB.out|(exact (Znk _ _).alloc (Znl _) _)|(simpa using HB.out))⟩
end
end Go.Proofs.YtfidcfjcmlgkbaaGreat
