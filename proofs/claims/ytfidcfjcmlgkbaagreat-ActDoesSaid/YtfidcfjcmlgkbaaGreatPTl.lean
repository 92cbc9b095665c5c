/-
  Texts put together: TabPutL, TabClone, GTab, GNew, GState, FindName.
-/
import Derived.Test.YtfidcfjcmlgkbaaGreatPTk
namespace Go.Proofs.YtfidcfjcmlgkbaaGreat
open Lib (hid)
set_option maxRecDepth 100000
set_option maxHeartbeats 32000000
section
open Go.RowKit Go.Shelf
attribute [local go_sem] Oper.semAt_some
section
variable {D:Nat→Prop} {w:World} {S:Nat→Option (List Sym)} {σ:Nat→St} {S2:Nat→Option (List Page)} {σ2:Nat→St}
def TPut (D:Nat→Prop) (w:World) (S:Nat→Option (List Sym)) (σ:Nat→St) (S2:Nat→Option (List Page)) (σ2:Nat→St) (T:TB) (l:List Sym) (m:List Page) (L:List Sym) (e:Ending) (w':World):Prop:=
 if L.all Z07=true then
  if T.room<((puts Z01 l L).length:Int) then e = .returned (.int .i64 20)∧Below w.heap.size w w'
  else e = .returned (.int .i64 0)∧Z92 D w S σ S2 σ2 T (puts Z01 l L) ((frsh l L).foldl Z4f m) w'
 else e = .returned (.int .i64 9)∧Below w.heap.size w w'
theorem Sets.priv2 {α:Type} {tSet tE size:Nat} {cells:α→List Value} {cmp:α→α→Int} {w':World} {S:Nat→Option (List α)} {B:Nat} (h:Sets tSet tE size cells cmp D w S σ) (hp:Priv B w w'):Sets tSet tE size cells cmp D w' S σ:=
 ⟨fun b l hb=>(h.at_ b l hb).priv hp,h.srt,h.out,h.apart,fun k hk=>Zkx (h.low k hk) hp.size⟩
theorem Tabs.priv {w':World} {B:Nat} (h:Tabs D w S σ S2 σ2) (hp:Priv B w w'):Tabs D w' S σ S2 σ2:=⟨h.syms.priv2 hp,h.pages.priv2 hp⟩
theorem Z1o.priv {w':World} {B:Nat} {T:TB} (h:Z1o w T) (hp:Priv B w w'):Z1o w' T:=⟨h.1.priv hp,h.2.priv hp⟩
theorem KB.priv {w' w'':World} {B:Nat} (h:KB w w') (hp:Priv B w' w''):KB w w'':=fun g t cs h1 h2 h3 h4 hb=>(h g t cs h1 h2 h3 h4 hb).priv hp
def Zc0 (w:World) (k:Nat):Prop:=k<w.heap.size∧¬Z55 w k
theorem Sets.quiet {α:Type} {tSet tE size:Nat} {cells:α→List Value} {cmp:α→α→Int} {S:Nat→Option (List α)} (h:Sets tSet tE size cells cmp D w S σ):Sets tSet tE size cells cmp (fun k=>D k∨Zc0 w k) w S σ:=
 ⟨h.at_,h.srt,fun b l hb=>⟨fun hk=>hk.elim (h.out b l hb).1 (fun hk=>hk.2 (h.at_ b l hb).blk.at_),fun hs a ha hk=>hk.elim ((h.out b l hb).2 hs a ha) (fun hk=>hk.2 (Z9d (h.at_ b l hb).row a.block (by rw [ha];rfl)))⟩,h.apart,fun k hk=>hk.elim (h.low k) (·.1)⟩
theorem Tabs.quiet (h:Tabs D w S σ S2 σ2):Tabs (fun k=>D k∨Zc0 w k) w S σ S2 σ2:=⟨h.syms.quiet,h.pages.quiet⟩
theorem Zcc {w':World} (h:Fr (fun k=>¬(D k∨Zc0 w k)) w w') (B:Nat):KeepsFrom B w w':=
 KeepsFrom.of_fr h (fun _ hk hl=>Zlr fun hc=>hk (.inr ⟨hl,hc⟩)) B
theorem Z8u (B:Nat) (w:World):KeepsFrom B w w:=KeepsFrom.of_fr (Fr.refl (fun _=>False) w) (fun _ h=>h.elim) B
theorem Zb4 (m:List Page) (s:Sym):(Z4f m s).length≤m.length+1:=by
 unfold Z4f
 split
 · unfold mput
   have h1:=Z5q (cmp:=Z03) m ⟨idc s.text,s.n+1⟩
   have h2:has Z03 (drop Z03 m ⟨idc s.text,s.n+1⟩) ⟨idc s.text,s.n+1⟩=false:=by
    rw [Z32];intro y hy;exact (Za0.1 hy).2
   unfold put;rw [if_neg (by rw [h2];simp)]
   have h3:(below Z03 (drop Z03 m ⟨idc s.text,s.n+1⟩) ⟨idc s.text,s.n+1⟩).length+(Z3o Z03 (drop Z03 m ⟨idc s.text,s.n+1⟩) ⟨idc s.text,s.n+1⟩).length≤(drop Z03 m ⟨idc s.text,s.n+1⟩).length:=by
    generalize drop Z03 m ⟨idc s.text,s.n+1⟩=X
    induction X with
    | nil=>simp [below,Z3o]
    | cons y X ih=>
      simp only [below,Z3o,List.filter_cons] at ih ⊢
      split<;>split<;>simp_all<;>omega
   simp only [Zlb,Zle];omega
 · omega
theorem Z6j : ∀(xs:List Sym) (m:List Page),(xs.foldl Z4f m).length≤m.length+xs.length
 | [],_=>Zkt _
 | x :: xs,m=>by
   have h1:=Zb4 m x;have h2:=Z6j xs (Z4f m x);simp only [List.foldl_cons,Zle];omega
theorem Zij (T:TB) (l:List Sym) (m:List Page) (L:List Sym) (A2:Option Addr) (c2:Nat) (hT:Tabs D w S σ S2 σ2) (hB:Z1o w T) (hb:S T.bs=some l) (hb2:S2 T.bp=some m) (hL:Z0k w 3 Sym.cells A2 c2 L)
 (hr1:1≤T.room) (hr2:T.room≤4096) (hlr:(l.length:Int)≤T.room) (hl2:(m.length:Int)≤256) (hLL:(L.length:Int)≤10000) :
 Calls Tryz.prog 39 #[.pointer (some ⟨T.b,0,none⟩),.slice A2 L.length c2] w (TPut D w S σ S2 σ2 T l m L):=by
 have HT:=hid hT;have HB:=hid hB;have HS:=hid hb;have HP:=hid hb2;have HL:=hid hL;have HSO:=hid (hT.syms.srt T.bs l hb);clear hT hB hb hb2 hL;refine (callsIn_wide (n:=0)).1 ?_;refine callsIn_of_wp_marks Tryz.func39 rfl trivial ?_;refine wpIn_wide.2 ?_;simp only [Tryz.ntmps39,Zm8,Zle,Zlu,Nat.reduceAdd,Nat.reduceSub,Zm2,Zm3,Zm7,Zm5,Zl8,Zlh];(go_wp2_with fail);obtain ⟨W0,hW0⟩ : ∃W0,W0=w.alloc (.cells #[.pointer (some ⟨T.b,0,none⟩)] 31):=⟨_,rfl⟩;(have hb0:Below w.heap.size w W0:=by rw [hW0];exact (Zks _ _).alloc (Zkt _) _);(have hX0:Blk W0 w.heap.size 31 #[.pointer (some ⟨T.b,0,none⟩)]:=by rw [hW0];exact Blk.new _ _ _);rw [← hW0];clear hW0;have hz0:=hX0.lt;have HB0:=hid hb0;have HX0:=hid hX0;clear hb0 hX0
 go_loopw [4,15] (fun e s wr=>∃i:Nat,e = .int .i64 0∧s = .int .i64 i∧i≤L.length∧(∀j,(h:j<L.length)→j<i→Z07 L[j]=true)∧Below W0.heap.size W0 wr) (fun e s wr=>L.length - (intOf s).toNat)
 case atStart=>exact ⟨0,rfl,rfl,Nat.zero_le _,fun j _ h=>absurd h (by omega),Zks _ _⟩
 case round=>
  obtain ⟨i,rfl,rfl,hi,hall,hBl⟩:=hrel;have HALL:=hid hall;have HBl:=hid hBl;have HX1:=hid (HX0.out.new_ hBl);have hz1:=hBl.size;clear hall hBl;by_cases hlt:i<L.length
  · obtain ⟨y,hy⟩ : ∃y,y=L[i]:=⟨_,rfl⟩
    obtain ⟨g,off,rfl,hg,q0,q1,q2⟩:=Z7i (HL.out.new_ (HB0.out.trans (HBl.out.mono (by omega)))) hlt;rw [← hy] at q0 q1 q2;have HY:=hid hy;(have b1:(0:Int)≤(i:Int):=by omega);(have b2:(i:Int)<(L.length:Int):=by omega);clear hy;(go_wp2_with fail);refine (Z2j y _).mono ?_;rintro e w1 ⟨rfl,hb1⟩;have HB1:=hid ((HBl.out.alloc HBl.out.size _).trans (hb1.mono (by have:=HBl.out.size;simp;omega)));clear hb1 q0 q1 q2;cases hv:Z07 y
    · have HE:=hid (Z7h hlt (by rw [← HY.out];exact hv))
      (go_wp2_with fail);refine ⟨_,results_tmp rfl _ _ _,?_⟩;unfold TPut;rw [HE.out];exact ⟨rfl,HB0.out.trans (HB1.out.mono (by omega))⟩
    · have HV:=hid hv
      (go_wp2_with fail);go_roundw
      case rel=>exact ⟨i+1,rfl,by go_num,by omega,fun j h hj=>by
       rcases Nat.lt_or_ge j i with h3 | h3
       · exact HALL.out j h h3
       · obtain rfl:j=i:=by omega
         rw [← HY.out];exact HV.out,HB1.out⟩
      case measure=>simp [intOf]<;>omega
  · have hie:i=L.length:=by omega
    subst hie
    have HE:=hid (show L.all Z07=true from Zlg.2 (fun x hx=>by
     obtain ⟨j,hj,rfl⟩:=List.getElem_of_mem hx
     exact HALL.out j hj hj))
    obtain ⟨w1,hw1⟩ : ∃w1,w1=wr:=⟨_,rfl⟩;rw [← hw1] at HBl HX1 hz1 ⊢;clear hw1 HALL;have HB01:=hid (HB0.out.trans (HBl.out.mono (by omega)));(go_wp2_with fail);refine (Zg8 none 0 [] w1 (Z0k.nil _ _ _) (by simp)).mono ?_;rintro e w2 ⟨k,rfl,hk,sn,A,c,hS2,hA2,hB2⟩;have HS2:=hid hS2;have HA2:=hid hA2;have HB2:=hid hB2;clear hS2 hA2 hB2;go_wp2_with fail
    go_loopw [4,26] (fun e s W=>∃(i:Nat) (sn:Bool) (A:Option Addr) (c:Nat),e = .int .i64 0∧s = .int .i64 i∧i≤L.length∧Z2b W k sn A c (frsh l (L.take i))∧AIn A (w1.heap.size≤·)∧Below w1.heap.size w1 W∧((frsh l (L.take i)).length:Int)≤T.room - l.length) (fun e s W=>L.length - (intOf s).toNat)
    case atStart=>exact ⟨0,sn,A,c,rfl,rfl,Nat.zero_le _,HS2.out,HA2.out,HB2.out,by simp only [List.take_zero,Zhm,Zlu];omega⟩
    case round=>
     clear HS2 HA2 HB2;obtain ⟨i,sn,A,c,rfl,rfl,hi,hSf,hAf,hBf,hroom⟩:=hrel;have HSf:=hid hSf;have HAf:=hid hAf;have HBf:=hid hBf;have HXf:=hid (HX1.out.new_ hBf);have HBw:=hid (HB01.out.trans (hBf.mono (by have:=HB01.out.size;omega)));have hzf:=hBf.size;have hz01:=HB01.out.size;clear hSf hAf hBf;by_cases hlt:i<L.length
     · obtain ⟨y,hy⟩ : ∃y,y=L[i]:=⟨_,rfl⟩
       obtain ⟨g,off,rfl,hg,q0,q1,q2⟩:=Z7i (HL.out.new_ HBw.out) hlt;rw [← hy] at q0 q1 q2;(have b1:(0:Int)≤(i:Int):=by omega);(have b2:(i:Int)<(L.length:Int):=by omega);have p0:wr.cell? ⟨w.heap.size,0,none⟩=some (.pointer (some ⟨T.b,0,none⟩)):=(HXf.out.cell 0).trans rfl;have hxl:=HXf.out.lt;have HTK:=hid (show L.take (i+1)=L.take i ++ [y] by rw [Zm1,Zl1 hlt,← hy];rfl);clear hy;(go_wp2_with fail);obtain ⟨V,hV⟩ : ∃V,V=wr.alloc (.cells #[.int .i64 y.kind,.string y.text,.int .i64 y.n] 38):=⟨_,rfl⟩;(have hbV:Below wr.heap.size wr V:=by rw [hV];exact (Zks _ _).alloc (Zkt _) _);(have hYV:Blk V wr.heap.size 38 #[.int .i64 y.kind,.string y.text,.int .i64 y.n]:=by rw [hV];exact Blk.new _ _ _);rw [← hV];clear hV;have hbVw:=HBw.out.trans (hbV.mono HBw.out.size);refine (Zgt T l y (HT.out.below hbVw) (HB.out.below hbVw) HS.out (by omega)).mono ?_;rintro e V1 ⟨rfl,hb1⟩;have hbV1:=hbVw.trans (hb1.mono hbVw.size);have hY1:=hYV.new_ hb1;have hS1:=(HSf.out.new_ hbV).new_ hb1;have hX1:=(HXf.out.new_ hbV).new_ hb1;have hbf1:=(HBf.out.trans (hbV.mono HBf.out.size)).trans (hb1.mono (by have:=hbV.size;omega));have HY1:=hid hY1;have HS1:=hid hS1;have HX1':=hid hX1;have HBV1:=hid hbV1;have HBF1:=hid hbf1;have hzv1:=hbf1.size;clear hbV hYV hbVw hb1 hbV1 hY1 hS1 hX1 hbf1 q0 q1 q2 p0;have p0:V1.cell? ⟨w.heap.size,0,none⟩=some (.pointer (some ⟨T.b,0,none⟩)):=(HX1'.out.cell 0).trans rfl;have y0:V1.cell? ⟨wr.heap.size,0,none⟩=some (.int .i64 y.kind):=(HY1.out.cell 0).trans rfl;have y1:V1.cell? ⟨wr.heap.size,1,none⟩=some (.string y.text):=(HY1.out.cell 1).trans rfl;have y2:V1.cell? ⟨wr.heap.size,2,none⟩=some (.int .i64 y.n):=(HY1.out.cell 2).trans rfl;have hyl1:=HY1.out.lt;have hxl1:=HX1'.out.lt;cases hh:has Z01 l y
       · have HH:=hid hh
         clear hh;(go_wp2_with fail);refine (Zcs k c sn A (frsh l (L.take i)) y V1 HS1.out (Z9t _ _) (by omega)).mono ?_;rintro e V2 ⟨rfl,sn2,A2',c2',hS2,hF2,hM2⟩;(have hFF:put Z01 (frsh l (L.take i)) y=frsh l (L.take (i+1)):=by rw [HTK.out,Z85,if_neg (by rw [HH.out];simp)]);rw [hFF] at hS2
         have hb2:Below w1.heap.size V1 V2:=hF2.below (by omega) (fun j hj hm=>by
          rcases hm with rfl | ⟨_,a,ha,rfl⟩
          · omega
          · have:=HAf.out a ha;omega)
         have HBF2:=hid (HBF1.out.trans hb2)
         have HA2:=hid (show AIn A2' (w1.heap.size≤·) by
          rcases hM2 with ⟨_,rfl⟩ | ⟨_,g2,hg2,rfl⟩
          · exact HAf.out
          · intro a ha;cases ha;dsimp only;omega)
         have HS2:=hid hS2;clear hS2 hF2 hM2 hb2 p0 y0 y1 y2 hFF;have hbVV:=HB01.out.trans (HBF2.out.mono hz01);have HBVV:=hid hbVV;have HTV:=hid (HT.out.below hbVV);have hBV:=HB.out.below hbVV;have p0:V2.cell? ⟨w.heap.size,0,none⟩=some (.pointer (some ⟨T.b,0,none⟩)):=((HX1.out.new_ HBF2.out).cell 0).trans rfl;have s0:V2.cell? ⟨T.b,0,none⟩=some (.int .i64 T.room):=(hBV.1.cell 0).trans rfl;have s1:V2.cell? ⟨T.b,1,none⟩=some (.pointer (some ⟨T.bs,0,none⟩)):=(hBV.1.cell 1).trans rfl;have hxV:=(HX1.out.new_ HBF2.out).lt;have hbV:=hBV.1.lt;have v1:IntKind.i64.wrap (T.room - (l.length:Int))=T.room - (l.length:Int):=Zl5 _ (by omega);clear hbVV hBV;by_cases hfull:T.room - (l.length:Int)<((frsh l (L.take (i+1))).length:Int)
         · have t1:decide (T.room - (l.length:Int)<((frsh l (L.take (i+1))).length:Int))=true:=by simpa using hfull
           have HFU:=hid hfull;clear hfull;(go_wp2_with fail);refine Z08 (fun w9=>Below V2.heap.size V2 w9) [(0,0),(2,1),(3,0),(4,0),(5,1),(6,1),(7,0),(8,0),(9,1),(1,2),(10,2),(11,0),(12,0)] (by kernel_rfl) (by kernel_rfl) (fun KK hKK=>?_);simp only [Z0h,Zl2,Zl0,Zkz,Zkv,Zky,Zl4];(repeat ((first | (refine Z0b ?_ (Or.inl ⟨by rfl,fun w9=>?_⟩) ?_;rotate_left 1;go_simp;with_reducible rfl) | (refine Z0a ?_ (((Zks _ _).drew)) (Or.inl ⟨by rfl,fun w9 hw9=>?_⟩) ?_;rotate_left 1;obtain ⟨hc9,hf9⟩:=Z0p hw9;go_simp;with_reducible rfl) | refine Z0b undef (Or.inr ⟨by rfl,rfl⟩) ?_ | refine Z0a undef (((Zks _ _).drew)) (Or.inr ⟨by rfl,rfl⟩) ?_);go_frame));refine Z27 (fun K9 hK9=>?_);go_simp;refine (Z41 k _ _ _ (frsh l (L.take (i+1))) _ (HS2.out.new_ ((Zks _ _).drew))).mono ?_;rintro e wx ⟨rfl,rfl⟩;refine hK9 _ _ ((Zks _ _).drew) ?_;clear hK9 K9;refine Z27 (fun K9 hK9=>?_);go_simp;refine (Z41 T.bs _ _ _ l _ ((HTV.out.below ((Zks _ _).drew)).syms.at_ T.bs l HS.out)).mono ?_;rintro e wx ⟨rfl,rfl⟩;refine hK9 _ _ ((Zks _ _).drew) ?_;clear hK9 K9;(repeat ((first | (refine Z0b ?_ (Or.inl ⟨by rfl,fun w9=>?_⟩) ?_;rotate_left 1;go_simp;with_reducible rfl) | (refine Z0a ?_ (((Zks _ _).drew)) (Or.inl ⟨by rfl,fun w9 hw9=>?_⟩) ?_;rotate_left 1;obtain ⟨hc9,hf9⟩:=Z0p hw9;go_simp;with_reducible rfl) | refine Z0b undef (Or.inr ⟨by rfl,rfl⟩) ?_ | refine Z0a undef (((Zks _ _).drew)) (Or.inr ⟨by rfl,rfl⟩) ?_);go_frame));refine Z0u ?_;simp only [Z02];refine hKK _ _ ?_;clear hKK KK;(go_wp2_with fail);refine ⟨_,results_tmp rfl _ _ _,?_⟩;unfold TPut;have h1:=Z60 HSO.out L;have h2:=Z4z l L (i+1);have h3:=HFU.out;rw [HE.out,if_pos rfl,if_pos (by omega)];exact ⟨rfl,HBVV.out.drew⟩
         · have t1:decide (T.room - (l.length:Int)<((frsh l (L.take (i+1))).length:Int))=false:=by simpa using hfull
           have HFU:=hid hfull;clear hfull;(go_wp2_with fail);refine Z08 (fun w9=>Below V2.heap.size V2 w9) [(0,0),(2,1),(3,0),(4,0),(5,1),(6,1),(7,0),(8,0),(9,1),(1,2),(10,2),(11,0),(12,0)] (by kernel_rfl) (by kernel_rfl) (fun KK hKK=>?_);simp only [Z0h,Zl2,Zl0,Zkz,Zkv,Zky,Zl4];(repeat ((first | (refine Z0b ?_ (Or.inl ⟨by rfl,fun w9=>?_⟩) ?_;rotate_left 1;go_simp;with_reducible rfl) | (refine Z0a ?_ (((Zks _ _).drew)) (Or.inl ⟨by rfl,fun w9 hw9=>?_⟩) ?_;rotate_left 1;obtain ⟨hc9,hf9⟩:=Z0p hw9;go_simp;with_reducible rfl) | refine Z0b undef (Or.inr ⟨by rfl,rfl⟩) ?_ | refine Z0a undef (((Zks _ _).drew)) (Or.inr ⟨by rfl,rfl⟩) ?_);go_frame));refine Z27 (fun K9 hK9=>?_);go_simp;refine (Z41 k _ _ _ (frsh l (L.take (i+1))) _ (HS2.out.new_ ((Zks _ _).drew))).mono ?_;rintro e wx ⟨rfl,rfl⟩;refine hK9 _ _ ((Zks _ _).drew) ?_;clear hK9 K9;refine Z27 (fun K9 hK9=>?_);go_simp;refine (Z41 T.bs _ _ _ l _ ((HTV.out.below ((Zks _ _).drew)).syms.at_ T.bs l HS.out)).mono ?_;rintro e wx ⟨rfl,rfl⟩;refine hK9 _ _ ((Zks _ _).drew) ?_;clear hK9 K9;(repeat ((first | (refine Z0b ?_ (Or.inl ⟨by rfl,fun w9=>?_⟩) ?_;rotate_left 1;go_simp;with_reducible rfl) | (refine Z0a ?_ (((Zks _ _).drew)) (Or.inl ⟨by rfl,fun w9 hw9=>?_⟩) ?_;rotate_left 1;obtain ⟨hc9,hf9⟩:=Z0p hw9;go_simp;with_reducible rfl) | refine Z0b undef (Or.inr ⟨by rfl,rfl⟩) ?_ | refine Z0a undef (((Zks _ _).drew)) (Or.inr ⟨by rfl,rfl⟩) ?_);go_frame));refine Z0u ?_;simp only [Z02];refine hKK _ _ ?_;clear hKK KK;(go_wp2_with fail);go_roundw
           case rel=>exact ⟨i+1,sn2,A2',c2',rfl,by go_num,by omega,HS2.out.new_ ((Zks _ _).drew),HA2.out,HBF2.out.drew,by have:=HFU.out;omega⟩
           case measure=>simp [intOf]<;>omega
       · have HH:=hid hh
         clear hh p0 y0 y1 y2;have HFF:=hid (show frsh l (L.take i)=frsh l (L.take (i+1)) by rw [HTK.out,Z85,if_pos HH.out]);have HS1':=hid (show Z2b V1 k sn A c (frsh l (L.take (i+1))) by rw [← HFF.out];exact HS1.out);have p0:V1.cell? ⟨w.heap.size,0,none⟩=some (.pointer (some ⟨T.b,0,none⟩)):=(HX1'.out.cell 0).trans rfl;have hbVV:=HB01.out.trans (HBF1.out.mono hz01);have HBVV:=hid hbVV;have HTV:=hid (HT.out.below hbVV);have hBV:=HB.out.below hbVV;have p0:V1.cell? ⟨w.heap.size,0,none⟩=some (.pointer (some ⟨T.b,0,none⟩)):=((HX1.out.new_ HBF1.out).cell 0).trans rfl;have s0:V1.cell? ⟨T.b,0,none⟩=some (.int .i64 T.room):=(hBV.1.cell 0).trans rfl;have s1:V1.cell? ⟨T.b,1,none⟩=some (.pointer (some ⟨T.bs,0,none⟩)):=(hBV.1.cell 1).trans rfl;have hxV:=(HX1.out.new_ HBF1.out).lt;have hbV:=hBV.1.lt;have v1:IntKind.i64.wrap (T.room - (l.length:Int))=T.room - (l.length:Int):=Zl5 _ (by omega);clear hbVV hBV;by_cases hfull:T.room - (l.length:Int)<((frsh l (L.take (i+1))).length:Int)
         · have t1:decide (T.room - (l.length:Int)<((frsh l (L.take (i+1))).length:Int))=true:=by simpa using hfull
           have HFU:=hid hfull;clear hfull;(go_wp2_with fail);refine Z08 (fun w9=>Below V1.heap.size V1 w9) [(0,0),(2,1),(3,0),(4,0),(5,1),(6,1),(7,0),(8,0),(9,1),(1,2),(10,2),(11,0),(12,0)] (by kernel_rfl) (by kernel_rfl) (fun KK hKK=>?_);simp only [Z0h,Zl2,Zl0,Zkz,Zkv,Zky,Zl4];(repeat ((first | (refine Z0b ?_ (Or.inl ⟨by rfl,fun w9=>?_⟩) ?_;rotate_left 1;go_simp;with_reducible rfl) | (refine Z0a ?_ (((Zks _ _).drew)) (Or.inl ⟨by rfl,fun w9 hw9=>?_⟩) ?_;rotate_left 1;obtain ⟨hc9,hf9⟩:=Z0p hw9;go_simp;with_reducible rfl) | refine Z0b undef (Or.inr ⟨by rfl,rfl⟩) ?_ | refine Z0a undef (((Zks _ _).drew)) (Or.inr ⟨by rfl,rfl⟩) ?_);go_frame));refine Z27 (fun K9 hK9=>?_);go_simp;refine (Z41 k _ _ _ (frsh l (L.take (i+1))) _ (HS1'.out.new_ ((Zks _ _).drew))).mono ?_;rintro e wx ⟨rfl,rfl⟩;refine hK9 _ _ ((Zks _ _).drew) ?_;clear hK9 K9;refine Z27 (fun K9 hK9=>?_);go_simp;refine (Z41 T.bs _ _ _ l _ ((HTV.out.below ((Zks _ _).drew)).syms.at_ T.bs l HS.out)).mono ?_;rintro e wx ⟨rfl,rfl⟩;refine hK9 _ _ ((Zks _ _).drew) ?_;clear hK9 K9;(repeat ((first | (refine Z0b ?_ (Or.inl ⟨by rfl,fun w9=>?_⟩) ?_;rotate_left 1;go_simp;with_reducible rfl) | (refine Z0a ?_ (((Zks _ _).drew)) (Or.inl ⟨by rfl,fun w9 hw9=>?_⟩) ?_;rotate_left 1;obtain ⟨hc9,hf9⟩:=Z0p hw9;go_simp;with_reducible rfl) | refine Z0b undef (Or.inr ⟨by rfl,rfl⟩) ?_ | refine Z0a undef (((Zks _ _).drew)) (Or.inr ⟨by rfl,rfl⟩) ?_);go_frame));refine Z0u ?_;simp only [Z02];refine hKK _ _ ?_;clear hKK KK;(go_wp2_with fail);refine ⟨_,results_tmp rfl _ _ _,?_⟩;unfold TPut;have h1:=Z60 HSO.out L;have h2:=Z4z l L (i+1);have h3:=HFU.out;rw [HE.out,if_pos rfl,if_pos (by omega)];exact ⟨rfl,HBVV.out.drew⟩
         · have t1:decide (T.room - (l.length:Int)<((frsh l (L.take (i+1))).length:Int))=false:=by simpa using hfull
           have HFU:=hid hfull;clear hfull;(go_wp2_with fail);refine Z08 (fun w9=>Below V1.heap.size V1 w9) [(0,0),(2,1),(3,0),(4,0),(5,1),(6,1),(7,0),(8,0),(9,1),(1,2),(10,2),(11,0),(12,0)] (by kernel_rfl) (by kernel_rfl) (fun KK hKK=>?_);simp only [Z0h,Zl2,Zl0,Zkz,Zkv,Zky,Zl4];(repeat ((first | (refine Z0b ?_ (Or.inl ⟨by rfl,fun w9=>?_⟩) ?_;rotate_left 1;go_simp;with_reducible rfl) | (refine Z0a ?_ (((Zks _ _).drew)) (Or.inl ⟨by rfl,fun w9 hw9=>?_⟩) ?_;rotate_left 1;obtain ⟨hc9,hf9⟩:=Z0p hw9;go_simp;with_reducible rfl) | refine Z0b undef (Or.inr ⟨by rfl,rfl⟩) ?_ | refine Z0a undef (((Zks _ _).drew)) (Or.inr ⟨by rfl,rfl⟩) ?_);go_frame));refine Z27 (fun K9 hK9=>?_);go_simp;refine (Z41 k _ _ _ (frsh l (L.take (i+1))) _ (HS1'.out.new_ ((Zks _ _).drew))).mono ?_;rintro e wx ⟨rfl,rfl⟩;refine hK9 _ _ ((Zks _ _).drew) ?_;clear hK9 K9;refine Z27 (fun K9 hK9=>?_);go_simp;refine (Z41 T.bs _ _ _ l _ ((HTV.out.below ((Zks _ _).drew)).syms.at_ T.bs l HS.out)).mono ?_;rintro e wx ⟨rfl,rfl⟩;refine hK9 _ _ ((Zks _ _).drew) ?_;clear hK9 K9;(repeat ((first | (refine Z0b ?_ (Or.inl ⟨by rfl,fun w9=>?_⟩) ?_;rotate_left 1;go_simp;with_reducible rfl) | (refine Z0a ?_ (((Zks _ _).drew)) (Or.inl ⟨by rfl,fun w9 hw9=>?_⟩) ?_;rotate_left 1;obtain ⟨hc9,hf9⟩:=Z0p hw9;go_simp;with_reducible rfl) | refine Z0b undef (Or.inr ⟨by rfl,rfl⟩) ?_ | refine Z0a undef (((Zks _ _).drew)) (Or.inr ⟨by rfl,rfl⟩) ?_);go_frame));refine Z0u ?_;simp only [Z02];refine hKK _ _ ?_;clear hKK KK;(go_wp2_with fail);go_roundw
           case rel=>exact ⟨i+1,sn,A,c,rfl,by go_num,by omega,HS1'.out.new_ ((Zks _ _).drew),HAf.out,HBF1.out.drew,by have:=HFU.out;omega⟩
           case measure=>simp [intOf]<;>omega
     · have hie:i=L.length:=by omega
       subst hie;obtain ⟨w4,hw4⟩ : ∃w4,w4=wr:=⟨_,rfl⟩;rw [← hw4] at HSf HBf HXf HBw hzf ⊢;clear hw4;rw [Zll] at HSf hroom;(go_wp2_with fail);refine (Zb7 k w4).mono ?_;rintro e w5 ⟨rfl,hb5,hbox5⟩;have hz5:=hb5.size;have hbw5:=HBw.out.trans (hb5.mono HBw.out.size);have hS5:=HSf.out.new_ hb5;have hX5:=HXf.out.new_ hb5;have hSQ:=Z8m w4.heap.size k _ _ _ _ w5 hbox5 hS5;have HSQ:=hid hSQ;have HB5:=hid hbw5;have HS5:=hid hS5;have HX5:=hid hX5;have hkl:=hS5.lt;have HA5:=hid hS5.row_lt;clear hSQ hbw5 hS5 hX5 hb5 hbox5 HSf HBf HXf HBw;have hof:=Off.new_ HT.out.syms (show w.heap.size≤k by omega);have hof2:=Off.new_ HT.out.pages (show w.heap.size≤k by omega);have hXl:=HX5.out.lt;have HOF:=hid (⟨hof,hof2⟩:Off k S σ∧Off k S2 σ2);clear hof hof2;(go_wp2_with fail);obtain ⟨D3,hD3⟩ : ∃D3:Nat→Prop,D3=fun j=>D j∨(w.heap.size≤j∧j<w5.heap.size):=⟨_,rfl⟩;obtain ⟨I,hI⟩ : ∃I:List Sym→World→Prop,I=fun p W=>(∃σ' σ2',Tabs D3 W (upd S T.bs (some (puts Z01 l p))) σ' (upd S2 T.bp (some (p.foldl Z4f m))) σ2'∧∀j,j<w.heap.size→Off j S σ→Off j S2 σ2→Off j (upd S T.bs (some (puts Z01 l p))) σ'∧Off j (upd S2 T.bp (some (p.foldl Z4f m))) σ2')∧KB w W∧Fr (fun j=>¬D j) w W∧W.cell? ⟨w.heap.size,0,none⟩=some (.pointer (some ⟨T.b,0,none⟩)):=⟨_,rfl⟩;have hws:w.heap.size≤w5.heap.size:=HB5.out.size;refine (wpIn_wide (n:=0)).1 ?_;refine Zeu (w:=w5) (by rfl) HSQ.out.enter HSQ.out.iter (fun x=>by rfl) HSQ.out.trans HSQ.out.keep (fun W W1 h=>Z40 (HSQ.out.mods W W1 h)) I (fun _ _ _=>False) ?_ (fun _ _ _ _ h=>h.elim) ?_ ?_ ?_ ?_
       · subst hI
         rintro p X Y ⟨⟨σ',σ2',g1,g2⟩,g3,g4,g5⟩ hp;exact ⟨⟨σ',σ2',g1.priv hp,g2⟩,g3.priv hp,g4.priv hp hws,Z69 g5 hp⟩
       · intro W W1 hW hs
         subst hI;have hbW:=HB5.out.trans (hW.mono hws);have g1:=HT.out.protect hbW
         have g2:=(g1.off HOF.out.1 HOF.out.2 hs.fr).weaken (D':=D3) (fun j hj=>by
          rw [hD3] at hj;have:=hW.size;rcases hj with hj | hj
          · exact .inl hj
          · exact .inr ⟨hj.1,by omega⟩)
         refine ⟨⟨σ,σ2,?_,fun j hj h1 h2=>?_⟩,?_,?_,?_⟩
         · simp only [puts,List.foldl_nil]
           rw [Z52 _ _ _ HS.out,Z52 _ _ _ HP.out];exact g2
         · simp only [puts,List.foldl_nil]
           rw [Z52 _ _ _ HS.out,Z52 _ _ _ HP.out];exact ⟨h1,h2⟩
         · exact (KB.of_below hbW).trans (KB.of_sym (HS5.out.new_ hW) (hs.fr.mono (fun j _ hj=>.inl hj)))
         · exact (Fr.of_new hbW).trans (hs.fr.mono (fun j _ hj hd=>by have:=HT.out.syms.low j hd;omega))
         · exact (hs.fr.cell (p:=⟨w.heap.size,0,none⟩) (Zkx hXl hW.size) (fun e=>by dsimp only at e;omega)).trans (((HX5.out.new_ hW).cell 0).trans rfl)
       · intro lo pre x post W hx hlo hIW
         have hx':(frsh l L).length=pre.length+(post.length+1):=by rw [hx];simp
         have hxv:Z07 x=true:=by
          (have h1:x∈frsh l L:=by rw [hx];simp);exact Zlg.1 HE.out x (Z6k.1 h1).1
         have HXV:=hid hxv;clear hx hxv;rw [hI] at hIW;obtain ⟨⟨σ',σ2',g1,g2⟩,g3,g4,g5⟩:=hIW;have HI:=hid hI;have G1:=hid g1;have G2:=hid g2;have G3:=hid g3;have G4:=hid g4;have G5:=hid g5;have HD3:=hid hD3;clear g1 g2 g3 g4 g5 hI hD3;simp only [Z57,Array.zip];(gi_wp2_with fail);refine ⟨KeepsFrom.alloc_ (Z8u _ _) _,fun W3 hp3 hz3 _=>?_⟩;have hx3:Blk W3 W.heap.size 38 #[.int .i64 x.kind,.string x.text,.int .i64 x.n]:=(Blk.new W 38 #[.int .i64 x.kind,.string x.text,.int .i64 x.n]).priv hp3;have x0:W3.cell? ⟨W.heap.size,0,none⟩=some (.int .i64 x.kind):=(hx3.cell 0).trans rfl;have x1:W3.cell? ⟨W.heap.size,1,none⟩=some (.string x.text):=(hx3.cell 1).trans rfl;have x2:W3.cell? ⟨W.heap.size,2,none⟩=some (.int .i64 x.n):=(hx3.cell 2).trans rfl;have hba:Below W.heap.size W (W.alloc (.cells #[.int .i64 x.kind,.string x.text,.int .i64 x.n] 38)):=(Zks _ _).alloc (Zkt _) _;have s3:=(G1.out.below hba).priv hp3;have b3:=((HB.out.kb G3.out).below hba).priv hp3;have c3:W3.cell? ⟨w.heap.size,0,none⟩=some (.pointer (some ⟨T.b,0,none⟩)):=Z69 ((hba.cell (Zla _ _ G5.out)).trans G5.out) hp3;have hcl3:=Zla _ _ c3;have hxl3:=hx3.lt;have S3:=hid s3;have B3:=hid b3;have C3:=hid c3;have P3:=hid hp3;clear s3 b3 hx3 hp3 hz3 hba;(gi_wp2_with fail);refine ⟨trivial,rfl,?_⟩
         have hlen:(((puts Z01 l pre).length:Nat):Int)≤1000000:=by
          have:=Z2p Z1d pre HSO.out;omega
         have hlen2:(((pre.foldl Z4f m).length:Nat):Int)≤1000000:=by
          have:=Z6j pre m;omega
         refine (callsIn_wide.2 (Zir T (puts Z01 l pre) (pre.foldl Z4f m) x S3.out.quiet B3.out (Z06 _ _ _) (Z06 _ _ _) HXV.out hlen hlen2)).mono ?_;rintro e W4 ⟨rfl,⟨σ4,σ5,s4,ho4⟩,hK4,hF4⟩;rw [Zd1,Zd1] at s4 ho4;have k4:=Zcc hF4 w5.heap.size;have hF4':Fr (fun j=>¬D3 j) W3 W4:=hF4.mono (fun j _ hj hd=>hj (.inl hd));(have hDp:D3 w.heap.size:=by rw [HD3.out];exact .inr ⟨Zkt _,hXl⟩);have c4:W4.cell? ⟨w.heap.size,0,none⟩=some (.pointer (some ⟨T.b,0,none⟩)):=(hF4'.cell hcl3 (fun h=>h hDp)).trans C3.out;have S4:=hid (s4.weaken (D':=D3) (fun j hj=>.inl hj));have O4:=hid ho4;have C4:=hid c4;have K4:=hid k4;have F4:=hid hF4';have KB4:=hid hK4;have hz4:=hF4.size;clear s4 ho4 c4 k4 hF4 hF4' hK4 c3 hDp;(gi_wp2_with fail);have hI:=HI.out;subst hI;have hpr:Fr (fun j=>¬D j) W W3:=((Fr.refl _ W).alloc _).into (Fr.of_priv P3.out) (fun j hj=>.inl (fun hd=>by have:=HT.out.syms.low j hd;omega));(have hws4:w.heap.size≤W3.heap.size:=by omega);refine ⟨K4.out,⟨Zlf hpr.size hz4,fun q hq hlt=>?_⟩,⟨σ4,σ5,?_,?_⟩,?_,?_,C4.out⟩
         · have e1:=F4.out.block q.block (Zkx hlt hpr.size) (fun h=>h (by rw [HD3.out];exact .inr ⟨by have:=HAf.out q hq;omega,HA5.out q hq⟩))
           have e2:=P3.out.block q.block (by simp;omega) (.inl (HA5.out q hq));exact e1.trans (e2.trans (Zm9 W _ _ hlt))
         · rw [Z3k,List.foldl_append];exact S4.out
         · intro j hj h1 h2
           rw [Z3k,List.foldl_append];obtain ⟨h3,h4⟩:=G2.out j hj h1 h2;exact O4.out j (by omega) h3 h4
         · exact ((G3.out.trans (KB.of_below ((Zks _ _).alloc (Zkt _) _))).priv P3.out).trans KB4.out
         · exact (G4.out.trans hpr).trans (F4.out.mono (fun j _ hj hd=>hj (by rw [HD3.out];exact .inl hd)))
       · intro Dd W hDd hIW hK
         subst hI;obtain ⟨⟨σ',σ2',g1,g2⟩,g3,g4,g5⟩:=hIW;have G1:=hid g1;have G2:=hid g2;have G3:=hid g3;have G4:=hid g4;have HK:=hid hK;have HD3:=hid hD3;clear g1 g2 g3 g4 g5 hK hD3;(go_wp2_with fail);refine ⟨by simp,.inl ⟨_,_,rfl,run_takeDeferred HK.out,?_⟩⟩;have hpv:Priv w5.heap.size W (W.putObj Dd (.deferred none)):=(Priv.refl _ _).putObj hDd HK.out rfl _;refine ⟨_,results_tmp rfl _ _ _,?_⟩;unfold TPut;have h1:=Z60 HSO.out L;have h2:=G1.out;have h3:=G2.out;rw [Zbk HSO.out] at h2 h3;rw [HE.out,if_pos rfl,if_neg (by omega)];exact ⟨rfl,⟨σ',σ2',(h2.priv hpv).weaken (fun j hj=>by rw [HD3.out];exact .inl hj),h3⟩,G3.out.priv hpv,G4.out.priv hpv hws⟩
       · intro Dd c pre post W _ _ h
         exact h.elim
end
end
section
open Go.RowKit Go.Shelf
section
variable {D:Nat→Prop} {w:World} {S:Nat→Option (List Sym)} {σ:Nat→St} {S2:Nat→Option (List Page)} {σ2:Nat→St}
theorem Off.cloned {α:Type} {S:Nat→Option (List α)} {σ σ':Nat→St} {q b k:Nat} {l:List α} (h:Off q S σ) (hb:S b=some l) (e1 : ∀j,j≠k→j≠b→σ' j=σ j) (e2:(σ' b).A=(σ b).A) (e3:(σ' k).A=(σ b).A) (hqk:q≠k):Off q (upd S k (some l)) σ':=by
 intro b' m hm;by_cases e:b'=k
 · subst e
   rw [e3];exact ⟨Ne.symm hqk,(h b l hb).2⟩
 · rw [Z0q _ _ e] at hm
   by_cases e':b'=b
   · subst e'
     rw [e2];exact h b' m hm
   · rw [e1 _ e e']
     exact h b' m hm
def Zew (D:Nat→Prop) (w:World) (S:Nat→Option (List Sym)) (σ:Nat→St) (S2:Nat→Option (List Page)) (σ2:Nat→St) (m:List Page) (e:Ending) (w':World):Prop:=
 ∃bm bp,e = .returned (.pointer (some ⟨bm,0,none⟩))∧Blk w' bm 209 #[.pointer (some ⟨bp,0,none⟩)]∧(∃σ2',Tabs D w' S σ (upd S2 bp (some m)) σ2'∧∀k,k<w.heap.size→Off k S2 σ2→Off k (upd S2 bp (some m)) σ2')∧KB w w'∧Fr (fun k=>¬D k) w w'∧w.heap.size≤bm∧w.heap.size≤bp
theorem Zcd (bm bp:Nat) (m:List Page) (hT:Tabs D w S σ S2 σ2) (hM:Blk w bm 209 #[.pointer (some ⟨bp,0,none⟩)]) (hb:S2 bp=some m) :
 Calls Tryz.prog 94 #[.pointer (some ⟨bm,0,none⟩)] w (Zew D w S σ S2 σ2 m):=by
 have s0:=(hM.cell 0).trans rfl;have hml:=hM.lt;have HT:=hid hT;have HS:=hid hb;clear hT hM hb;go_enter Tryz.func94,Tryz.ntmps94;(go_wp2_with fail);refine (Zcw HT.out.pages HS.out).mono ?_;rintro e w1 ⟨k,rfl,hk,_,σ2',h1,g1,_,g2,_,g3,hF,hFb⟩;have HOF:=hid (fun q (hq:q<w.heap.size) (ho:Off q S2 σ2)=>Off.cloned (k:=k) ho HS.out g1 g2 g3 (by omega));clear g1 g2 g3;have h2:=HT.out.syms.other (HT.out.pages.at_ bp m HS.out) (by decide) (by decide) (by decide) (by decide) (hFb.mono (M':=Z1g bp (σ2 bp).sn (σ2 bp).A) (fun j _ hj=>.inl hj));have h3:=KB.of_page (HT.out.pages.at_ bp m HS.out) (hFb.mono (M':=Z1g bp (σ2 bp).sn (σ2 bp).A) (fun j _ hj=>.inl hj));have H1:=hid (show Tabs D w1 S σ (upd S2 k (some m)) σ2' from ⟨h2,h1⟩);have H3:=hid h3;have HF:=hid hF;clear h1 h2 h3 hF hFb;(go_wp2_with fail);go_ret;have hn:Below w1.heap.size w1 (w1.alloc (.cells #[.pointer (some ⟨k,0,none⟩)] 209)):=(Zks _ _).alloc (Zkt _) _;exact ⟨w1.heap.size,k,rfl,Blk.new _ _ _,⟨σ2',H1.out.below hn,HOF.out⟩,H3.out.trans (KB.of_below hn),HF.out.trans (Fr.of_new hn),HF.out.size,hk⟩
def Zf0 (D:Nat→Prop) (w:World) (S:Nat→Option (List Sym)) (σ:Nat→St) (S2:Nat→Option (List Page)) (σ2:Nat→St) (T:TB) (l:List Sym) (m:List Page) (e:Ending) (w':World):Prop:=
 ∃T':TB,e = .returned (.pointer (some ⟨T'.b,0,none⟩))∧T'.room=T.room∧Z1o w' T'∧(∃σ' σ2',Tabs D w' (upd S T'.bs (some l)) σ' (upd S2 T'.bp (some m)) σ2'∧∀k,k<w.heap.size→Off k S σ→Off k S2 σ2→Off k (upd S T'.bs (some l)) σ'∧Off k (upd S2 T'.bp (some m)) σ2')∧KB w w'∧Fr (fun k=>¬D k) w w'∧w.heap.size≤T'.bs∧w.heap.size≤T'.bp
theorem Zcy (T:TB) (l:List Sym) (m:List Page) (hT:Tabs D w S σ S2 σ2) (hB:Z1o w T) (hb:S T.bs=some l) (hb2:S2 T.bp=some m) :
 Calls Tryz.prog 42 #[.pointer (some ⟨T.b,0,none⟩)] w (Zf0 D w S σ S2 σ2 T l m):=by
 have HT:=hid hT;have HB:=hid hB;have HS:=hid hb;have HP:=hid hb2;clear hT hB hb hb2;go_enter Tryz.func42,Tryz.ntmps42;(go_wp2_with fail);refine Z08 (fun w9=>Z1o w9 T) [(0,0),(1,0),(2,0),(3,1),(4,0),(5,0),(6,0),(7,1),(9,0),(10,0),(11,0),(12,1),(8,2),(13,2),(14,0),(15,2),(16,0)] (by kernel_rfl) (by kernel_rfl) (fun KK hKK=>?_);simp only [Z0h,Zl2,Zl0,Zkz,Zkv,Zky,Zl4];(repeat ((first | (refine Z0b ?_ (Or.inl ⟨by rfl,fun w9=>?_⟩) ?_;rotate_left 1;go_simp;with_reducible rfl) | (refine Z0a ?_ ((HB.out.below ((Zks _ _).drew))) (Or.inl ⟨by rfl,fun w9 hw9=>?_⟩) ?_;rotate_left 1;have l0:=(hw9.1.cell 0).trans rfl;have l1:=(hw9.1.cell 1).trans rfl;have l2:=(hw9.1.cell 2).trans rfl;have lb:=hw9.1.lt;go_simp;with_reducible rfl) | refine Z0b undef (Or.inr ⟨by rfl,rfl⟩) ?_ | refine Z0a undef ((HB.out.below ((Zks _ _).drew))) (Or.inr ⟨by rfl,rfl⟩) ?_);go_frame));refine Z27 (fun K9 hK9=>?_);go_simp;refine (Zen (HT.out.below ((Zks _ _).drew)).syms HS.out).mono ?_;rintro e w1 ⟨k,rfl,hk,_,σ1,h1,g1,_,g2,_,g3,hF,hFb⟩;have HOF1:=hid (fun q (hq:q<w.heap.size) (ho:Off q S σ)=>Off.cloned (k:=k) ho HS.out g1 g2 g3 (by have:w.heap.size≤k:=(by simpa using hk);omega));clear g1 g2 g3;have hT0:=HT.out.below ((Zks w.heap.size w).drew);have h2:=hT0.pages.other (hT0.syms.at_ T.bs l HS.out) (by decide) (by decide) (by decide) (by decide) (hFb.mono (M':=Z1g T.bs (σ T.bs).sn (σ T.bs).A) (fun j _ hj=>.inl hj));have h3:=KB.of_sym (hT0.syms.at_ T.bs l HS.out) (hFb.mono (M':=Z1g T.bs (σ T.bs).sn (σ T.bs).A) (fun j _ hj=>.inl hj));have H1:=hid (show Tabs D w1 (upd S k (some l)) σ1 S2 σ2 from ⟨h1,h2⟩);have HK1:=hid ((KB.of_below ((Zks w.heap.size w).drew)).trans h3);have HF1:=hid ((Fr.refl _ w).drew.trans hF);have hk:w.heap.size≤k:=(by simpa using hk);have HB1:=hid (HB.out.kb HK1.out);clear hT0 h1 h2 h3 hF hFb;refine hK9 _ _ HB1.out ?_;clear hK9 K9;refine Z27 (fun K9 hK9=>?_);go_simp;refine (Zcd T.bm T.bp m H1.out HB1.out.2 HP.out).mono ?_;rintro e w2 ⟨bm,bp,rfl,hM,⟨σ3,h2,hof⟩,hK,hF,hbm,hbp⟩;have HOF2:=hid hof;clear hof;have H2:=hid h2;have HM:=hid hM;have HK2:=hid (HK1.out.trans hK);have HF2:=hid (HF1.out.trans hF);have HB2:=hid (HB1.out.kb hK);clear h2 hM hK hF;refine hK9 _ _ HB2.out ?_;clear hK9 K9
 (repeat ((first | (refine Z0b ?_ (Or.inl ⟨by rfl,fun w9=>?_⟩) ?_;rotate_left 1;go_simp;with_reducible rfl) | (refine Z0a ?_ (HB2.out) (Or.inl ⟨by rfl,fun w9 hw9=>?_⟩) ?_;rotate_left 1;have l0:=(hw9.1.cell 0).trans rfl;have l1:=(hw9.1.cell 1).trans rfl;have l2:=(hw9.1.cell 2).trans rfl;have lb:=hw9.1.lt;go_simp;with_reducible rfl) | refine Z0b undef (Or.inr ⟨by rfl,rfl⟩) ?_ | refine Z0a undef (HB2.out) (Or.inr ⟨by rfl,rfl⟩) ?_);go_frame));refine Z2m (by kernel_rfl) (fun K9 hK9=>?_);go_simp;refine hK9 _ _ ?_;clear hK9 K9;(repeat ((first | (refine Z0b ?_ (Or.inl ⟨by rfl,fun w9=>?_⟩) ?_;rotate_left 1;go_simp;with_reducible rfl) | (refine Z0a ?_ (HB2.out) (Or.inl ⟨by rfl,fun w9 hw9=>?_⟩) ?_;rotate_left 1;have l0:=(hw9.1.cell 0).trans rfl;have l1:=(hw9.1.cell 1).trans rfl;have l2:=(hw9.1.cell 2).trans rfl;have lb:=hw9.1.lt;go_simp;with_reducible rfl) | refine Z0b undef (Or.inr ⟨by rfl,rfl⟩) ?_ | refine Z0a undef (HB2.out) (Or.inr ⟨by rfl,rfl⟩) ?_);go_frame));refine Z0u ?_;simp only [Z02];refine hKK _ _ ?_;clear hKK KK;(go_wp2_with fail);go_ret;have hn:Below w2.heap.size w2 (w2.alloc (.cells #[.int .i64 T.room,.pointer (some ⟨k,0,none⟩),.pointer (some ⟨bm,0,none⟩)] 119)):=(Zks _ _).alloc (Zkt _) _;exact ⟨⟨w2.heap.size,T.room,k,bm,bp⟩,rfl,rfl,⟨Blk.new _ _ _,HM.out.new_ hn⟩,⟨σ1,σ3,H2.out.below hn,fun q hq o1 o2=>⟨HOF1.out q hq o1,HOF2.out q (Zkx hq HF1.out.size) o2⟩⟩,HK2.out.trans (KB.of_below hn),HF2.out.trans (Fr.of_new hn),hk,by have:=HF1.out.size;dsimp only;omega⟩
end
end
section
open Go.RowKit Go.Shelf
structure Z71 (W:World) (S:Nat→Option (List Sym)) (S2:Nat→Option (List Page)) (T:TB) (L:List Sym) (m:List Page):Prop where
 blk:Z1o W T
 bs:S T.bs=some L
 bp:S2 T.bp=some m
 ti:TI L m
 srt:Srt Z01 L
 val : ∀s∈L,Z07 s=true
 len:(L.length:Int)≤T.room
 r1:1≤T.room
 r2:T.room≤4096
def Z16 (room:Int) (L X:List Sym):Int:=if X.all Z07=true then (if room<((puts Z01 L X).length:Int) then 20 else 0) else 9
def Z10 (room:Int) (L X:List Sym):List Sym:=if X.all Z07=true then (if room<((puts Z01 L X).length:Int) then L else puts Z01 L X) else L
def zsym:Sym:=⟨0,⟨#[]⟩,0⟩
def Z26 (room:Int) (L:List Sym) (c:UInt8):Int:=if Z1p L c=0 then 1 else if room≤(L.length:Int)∨1048576<Z1p L c then 20 else 0
def Z21 (room:Int) (L:List Sym) (c:UInt8):Sym:=if Z26 room L c=0 then ⟨1,letB c,Z1p L c⟩ else zsym
def Z20 (room:Int) (L:List Sym) (c:UInt8):List Sym:=if Z26 room L c=0 then put Z01 L ⟨1,letB c,Z1p L c⟩ else L
theorem Z8b {L:List Sym} {c:UInt8} (h:Z0z c=true):1≤Z1p L c:=by unfold Z1p;rw [if_pos h];have:=Zce L c;omega
theorem Z84 {L:List Sym} {c:UInt8} (hg:Z0z c=true):has Z01 L ⟨1,letB c,Z1p L c⟩=false:=by
 rw [Z98];intro hm;have h5:=(Z76.1 (Int.le_refl (maxL L c))).2 _ hm ⟨rfl,rfl⟩;(have h6:Z1p L c=maxL L c+1:=by unfold Z1p;rw [if_pos hg]);dsimp only at h5;omega
theorem Zea {L:List Sym} {c:UInt8} (h:Z0z c=false):Z1p L c=0:=by unfold Z1p;simp [h]
section
variable {D D':Nat→Prop} {W W':World} {T:TB} {L:List Sym}
theorem Z71.blk_ {S:Nat→Option (List Sym)} {S2:Nat→Option (List Page)} {m:List Page} (h:Z71 W S S2 T L m) (hb:Z1o W' T):Z71 W' S S2 T L m:=⟨hb,h.bs,h.bp,h.ti,h.srt,h.val,h.len,h.r1,h.r2⟩
theorem Zaa {room:Int} {L X:List Sym} (h : ∀s∈L,Z07 s=true) : ∀s∈Z10 room L X,Z07 s=true:=by
 unfold Z10
 split
 · rename_i hx
   split
   · exact h
   · intro s hs
     rw [Z22] at hs;rcases hs with hs | hs
     · exact h s hs
     · exact Zlg.1 hx s hs
 · exact h
end
def Out (D:Nat→Prop) (W:World) (S:Nat→Option (List Sym)) (σ:Nat→St) (S2:Nat→Option (List Page)) (σ2:Nat→St) (T:TB) (L':List Sym) (W':World):Prop:=
 (∃σ' σ2' m',Tabs D W' (upd S T.bs (some L')) σ' (upd S2 T.bp (some m')) σ2'∧TI L' m'∧Srt Z01 L'∧(∀s∈L',Z07 s=true)∧(L'.length:Int)≤T.room∧∀q,q<W.heap.size→Off q S σ→Off q S2 σ2→Off q (upd S T.bs (some L')) σ'∧Off q (upd S2 T.bp (some m')) σ2')∧KB W W'∧Fr (fun j=>¬D j) W W'
section
variable {D D':Nat→Prop} {W W':World} {T T':TB} {L L' L1:List Sym} {S:Nat→Option (List Sym)} {σ:Nat→St} {S2:Nat→Option (List Page)} {σ2:Nat→St} {m:List Page}
theorem Out.same (h1:Tabs D W S σ S2 σ2) (h2:Z71 W S S2 T L m) (hb:Below W.heap.size W W'):Out D W S σ S2 σ2 T L W':=
 ⟨⟨σ,σ2,m,by rw [Z52 _ _ _ h2.bs,Z52 _ _ _ h2.bp];exact h1.below hb,h2.ti,h2.srt,h2.val,h2.len,fun q _ o1 o2=>by rw [Z52 _ _ _ h2.bs,Z52 _ _ _ h2.bp];exact ⟨o1,o2⟩⟩,KB.of_below hb,Fr.of_new hb⟩
theorem Zio (X:List Sym) (A2:Option Addr) (c2:Nat) (h1:Tabs D W S σ S2 σ2) (h2:Z71 W S S2 T L m) (hX:Z0k W 3 Sym.cells A2 c2 X) (hl:(X.length:Int)≤10000) :
 Calls Tryz.prog 39 #[.pointer (some ⟨T.b,0,none⟩),.slice A2 X.length c2] W fun e W'=>e = .returned (.int .i64 (Z16 T.room L X))∧Out D W S σ S2 σ2 T (Z10 T.room L X) W':=by
 refine (Zij T L m X A2 c2 h1 h2.blk h2.bs h2.bp hX h2.r1 h2.r2 h2.len (Zdj h2.ti.1) hl).mono ?_;intro e W' hp;have hval:=Zaa (room:=T.room) (X:=X) h2.val;unfold TPut at hp;unfold Z10 at hval ⊢;unfold Z16
 split at hp
 · rename_i hx
   rw [if_pos hx] at hval;rw [if_pos hx,if_pos hx]
   split at hp
   · rename_i hr
     rw [if_pos hr,if_pos hr];exact ⟨hp.1,Out.same h1 h2 hp.2⟩
   · rename_i hr
     rw [if_neg hr] at hval;rw [if_neg hr,if_neg hr];have hti:=h2.ti.puts (m:=m) (frsh L X) (fun s hs=>Zlg.1 hx s (Z6k.1 hs).1);rw [Zbk h2.srt] at hti;obtain ⟨he,⟨σ',σ2',g1,gof⟩,hK,hF⟩:=hp;exact ⟨he,⟨σ',σ2',_,g1,hti,Srt.puts Z1d _ h2.srt,hval,by omega,gof⟩,hK,hF⟩
 · rename_i hx
   rw [if_neg hx,if_neg hx];exact ⟨hp.1,Out.same h1 h2 hp.2⟩
theorem Zih (c:UInt8) (h1:Tabs D W S σ S2 σ2) (h2:Z71 W S S2 T L m) :
 Calls Tryz.prog 44 #[.pointer (some ⟨T.b,0,none⟩),.int .u8 (c.toNat:Int)] W fun e W'=>e = .returned (.tuple #[.agg #[.int .i64 (Z21 T.room L c).kind,.string (Z21 T.room L c).text,.int .i64 (Z21 T.room L c).n],.int .i64 (Z26 T.room L c)])∧Out D W S σ S2 σ2 T (Z20 T.room L c) W':=by
 have hlen:=h2.len;have hr2:=h2.r2;have hpl:=Zdj h2.ti.1;cases hg:Z0z c
 · have e0:Z26 T.room L c=1:=by unfold Z26;rw [if_pos (Zea hg)]
   (have e1:Z21 T.room L c=zsym:=by unfold Z21;rw [e0];rfl);(have e2:Z20 T.room L c=L:=by unfold Z20;rw [e0];rfl);rw [e0,e1,e2];exact (Zfj T c hg).mono fun e W' ⟨h3,h4⟩=>⟨h3,Out.same h1 h2 h4⟩
 · have hp:=Z8b (L:=L) hg
   have hnb:=h2.ti.next c;by_cases hf:T.room≤L.length
   · have e0:Z26 T.room L c=20:=by unfold Z26;rw [if_neg (by omega),if_pos (.inl hf)]
     (have e1:Z21 T.room L c=zsym:=by unfold Z21;rw [e0];rfl);(have e2:Z20 T.room L c=L:=by unfold Z20;rw [e0];rfl);rw [e0,e1,e2];exact (Ze6 T L m c h1 h2.blk h2.bs h2.bp hg hf (by omega)).mono fun e W' ⟨h3,h4⟩=>⟨h3,Out.same h1 h2 h4⟩
   · by_cases hn:1048576<Z1p L c
     · have e0:Z26 T.room L c=20:=by unfold Z26;rw [if_neg (by omega),if_pos (.inr hn)]
       (have e1:Z21 T.room L c=zsym:=by unfold Z21;rw [e0];rfl);(have e2:Z20 T.room L c=L:=by unfold Z20;rw [e0];rfl);rw [e0,e1,e2];exact (Zfk T L m c h1 h2.blk h2.bs h2.bp hg hf (by omega) (by omega)).mono fun e W' ⟨h3,h4⟩=>⟨h3,Out.same h1 h2 h4⟩
     · have e0:Z26 T.room L c=0:=by unfold Z26;rw [if_neg (by omega),if_neg (fun h=>h.elim hf hn)]
       (have e1:Z21 T.room L c=⟨1,letB c,Z1p L c⟩:=by unfold Z21;rw [if_pos e0]);(have e2:Z20 T.room L c=put Z01 L ⟨1,letB c,Z1p L c⟩:=by unfold Z20;rw [if_pos e0]);have hv:Z07 ⟨1,letB c,Z1p L c⟩=true:=Zbt hg hp (by omega);have hlp:=Z2o Z1d h2.srt (Z84 hg);rw [e0,e1,e2];refine (Zfl T L m c h1 h2.blk h2.bs h2.bp hg hf (by omega) (by omega) (by omega) (by omega)).mono fun e W' ⟨h3,h4⟩=>?_;rw [hnb] at h3 h4;obtain ⟨⟨σ',σ2',g1,gof⟩,hK,hF⟩:=h4
       exact ⟨h3,⟨σ',σ2',_,g1,h2.ti.put hv,h2.srt.put Z1d _,(fun s hs=>by
        rcases Z35.1 hs with hs | rfl
        · exact h2.val s hs
        · exact hv),by rw [hlp];omega,gof⟩,hK,hF⟩
end
end
section
open Go.RowKit Go.Shelf
section
variable {D:Nat→Prop} {w:World} {S:Nat→Option (List Sym)} {σ:Nat→St} {S2:Nat→Option (List Page)} {σ2:Nat→St}
theorem Zgp (A:Option Addr) (c:Nat) (xs:List Sym) (h:Z7t D w S σ) (hrd:Z0k w 3 Sym.cells A c xs) (hl:(xs.length:Int)≤10000000) :
 Calls Tryz.prog 85 #[.slice A xs.length c] w fun e w'=>∃k,e = .returned (.pointer (some ⟨k,0,none⟩))∧w.heap.size≤k∧(∃σ',Z7t D w' (upd S k (some (puts Z01 [] xs))) σ'∧∀q,q<w.heap.size→Off q S σ→Off q (upd S k (some (puts Z01 [] xs))) σ')∧Below w.heap.size w w':=by
 refine (Zg8 A c xs w hrd hl).mono ?_;rintro e w' ⟨k,he,hk,sn,A',c',h1,hA,hB⟩;refine ⟨k,he,hk,⟨_,h.add hk h1 (Srt.puts Z1d xs Srt.nil) (.inl hA) hB,fun q hq ho b l hb=>?_⟩,hB⟩;by_cases e:b=k
 · subst e
   rw [Z06];exact ⟨by omega,fun a ha=>by have:=hA a ha;omega⟩
 · rw [Z0q _ _ e] at hb ⊢
   exact ho b l hb
theorem Zeo (A:Option Addr) (c:Nat) (xs:List Page) (h:Z66 D w S2 σ2) (hrd:Z0k w 2 Page.cells A c xs) (hl:(xs.length:Int)≤10000000) :
 Calls Tryz.prog 130 #[.slice A xs.length c] w fun e w'=>∃k,e = .returned (.pointer (some ⟨k,0,none⟩))∧w.heap.size≤k∧(∃σ',Z66 D w' (upd S2 k (some (puts Z03 [] xs))) σ'∧∀q,q<w.heap.size→Off q S2 σ2→Off q (upd S2 k (some (puts Z03 [] xs))) σ')∧Below w.heap.size w w':=by
 refine (Zhx A c xs w hrd hl).mono ?_;rintro e w' ⟨k,he,hk,sn,A',c',h1,hA,hB⟩;refine ⟨k,he,hk,⟨_,h.add hk h1 (Srt.puts Z36 xs Srt.nil) (.inl hA) hB,fun q hq ho b l hb=>?_⟩,hB⟩;by_cases e:b=k
 · subst e
   rw [Z06];exact ⟨by omega,fun a ha=>by have:=hA a ha;omega⟩
 · rw [Z0q _ _ e] at hb ⊢
   exact ho b l hb
def Zgz (D:Nat→Prop) (w:World) (S:Nat→Option (List Sym)) (σ:Nat→St) (S2:Nat→Option (List Page)) (σ2:Nat→St) (e:Ending) (w':World):Prop:=
 ∃bm bp,e = .returned (.pointer (some ⟨bm,0,none⟩))∧Blk w' bm 209 #[.pointer (some ⟨bp,0,none⟩)]∧(∃σ2',Tabs D w' S σ (upd S2 bp (some [])) σ2'∧∀q,q<w.heap.size→Off q S2 σ2→Off q (upd S2 bp (some [])) σ2')∧Below w.heap.size w w'∧w.heap.size≤bm∧w.heap.size≤bp
theorem Zc1 (hT:Tabs D w S σ S2 σ2):Calls Tryz.prog 86 #[] w (Zgz D w S σ S2 σ2):=by
 have HT:=hid hT;clear hT;go_enter Tryz.func86,Tryz.ntmps86;(go_wp2_with fail);refine (Zeo none 0 [] HT.out.pages (Z0k.nil _ _ _) (by simp)).mono ?_;rintro e w1 ⟨k,rfl,hk,⟨σ',h1,hof⟩,hB⟩;have HB:=hid hB;have HOF:=hid hof;have H1:=hid (show Tabs D w1 S σ (upd S2 k (some [])) σ' from ⟨HT.out.syms.below hB,h1⟩);clear hB h1 hof;(go_wp2_with fail);go_ret;have hz:=HB.out.size;exact ⟨w1.heap.size,k,rfl,Blk.new _ _ _,⟨σ',H1.out.below ((Zks _ _).alloc (Zkt _) _),HOF.out⟩,HB.out.alloc hz _,hz,hk⟩
def Zh2 (D:Nat→Prop) (w:World) (S:Nat→Option (List Sym)) (σ:Nat→St) (S2:Nat→Option (List Page)) (σ2:Nat→St) (room:Int) (e:Ending) (w':World):Prop:=
 ∃T:TB,e = .returned (.tuple #[.pointer (some ⟨T.b,0,none⟩),.int .i64 0])∧T.room=room∧Z1o w' T∧(∃σ' σ2',Tabs D w' (upd S T.bs (some [])) σ' (upd S2 T.bp (some [])) σ2'∧∀q,q<w.heap.size→Off q S σ→Off q S2 σ2→Off q (upd S T.bs (some [])) σ'∧Off q (upd S2 T.bp (some [])) σ2')∧Below w.heap.size w w'∧w.heap.size≤T.bs∧w.heap.size≤T.bp
theorem Zeq (room:Int) (h1:1≤room) (h2:room≤4096) (hT:Tabs D w S σ S2 σ2):Calls Tryz.prog 38 #[.int .i64 room] w (Zh2 D w S σ S2 σ2 room):=by
 have HT:=hid hT;(have t1:decide (room<1)=false:=by simp;omega);(have t2:decide ((4096:Int)<room)=false:=by simp;omega);clear hT h1 h2;go_enter Tryz.func38,Tryz.ntmps38;(go_wp2_with fail);refine (Zgp none 0 [] HT.out.syms (Z0k.nil _ _ _) (by simp)).mono ?_;rintro e w1 ⟨k,rfl,hk,⟨σ',h1,hof⟩,hB⟩;have HB:=hid hB;have HOF:=hid hof;have H1:=hid (show Tabs D w1 (upd S k (some [])) σ' S2 σ2 from ⟨h1,HT.out.pages.below hB⟩);clear hB h1 hof;(go_wp2_with fail);refine (Zc1 H1.out).mono ?_;rintro e w2 ⟨bm,bp,rfl,hM,⟨σ2',h2,hof2⟩,hB2,hbm,hbp⟩;have HM:=hid hM;have H2:=hid h2;have HOF2:=hid hof2;have hz1:=HB.out.size;have hz2:=hB2.size;have HB2:=hid (HB.out.trans (hB2.mono hz1));clear hM h2 hB2 hof2;(go_wp2_with fail);go_ret2;have hnew:Below w2.heap.size w2 (w2.alloc (.cells #[.int .i64 room,.pointer (some ⟨k,0,none⟩),.pointer (some ⟨bm,0,none⟩)] 119)):=(Zks _ _).alloc (Zkt _) _;exact ⟨⟨w2.heap.size,room,k,bm,bp⟩,rfl,rfl,⟨Blk.new _ _ _,HM.out.new_ hnew⟩,⟨σ',σ2',H2.out.below hnew,fun q hq o1 o2=>⟨HOF.out q hq o1,HOF2.out q (by omega) o2⟩⟩,HB2.out.alloc (by omega) _,hk,by dsimp only;omega⟩
end
end
section
open Go.RowKit Go.Shelf
section
variable {D D':Nat→Prop} {W W':World} {T T':TB} {L L' L1:List Sym} {S:Nat→Option (List Sym)} {σ:Nat→St} {S2:Nat→Option (List Page)} {σ2:Nat→St} {m:List Page}
def Offs (D:Nat→Prop) (S:Nat→Option (List Sym)) (σ:Nat→St) (S2:Nat→Option (List Page)) (σ2:Nat→St):Prop:=∀q,D q→Off q S σ∧Off q S2 σ2
def GT (D:Nat→Prop) (W:World) (T:TB) (L:List Sym):Prop:=∃S σ S2 σ2 m,Tabs D W S σ S2 σ2∧Offs D S σ S2 σ2∧Z71 W S S2 T L m
def GT2 (D:Nat→Prop) (W:World) (T T':TB) (L L':List Sym):Prop:=∃S σ S2 σ2 m m',Tabs D W S σ S2 σ2∧Offs D S σ S2 σ2∧Z71 W S S2 T L m∧Z71 W S S2 T' L' m'∧T.bs≠T'.bs∧T.bp≠T'.bp
theorem Sets.inD {α:Type} {tSet tE size:Nat} {cells:α→List Value} {cmp:α→α→Int} {S:Nat→Option (List α)} (h:Sets tSet tE size cells cmp D W S σ) (ho : ∀q,D q→Off q S σ) (hF:Fr D W W'):Sets tSet tE size cells cmp (fun k=>D k∨(W.heap.size≤k∧k<W'.heap.size)) W' S σ:=
 Sets.widen (D:=D) ⟨fun b l hb=>(h.at_ b l hb).fr hF (fun hd=>(ho b hd b l hb).1 rfl) (fun a ha hd=>(ho _ hd b l hb).2 a ha rfl),h.srt,h.out,h.apart,fun k hk=>Zkx (h.low k hk) hF.size⟩ W.heap.size (fun b l hb=>⟨h.lt hb,fun _ a ha=>(h.at_ b l hb).row_lt a ha⟩)
theorem Offs.grow (h1:Tabs D W S σ S2 σ2) (h:Offs D S σ S2 σ2) (n:Nat):Offs (fun k=>D k∨(W.heap.size≤k∧k<n)) S σ S2 σ2:=fun q hq=>hq.elim (h q) (fun hq=>⟨Off.new_ h1.syms hq.1,Off.new_ h1.pages hq.1⟩)
theorem Tabs.inD (h1:Tabs D W S σ S2 σ2) (h:Offs D S σ S2 σ2) (hF:Fr D W W'):Tabs (fun k=>D k∨(W.heap.size≤k∧k<W'.heap.size)) W' S σ S2 σ2:=⟨h1.syms.inD (fun q hq=>(h q hq).1) hF,h1.pages.inD (fun q hq=>(h q hq).2) hF⟩
theorem GT.low (h:GT D W T L) : ∀k,D k→k<W.heap.size:=by
 obtain ⟨S,σ,S2,σ2,m,h1,_⟩:=h;exact h1.syms.low
theorem GT2.low (h:GT2 D W T T' L L') : ∀k,D k→k<W.heap.size:=by
 obtain ⟨S,σ,S2,σ2,m,m',h1,_⟩:=h;exact h1.syms.low
theorem GT.weaken (h:GT D W T L) (hD : ∀j,D' j→D j):GT D' W T L:=by
 obtain ⟨S,σ,S2,σ2,m,h1,h2,h3⟩:=h;exact ⟨S,σ,S2,σ2,m,h1.weaken hD,fun q hq=>h2 q (hD q hq),h3⟩
theorem GT2.weaken (h:GT2 D W T T' L L') (hD : ∀j,D' j→D j):GT2 D' W T T' L L':=by
 obtain ⟨S,σ,S2,σ2,m,m',h1,h2,h3⟩:=h;exact ⟨S,σ,S2,σ2,m,m',h1.weaken hD,fun q hq=>h2 q (hD q hq),h3⟩
theorem GT.grow (h:GT D W T L) (hF:Fr D W W') (hK:KB W W'):GT (fun k=>D k∨(W.heap.size≤k∧k<W'.heap.size)) W' T L:=by
 obtain ⟨S,σ,S2,σ2,m,h1,h2,h3⟩:=h;exact ⟨S,σ,S2,σ2,m,h1.inD h2 hF,h2.grow h1 _,h3.blk_ (h3.blk.kb hK)⟩
theorem GT2.grow (h:GT2 D W T T' L L') (hF:Fr D W W') (hK:KB W W'):GT2 (fun k=>D k∨(W.heap.size≤k∧k<W'.heap.size)) W' T T' L L':=by
 obtain ⟨S,σ,S2,σ2,m,m',h1,h2,h3,h4,h5,h6⟩:=h;exact ⟨S,σ,S2,σ2,m,m',h1.inD h2 hF,h2.grow h1 _,h3.blk_ (h3.blk.kb hK),h4.blk_ (h4.blk.kb hK),h5,h6⟩
theorem GT.new_ (h:GT D W T L) (hb:Below W.heap.size W W'):GT (fun k=>D k∨(W.heap.size≤k∧k<W'.heap.size)) W' T L:=h.grow (Fr.of_new hb) (KB.of_below hb)
theorem GT2.new_ (h:GT2 D W T T' L L') (hb:Below W.heap.size W W'):GT2 (fun k=>D k∨(W.heap.size≤k∧k<W'.heap.size)) W' T T' L L':=h.grow (Fr.of_new hb) (KB.of_below hb)
theorem GT.below (h:GT D W T L) (hb:Below W.heap.size W W'):GT D W' T L:=(h.new_ hb).weaken (fun _ hj=>.inl hj)
theorem GT2.below (h:GT2 D W T T' L L') (hb:Below W.heap.size W W'):GT2 D W' T T' L L':=(h.new_ hb).weaken (fun _ hj=>.inl hj)
theorem GT2.swap (h:GT2 D W T T' L L'):GT2 D W T' T L' L:=by
 obtain ⟨S,σ,S2,σ2,m,m',h1,h2,h3,h4,h5,h6⟩:=h;exact ⟨S,σ,S2,σ2,m',m,h1,h2,h4,h3,Ne.symm h5,Ne.symm h6⟩
theorem GT2.one (h:GT2 D W T T' L L'):GT D W T L:=by
 obtain ⟨S,σ,S2,σ2,m,m',h1,h2,h3,_⟩:=h;exact ⟨S,σ,S2,σ2,m,h1,h2,h3⟩
theorem Out.gt (h1:Tabs D W S σ S2 σ2) (ho:Offs D S σ S2 σ2) (h2:Z71 W S S2 T L m) (h:Out D W S σ S2 σ2 T L1 W'):GT D W' T L1:=by
 obtain ⟨⟨σ',σ2',m2,g1,g2,g3,g4,g5,g6⟩,hK,_⟩:=h;exact ⟨_,σ',_,σ2',m2,g1,fun q hq=>g6 q (h1.syms.low q hq) (ho q hq).1 (ho q hq).2,⟨h2.blk.kb hK,Z06 _ _ _,Z06 _ _ _,g2,g3,g4,g5,h2.r1,h2.r2⟩⟩
theorem Out.gt2 {m':List Page} (h1:Tabs D W S σ S2 σ2) (ho:Offs D S σ S2 σ2) (h2:Z71 W S S2 T L m) (h3:Z71 W S S2 T' L' m') (h4:T.bs≠T'.bs) (h5:T.bp≠T'.bp) (h:Out D W S σ S2 σ2 T L1 W'):GT2 D W' T T' L1 L':=by
 obtain ⟨⟨σ',σ2',m2,g1,g2,g3,g4,g5,g6⟩,hK,_⟩:=h;exact ⟨_,σ',_,σ2',m2,m',g1,fun q hq=>g6 q (h1.syms.low q hq) (ho q hq).1 (ho q hq).2,⟨h2.blk.kb hK,Z06 _ _ _,Z06 _ _ _,g2,g3,g4,g5,h2.r1,h2.r2⟩,⟨h3.blk.kb hK,by rw [Z0q _ _ (Ne.symm h4)];exact h3.bs,by rw [Z0q _ _ (Ne.symm h5)];exact h3.bp,h3.ti,h3.srt,h3.val,h3.len,h3.r1,h3.r2⟩,h4,h5⟩
theorem GT.list_ (h:GT D W T L):Srt Z01 L∧(∀s∈L,Z07 s=true)∧(L.length:Int)≤T.room∧T.room≤4096:=by
 obtain ⟨S,σ,S2,σ2,m,h1,_,h2⟩:=h;exact ⟨h2.srt,h2.val,h2.len,h2.r2⟩
theorem Zfn (X:List Sym) (A2:Option Addr) (c2:Nat) (h:GT D W T L) (hX:Z0k W 3 Sym.cells A2 c2 X) (hl:(X.length:Int)≤10000) :
 Calls Tryz.prog 39 #[.pointer (some ⟨T.b,0,none⟩),.slice A2 X.length c2] W fun e W'=>e = .returned (.int .i64 (Z16 T.room L X))∧GT D W' T (Z10 T.room L X)∧Fr (fun j=>¬D j) W W'∧KB W W':=by
 obtain ⟨S,σ,S2,σ2,m,h1,h2,h3⟩:=h;exact (Zio X A2 c2 h1 h3 hX hl).mono fun e W' ⟨he,ho⟩=>⟨he,Out.gt h1 h2 h3 ho,ho.2.2,ho.2.1⟩
theorem Zjf (X:List Sym) (A2:Option Addr) (c2:Nat) (h:GT2 D W T T' L L') (hX:Z0k W 3 Sym.cells A2 c2 X) (hl:(X.length:Int)≤10000) :
 Calls Tryz.prog 39 #[.pointer (some ⟨T'.b,0,none⟩),.slice A2 X.length c2] W fun e W'=>e = .returned (.int .i64 (Z16 T'.room L' X))∧GT2 D W' T T' L (Z10 T'.room L' X)∧Fr (fun j=>¬D j) W W'∧KB W W':=by
 obtain ⟨S,σ,S2,σ2,m',m,h1,h2,h4,h3,h5,h6⟩:=h.swap;exact (Zio X A2 c2 h1 h4 hX hl).mono fun e W' ⟨he,ho⟩=>⟨he,(Out.gt2 h1 h2 h4 h3 h5 h6 ho).swap,ho.2.2,ho.2.1⟩
theorem Zfm (c:UInt8) (h:GT2 D W T T' L L') :
 Calls Tryz.prog 44 #[.pointer (some ⟨T'.b,0,none⟩),.int .u8 (c.toNat:Int)] W fun e W'=>e = .returned (.tuple #[.agg #[.int .i64 (Z21 T'.room L' c).kind,.string (Z21 T'.room L' c).text,.int .i64 (Z21 T'.room L' c).n],.int .i64 (Z26 T'.room L' c)])∧GT2 D W' T T' L (Z20 T'.room L' c)∧Fr (fun j=>¬D j) W W'∧KB W W':=by
 obtain ⟨S,σ,S2,σ2,m',m,h1,h2,h4,h3,h5,h6⟩:=h.swap;exact (Zih c h1 h4).mono fun e W' ⟨he,ho⟩=>⟨he,(Out.gt2 h1 h2 h4 h3 h5 h6 ho).swap,ho.2.2,ho.2.1⟩
theorem Zhn (h:GT D W T L):Calls Tryz.prog 42 #[.pointer (some ⟨T.b,0,none⟩)] W fun e W'=>∃T':TB,e = .returned (.pointer (some ⟨T'.b,0,none⟩))∧T'.room=T.room∧GT2 D W' T T' L L∧Fr (fun j=>¬D j) W W'∧KB W W':=by
 obtain ⟨S,σ,S2,σ2,m,h1,ho,h2⟩:=h;refine (Zcy T L m h1 h2.blk h2.bs h2.bp).mono ?_;rintro e W' ⟨T',he,hr,hB,⟨σ',σ2',hT,hof⟩,hK,hF,hbs,hbp⟩;have hl1:=h1.syms.lt h2.bs;have hl2:=h1.pages.lt h2.bp;(have n1:T.bs≠T'.bs:=by omega);(have n2:T.bp≠T'.bp:=by omega);exact ⟨T',he,hr,⟨_,σ',_,σ2',m,m,hT,fun q hq=>hof q (h1.syms.low q hq) (ho q hq).1 (ho q hq).2,⟨h2.blk.kb hK,by rw [Z0q _ _ n1];exact h2.bs,by rw [Z0q _ _ n2];exact h2.bp,h2.ti,h2.srt,h2.val,h2.len,h2.r1,h2.r2⟩,⟨hB,Z06 _ _ _,Z06 _ _ _,h2.ti,h2.srt,h2.val,by rw [hr];exact h2.len,by rw [hr];exact h2.r1,by rw [hr];exact h2.r2⟩,n1,n2⟩,hF,hK⟩
theorem Zin (room:Int) (w:World) (h1:1≤room) (h2:room≤4096):Calls Tryz.prog 38 #[.int .i64 room] w fun e w'=>∃T:TB,e = .returned (.tuple #[.pointer (some ⟨T.b,0,none⟩),.int .i64 0])∧T.room=room∧GT (· < w.heap.size) w' T []∧Below w.heap.size w w':=by
 refine (Zeq room h1 h2 (Tabs.start w)).mono ?_;rintro e w' ⟨T,he,hr,hB,⟨σ',σ2',hT,hof⟩,hb,_,_⟩;exact ⟨T,he,hr,⟨_,σ',_,σ2',[],hT,fun q hq=>hof q hq (fun _ _ h=>by cases h) (fun _ _ h=>by cases h),⟨hB,Z06 _ _ _,Z06 _ _ _,TI.nil,Srt.nil,(fun s hs=>absurd hs (by simp)),(by rw [Zlu];omega),(by omega),(by omega)⟩⟩,hb⟩
end
theorem Z3b {W W':World} {base size n:Nat} {e:TypeId} {v:Value} {xs:List Value} (h:W.ownsRow base e size v n xs) (hK:KB W W') (h1:e≠203) (h2:e≠38) (h3:e≠260) (h4:e≠207):W'.ownsRow base e size v n xs:=
 ⟨h.1,h.2.imp id fun ⟨g,cap,cur,hv,h0,hg,hr⟩=>⟨g,cap,cur,hv,h0,hK g e cur h1 h2 h3 h4 hg,hr⟩⟩
theorem KB.grown {w w1 w2:World} {base n:Nat} {v:Value} {xs:List Value} (h:KB w w1) (hown:w1.ownsRow base 38 3 v n xs) (hg:w1.grownBy w2 v.ownBlock):KB w w2:=fun g t cs h1 h2 h3 h4 hb=>(h g t cs h1 h2 h3 h4 hb).grown hg (Z0d hown (h g t cs h1 h2 h3 h4 hb) (Ne.symm h2))
theorem Zgl {D:Nat→Prop} {X w4:World} {A:Option Addr} {c n m B:Nat} {v':Value} {xs news:List Value} (hown:X.ownsRow 0 38 3 (.slice A n c) n xs) (hA:AIn A D) (hB:AIn A (B≤·)) (hBX:B≤X.heap.size) (hown':w4.ownsRow 0 38 3 v' (n+m) (xs++news)) (hg:X.grownBy w4 (Value.slice A n c).ownBlock) (hat:v'.ownBlock=(Value.slice A n c).ownBlock∨v'.ownBlock=some X.heap.size) :
 ∃A' c',v' = .slice A' (n+m) c'∧Fr D X w4∧KB X w4∧AIn A' (fun k=>D k∨(X.heap.size≤k∧k<w4.heap.size))∧AIn A' (B≤·)∧Below B X w4∧Fr (fun k=>(Value.slice A n c).ownBlock=some k) X w4∧n+m≤c':=by
 obtain ⟨A',c',rfl,hc,_,hz⟩:=Z1y hown'
 have hob : ∀k,(Value.slice A n c).ownBlock=some k→D k∧B≤k:=by
  intro k hk;rcases A with _ | a
  · simp [Value.ownBlock] at hk
  · have e:a.block=k:=by simpa [Value.ownBlock] using hk
    exact ⟨e ▸ hA a rfl,e ▸ hB a rfl⟩
 have hat' : ∀a,A'=some a→(∃k,(Value.slice A n c).ownBlock=some k∧a.block=k)∨a.block=X.heap.size:=by
  intro a ha;subst ha;rcases hat with h | h
  · exact .inl ⟨a.block,by rw [← h];simp [Value.ownBlock],rfl⟩
  · exact .inr (by simpa [Value.ownBlock] using h)
 refine ⟨A',c',rfl,(Fr.refl D X).grown hg (fun k hk=>.inl (hob k hk).1),KB.grown (KB.refl X) hown hg,fun a ha=>?_,fun a ha=>?_,(Zks B X).grown hg hBX (fun k hk=>(hob k hk).2),(Fr.refl _ X).grown hg (fun k hk=>.inl hk),hc⟩
 · rcases hat' a ha with ⟨k,hk,e⟩ | e
   · exact .inl (e ▸ (hob k hk).1)
   · refine .inr ⟨by omega,?_⟩
     subst ha;rcases Z0i hown' with ⟨hv,_⟩ | ⟨g,cap,hv,_,_,hr,_⟩
     · cases hv
     · injection hv with hv
       injection hv with hv;subst hv;exact hr.lt
 · rcases hat' a ha with ⟨k,hk,e⟩ | e
   · exact e ▸ (hob k hk).2
   · show B≤a.block
     omega
theorem Z4v {P:(Nat→Prop)→World→Prop} (hgrow : ∀D W W',P D W→Fr D W W'→KB W W'→P (fun k=>D k∨(W.heap.size≤k∧k<W'.heap.size)) W') {D:Nat→Prop} {w3 X w4:World} {A:Option Addr} {c n m B:Nat} {v':Value} {xs news:List Value}
 (h:P D w3) (hb:Below w3.heap.size w3 X) (hown:w3.ownsRow 0 38 3 (.slice A n c) n xs) (hA:AIn A D) (hB:AIn A (B≤·)) (hBX:B≤w3.heap.size) (hown':w4.ownsRow 0 38 3 v' (n+m) (xs++news)) (hg:X.grownBy w4 (Value.slice A n c).ownBlock) (hat:v'.ownBlock=(Value.slice A n c).ownBlock∨v'.ownBlock=some X.heap.size) :
 ∃A' c' D3,v' = .slice A' (n+m) c'∧P D3 w4∧(∀j,D j→D3 j)∧AIn A' D3∧AIn A' (B≤·)∧KB w3 w4∧Below B w3 w4∧Fr (fun k=>(Value.slice A n c).ownBlock=some k) w3 w4∧n+m≤c':=by
 obtain ⟨A',c',e1,hF,hK,h1,h2,h3,h4,h5⟩:=Zgl (D:=fun k=>D k∨(w3.heap.size≤k∧k<X.heap.size)) (Z00 hown hb) (hA.mono (fun _ h=>.inl h)) hB (Zlf hBX hb.size) hown' hg hat;exact ⟨A',c',_,e1,hgrow _ _ _ (hgrow _ _ _ h (Fr.of_new hb) (KB.of_below hb)) hF hK,fun j hj=>.inl (.inl hj),h1,h2,(KB.of_below hb).trans hK,(hb.mono hBX).trans h3,(Fr.of_new hb).trans h4,h5⟩
end
section
open Go.RowKit
abbrev Z2t:=Z2g (α:=Name) 270 216 1 Name.cells
theorem Za4 (k0 : ByteArray) (w : World) : (nilAhead 442 216 (.string k0) "Compare").run Tryz.prog w = .ok (some false) w := by kernel_rfl
theorem Zcf (k0 : ByteArray) (w : World) : (method 442 216 (.string k0) "Compare").run Tryz.prog w = .ok (265, .string k0) w := by kernel_rfl
def Zam (l:List Name) (x:Name) (w:World) (e:Ending) (w':World):Prop:=
 e = .returned (.tuple #[.int .i64 (rank Z0e l x),.bool (has Z0e l x)])∧Below w.heap.size w w'
theorem Z81 (b c:Nat) (sn:Bool) (A:Option Addr) (l:List Name) (x:Name) (w:World) (hS:Z2t w b sn A c l) (hs:Srt Z0e l) (hl:(l.length:Int)≤4611686018427387904) :
 Calls Tryz.prog 199 #[.pointer (some ⟨b,0,none⟩),.string x] w (Zam l x w):=by
 have hrd:=hS.rd Name.cells_length;have h0:=hS.cell0;have hb:=hS.lt;clear hS;have HS:=hid hs;have HRD:=hid hrd;clear hs hrd;go_enter Tryz.func199,Tryz.ntmps199;(go_wp2_with fail);go_quiet (fail);(go_wp2_with fail);obtain ⟨W0,hW0⟩ : ∃W0,W0=(w.drewN nq):=⟨_,rfl⟩;(have hB0:Below w.heap.size w W0:=by rw [hW0];exact Below.drewN' (Zks _ _) _);rw [← hW0];clear hW0;have HB0:=hid hB0;clear hB0
 go_loopw [6,7] (fun lo hi wr=>∃i j:Nat,lo = .int .i64 i∧hi = .int .i64 j∧i≤j∧j≤l.length∧(∀k,(h:k<l.length)→k<i→Z0e l[k] x<0)∧(∀k,(h:k<l.length)→j≤k→0<Z0e l[k] x)∧Below W0.heap.size W0 wr) (fun lo hi wr=>(intOf hi).toNat - (intOf lo).toNat)
 case atStart=>exact ⟨0,l.length,rfl,rfl,Nat.zero_le _,Zkt _,fun k _ h=>absurd h (by omega),fun k h h'=>absurd h (by omega),Zks _ _⟩
 case round=>
  obtain ⟨i,j,rfl,rfl,hij,hj,hlo,hhi,hB⟩:=hrel;have HLO:=hid hlo;have HHI:=hid hhi;clear hlo hhi;have hsz:w.heap.size≤W0.heap.size:=HB0.out.size;by_cases hlt:i<j
  · obtain ⟨m,hm⟩ : ∃m,m=i+(j - i) / 2:=⟨_,rfl⟩
    (have hml:m<l.length:=by omega);(have hmj:m<j:=by omega);(have hmi:i≤m:=by omega);(have e1:((i:Int)+((j:Int) - (i:Int)) / 2)=(m:Int):=by omega);have E1:=hid e1;clear e1 hm;obtain ⟨g,off,rfl,hgs,hcell⟩:=HRD.out.at_ hml;have low : ∀(p:Addr),p.block<w.heap.size→wr.cell? p=w.cell? p:=fun p hp=>(hB.cell (p:=p) (by omega)).trans (HB0.out.cell (p:=p) hp);have r0:=(low ⟨b,0,none⟩ hb).trans h0;have q0:wr.cell? ⟨g,off+m,none⟩=some (.string l[m]):=(low ⟨g,off+m,none⟩ hgs).trans (by simpa using hcell 0 _ rfl);(have b1:(0:Int)≤(m:Int):=by omega);(have b2:(m:Int)<(l.length:Int):=by omega);have hsw:W0.heap.size≤wr.heap.size:=hB.size;have N:=Za4;have M:=Zcf;clear low hcell h0;have HB:=hid hB;clear hB;obtain ⟨y,hy⟩ : ∃y,y=l[m]:=⟨_,rfl⟩;rw [← hy] at q0;have HY:=hid hy;clear hy;(have hbw:b<wr.heap.size:=by omega);(have hgw:g<wr.heap.size:=by omega);(go_upto_region 4 with (fail));rw [E1.out];(go_wp2_with fail);refine (Zh7 y x _).mono ?_;rintro e w1 ⟨rfl,hb1⟩;have HB1:Below W0.heap.size W0 w1:=HB.out.trans (hb1.mono hsw);clear r0 q0 N M;have HB1':=hid HB1;clear HB1;by_cases hc:Z0e y x=0
    · have HC:=hid hc
      (have t1:(Z0e y x == 0)=true:=by simp [hc]);clear hc;(go_wp2_with fail);go_ret2;have e:=HC.out;rw [HY.out] at e;refine ⟨?_,HB0.out.trans (HB1'.out.mono (by omega))⟩;rw [Z8g Z3g HS.out hml e,(Z7x Z3g HS.out hml e).2.2.1];rfl
    · have t1:(Z0e y x == 0)=false:=by simp [hc]
      by_cases hc2:Z0e y x<0
      · have HC:=hid hc2
        (have t2:decide (Z0e y x<0)=true:=by simpa using hc2);clear hc hc2;(go_wp2_with fail);go_roundw
        case rel=>
         refine ⟨m+1,j,by go_num,rfl,by omega,hj,fun k h1 h2=>?_,HHI.out,HB1'.out⟩;have e:=HC.out;rw [HY.out] at e;rcases Nat.lt_or_ge k m with h3 | h3
         · exact Z3g.lt_of_lt_of_le (HS.out.lt h3 hml) (by omega)
         · obtain rfl:k=m:=by omega
           exact e
        case measure=>simp [intOf];omega
      · have t2:decide (Z0e y x<0)=false:=by simpa using hc2
        (have hc3:0<Z0e y x:=by omega);have HC:=hid hc3;clear hc hc2 hc3;(go_wp2_with fail);go_roundw
        case rel=>
         refine ⟨i,m,rfl,rfl,by omega,by omega,HLO.out,fun k h1 h2=>?_,HB1'.out⟩;have e:=HC.out;rw [HY.out] at e;rcases Nat.lt_or_ge m k with h3 | h3
         · exact (Z3g.symm _ _).1 (Z3g.lt_trans ((Z3g.symm _ _).2 e) (HS.out.lt h3 h1))
         · obtain rfl:k=m:=by omega
           exact e
        case measure=>simp [intOf];omega
  · obtain rfl:i=j:=by omega
    have HB:=hid hB;clear hB;(go_wp2_with fail);go_ret2;refine ⟨?_,HB0.out.trans (HB.out.mono (by omega))⟩;rw [Z6r hj HLO.out HHI.out,(Z7w HLO.out HHI.out).2.2];rfl
end
end Go.Proofs.YtfidcfjcmlgkbaaGreat
