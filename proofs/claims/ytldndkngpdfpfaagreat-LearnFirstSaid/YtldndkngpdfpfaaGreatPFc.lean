/-
  Texts put together: OpsSym, PutSym, NewSym, KitSyms, KeepPrefT, EagerT, RangeP, RangeO, Store, RangeO2, IterBase.
-/
import Derived.Test.YtldndkngpdfpfaaGreatPFb
import Derived.Test.YtldndkngpdfpfaaGreatRows
namespace Go.Proofs.YtldndkngpdfpfaaGreat
open Lib (hid)
set_option maxRecDepth 100000
set_option maxHeartbeats 32000000
section
open Go.RowKit
theorem Zec:(Tryz.prog.info? 23).map (fun i=>(i.zero,i.size,i.bytes))=some (some (.agg #[.int .i64 0,.string ⟨#[]⟩,.int .i64 0]),3,32):=by kernel_rfl
theorem Sym.one (x:Sym) : ∀u∈Sym.cells x,u.oneCell'=true:=by intro u hu;simp [Sym.cells] at hu;rcases hu with rfl | rfl | rfl<;>rfl
theorem Sym.oneAll (l:List Sym) : ∀u∈l.flatMap Sym.cells,u.oneCell'=true:=by intro u hu;obtain ⟨x,_,hx⟩:=List.mem_flatMap.1 hu;exact Sym.one x u hx
def Z79 (w:World) (b:Nat) (sn:Bool) (A:Option Addr) (l:List Sym) (e:Ending) (w':World):Prop:=
 e = .returned (.tuple #[])∧∃A' c',Z49 w' b false A' c' l∧Fr (· = b) w w'∧Z1p w sn A false A'
theorem Zfy (b c:Nat) (A:Option Addr) (l:List Sym) (w:World) (hS:Z49 w b false A c l) :
 Calls Tryz.prog 135 #[.pointer (some ⟨b,0,none⟩)] w (Z79 w b false A l):=by
 have h1:=hS.cell1;have HS:=hid hS;clear hS;go_enter Tryz.func135,Tryz.ntmps135;go_wp2;go_end0;exact ⟨rfl,A,c,HS.out,Fr.refl _ _,.inl ⟨rfl,rfl⟩⟩
theorem Zdf (b c:Nat) (A:Option Addr) (l:List Sym) (w:World) (hS:Z49 w b true A c l) (hl:(l.length:Int)≤1000000000) :
 Calls Tryz.prog 135 #[.pointer (some ⟨b,0,none⟩)] w (Z79 w b true A l):=by
 obtain ⟨i0,hi,hz0,hz1,hz2⟩:=info_parts Zec;have h0:=hS.cell0;have h1:=hS.cell1;have hb:=hS.lt;have f0:=hS.blk.frozen 0;have f1:=hS.blk.frozen 1;have hrd:=hS.rd Sym.cells_length;have HB:=hid hS.blk;have HRD:=hid hrd;clear hS hrd;have e1:IntKind.i64.wrap ((l.length:Int)+1)=(l.length:Int)+1:=Zof _ (by omega)
 have hmk : ∀W:World,(Instr.makeSlice 36 (.int .i64 0) (.int .i64 ((l.length:Int)+1))).run Tryz.prog W = .ok (.slice (some ⟨W.heap.size,0,none⟩) 0 (l.length+1)) (W.alloc (.cells (madeCells (Value.cells (.agg #[.int .i64 0,.string ⟨#[]⟩,.int .i64 0])) ((l.length+1)*3)) 23)):=fun W=>by
  have h:=run_make (P:=Tryz.prog) W 36 23 i0 _ Tryz.underlying36 hi hz0 .i64 .i64 0 ((l.length:Int)+1) (by omega) (by omega) (by rw [hz2];omega) (by omega);rw [hz1] at h;simpa [show ((l.length:Int)+1).toNat=l.length+1 by omega] using h
 go_enter Tryz.func135,Tryz.ntmps135;(go_wp2_with fail);refine Z06 (fun w9=>Below w.heap.size w w9) [(0,0),(1,0),(2,0),(3,0),(4,1),(5,0),(6,0),(8,0),(9,0),(10,0),(11,1),(7,2),(12,2),(13,0),(14,0),(15,2)] (by kernel_rfl) (by kernel_rfl) (fun KK hKK=>?_);simp only [Z05,Zo9,Zo2,Zo7,Zo5,Zo6,Zoc];(repeat ((first | (refine Z0a ?_ (Or.inl ⟨by rfl,fun w9=>?_⟩) ?_;rotate_left 1;go_simp;with_reducible rfl) | (refine Z09 ?_ (((Znz _ _).drew)) (Or.inl ⟨by rfl,fun w9 hw9=>?_⟩) ?_;rotate_left 1;obtain ⟨hc9,hf9⟩:=Z0q hw9;go_simp;with_reducible rfl) | refine Z0a undef (Or.inr ⟨by rfl,rfl⟩) ?_ | refine Z09 undef (((Znz _ _).drew)) (Or.inr ⟨by rfl,rfl⟩) ?_);go_frame));refine Z29 (fun K9 hK9=>?_);go_simp;refine hK9 _ _ (((Znz _ _).drew).alloc (Zo0 _) _) ?_;clear hK9 K9;refine Z1n (by kernel_rfl) (fun K9 hK9=>?_)
 refine Z0i _ (by rfl) _ _ _ (by rfl) 23 i0 _ 3 32 Tryz.underlying36 hi hz0 hz1 hz2 rfl (by omega) _ 0 [] (by rfl) (World.ownsRow_made _ _ _ (Nat.zero_le _) (by unfold maxLen;omega) (by simp [madeCells])) A l.length c (l.flatMap Sym.cells) (by rfl) (Z0t Sym.cells_length l)
  ((HRD.out.drew.alloc _).news Sym.cells_length (by omega)) (Sym.oneAll l) (by unfold maxLen;omega) (by omega) ?_
 intro v2 w2 hown hgr hnil hat;refine hK9 _ _ ?_;clear hK9 K9;rw [Zov,Zom] at hown;obtain ⟨A',c',rfl,_,_,hz⟩:=Z0z hown;have HB1:=(HB.out.drew.alloc (.cells (madeCells (Value.cells (.agg #[.int .i64 0,.string ⟨#[]⟩,.int .i64 0])) ((l.length+1)*3)) 23)).grown hgr (by simp [Value.ownBlock];omega);have c0:=(HB1.cell 0).trans rfl;have c1:=(HB1.cell 1).trans rfl;have z0:=HB1.frozen 0;have z1:=HB1.frozen 1;have HB2:=hid HB1;clear HB1;(repeat ((first | (refine Z0a ?_ (Or.inl ⟨by rfl,fun w9=>?_⟩) ?_;rotate_left 1;go_simp;with_reducible rfl) | (refine Z09 ?_ (((Znz _ _).drew).alloc (Zo0 _) _) (Or.inl ⟨by rfl,fun w9 hw9=>?_⟩) ?_;rotate_left 1;obtain ⟨hc9,hf9⟩:=Z0q hw9;go_simp;with_reducible rfl) | refine Z0a undef (Or.inr ⟨by rfl,rfl⟩) ?_ | refine Z09 undef (((Znz _ _).drew).alloc (Zo0 _) _) (Or.inr ⟨by rfl,rfl⟩) ?_);go_frame));refine Z1n (by kernel_rfl) (fun K9 hK9=>?_);go_simp;refine hK9 _ _ ?_;clear hK9 K9;refine Z12 ?_;simp only [Z00];refine hKK _ _ ?_;clear hKK KK;go_wp2;go_end0
 have hb2:(Value.slice A' l.length c').ownBlock=some w.heap.size∨(Value.slice A' l.length c').ownBlock=some (w.heap.size+1):=by
  rcases hat with h | h
  · left;rw [h];rfl
  · right;rw [h];simp
 have hA : ∃g,w.heap.size≤g∧A'=some ⟨g,0,none⟩:=by
  rcases A' with _ | a
  · exfalso;simp [Value.ownBlock] at hb2
  · obtain ⟨g,rfl⟩:=hz a rfl
    refine ⟨g,?_,rfl⟩;simp [Value.ownBlock] at hb2;omega
 obtain ⟨g,hg,rfl⟩:=hA;have HB1:=HB2.out;have HF:Fr (· = b) w w2:=((Fr.refl (· = b) w).drew.alloc _).grown hgr (fun k e=>by simp [Value.ownBlock] at e;right;omega);refine ⟨rfl,some ⟨g,0,none⟩,c',⟨(HB1.set_ 0 _).set_ 1 _,?_⟩,(HF.setCell (p:=⟨b,0,none⟩) (.inl rfl) _).setCell (p:=⟨b,1,none⟩) (.inl rfl) _,.inr ⟨rfl,g,hg,rfl⟩⟩;(have hne:(Value.slice (some ⟨g,0,none⟩) l.length c').ownBlock≠some b:=by simp [Value.ownBlock];omega);exact ownsRow_setCell_other (a:=⟨b,1,none⟩) (ownsRow_setCell_other (a:=⟨b,0,none⟩) hown hne _) hne _
theorem Zmu (b c:Nat) (sn:Bool) (A:Option Addr) (l:List Sym) (w:World) (hS:Z49 w b sn A c l) (hl:(l.length:Int)≤1000000000) :
 Calls Tryz.prog 135 #[.pointer (some ⟨b,0,none⟩)] w (Z79 w b sn A l):=by
 cases sn
 · exact Zfy b c A l w hS
 · exact Zdf b c A l w hS hl
def Z7e (w:World) (b:Nat) (sn:Bool) (A:Option Addr) (l:List Sym) (x:Sym) (e:Ending) (w':World):Prop:=
 e = .returned (.bool (!has Z08 l x))∧∃sn' A' c',Z49 w' b sn' A' c' (put Z08 l x)∧Fr (Z0y b sn A) w w'∧Z1p w sn A sn' A'
theorem Zal (b c:Nat) (sn:Bool) (A:Option Addr) (l:List Sym) (x:Sym) (w:World) (hS:Z49 w b sn A c l) (hs:Srt Z08 l) (hl:(l.length:Int)≤100000000) (hh:has Z08 l x=true) :
 Calls Tryz.prog 86 #[.pointer (some ⟨b,0,none⟩),.agg #[.int .i64 x.kind,.string x.text,.int .i64 x.n]] w (Z7e w b sn A l x):=by
 have HS:=hid hS;have HO:=hid hs;clear hS hs;go_enter Tryz.func86,Tryz.ntmps86;(go_wp2_with fail);refine (Ze4 b c sn A l x _ (HS.out.new_ ((Znz _ _).alloc (Zo0 _) _)) HO.out (by omega)).mono ?_;rintro e w1 ⟨rfl,hb1⟩;(go_wp2_with fail);go_ret;refine ⟨by rw [hh];rfl,sn,A,c,?_,Fr.of_new (((Znz _ _).alloc (Zo0 _) _).trans (hb1.mono (by simp))),.inl ⟨rfl,rfl⟩⟩;rw [Z3m hh];exact HS.out.new_ (((Znz _ _).alloc (Zo0 _) _).trans (hb1.mono (by simp)))
theorem Zdn (b c:Nat) (sn:Bool) (A:Option Addr) (l:List Sym) (x:Sym) (w:World) (hS:Z49 w b sn A c l) (hs:Srt Z08 l) (hl:(l.length:Int)≤100000000) (hh:has Z08 l x=false) :
 Calls Tryz.prog 86 #[.pointer (some ⟨b,0,none⟩),.agg #[.int .i64 x.kind,.string x.text,.int .i64 x.n]] w (Z7e w b sn A l x):=by
 obtain ⟨i0,hi,hz0,hz1,hz2⟩:=info_parts Zec;have HS:=hid hS;have HO:=hid hs;have hb:=hS.lt;clear hS hs;have hrk:=Z4z (cmp:=Z08) l x;go_enter Tryz.func86,Tryz.ntmps86;(go_wp2_with fail);have hSa:=HS.out.new_ ((Znz w.heap.size w).alloc (Zo0 _) (.cells #[.int .i64 x.kind,.string x.text,.int .i64 x.n] 23));have HSa:=hid hSa;clear hSa;refine (Ze4 b c sn A l x _ HSa.out HO.out (by omega)).mono ?_;rintro e w1 ⟨rfl,hb1⟩;have HS1:=hid (HSa.out.new_ hb1);(have hsz1:w.heap.size+1≤w1.heap.size:=by have:=hb1.size;(try simp at this);omega);have y0:=(hb1.cell (p:=⟨w.heap.size,0,none⟩) (by simp)).trans ((Blk.new w 23 #[.int .i64 x.kind,.string x.text,.int .i64 x.n]).cell 0);have y1:=(hb1.cell (p:=⟨w.heap.size,1,none⟩) (by simp)).trans ((Blk.new w 23 #[.int .i64 x.kind,.string x.text,.int .i64 x.n]).cell 1);have y2:=(hb1.cell (p:=⟨w.heap.size,2,none⟩) (by simp)).trans ((Blk.new w 23 #[.int .i64 x.kind,.string x.text,.int .i64 x.n]).cell 2);have HB1:=hid hb1;clear hb1;(go_wp2_with fail);refine (Zmu b c sn A l _ HS1.out (by omega)).mono ?_;rintro e w2 ⟨rfl,A1,c1,hS2,hF2,hM2⟩;have hsz2:w1.heap.size≤w2.heap.size:=hF2.size;have x0:w2.cell? ⟨w.heap.size,0,none⟩=some (.int .i64 x.kind):=(hF2.cell (p:=⟨w.heap.size,0,none⟩) (by dsimp only;omega) (by dsimp only;omega)).trans y0;have x1:w2.cell? ⟨w.heap.size,1,none⟩=some (.string x.text):=(hF2.cell (p:=⟨w.heap.size,1,none⟩) (by dsimp only;omega) (by dsimp only;omega)).trans y1;have x2:w2.cell? ⟨w.heap.size,2,none⟩=some (.int .i64 x.n):=(hF2.cell (p:=⟨w.heap.size,2,none⟩) (by dsimp only;omega) (by dsimp only;omega)).trans y2;have s0:=hS2.cell0;have f0:=hS2.blk.frozen 0;(have hb2:b<w2.heap.size:=by omega);(have hk2:w.heap.size<w2.heap.size:=by omega);have HS2:=hid hS2;have HF2:=hid hF2;have HM2:=hid hM2;clear hS2 hF2 hM2 y0 y1 y2;(go_wp2_with fail);refine Z06 (fun w9=>Below w2.heap.size w2 w9) [(0,0),(1,0),(2,0),(3,0),(4,1),(5,1),(6,2),(7,2),(8,0),(9,0),(10,2)] (by kernel_rfl) (by kernel_rfl) (fun KK hKK=>?_);simp only [Z05,Zo9,Zo2,Zo7,Zo5,Zo6,Zoc];(repeat ((first | (refine Z0a ?_ (Or.inl ⟨by rfl,fun w9=>?_⟩) ?_;rotate_left 1;go_simp;with_reducible rfl) | (refine Z09 ?_ (((Znz _ _).drew)) (Or.inl ⟨by rfl,fun w9 hw9=>?_⟩) ?_;rotate_left 1;obtain ⟨hc9,hf9⟩:=Z0q hw9;go_simp;with_reducible rfl) | refine Z0a undef (Or.inr ⟨by rfl,rfl⟩) ?_ | refine Z09 undef (((Znz _ _).drew)) (Or.inr ⟨by rfl,rfl⟩) ?_);go_frame));refine Z29 (fun K9 hK9=>?_);go_simp
 refine hK9 _ _ (((Znz _ _).drew).alloc (Zo0 _) _) ?_;clear hK9 K9;refine Z1n (by kernel_rfl) (fun K9 hK9=>?_)
 refine Z0i _ (by rfl) _ _ _ (by rfl) 23 i0 _ 3 32 Tryz.underlying36 hi hz0 hz1 hz2 rfl (by omega) _ l.length (l.flatMap Sym.cells) (by rfl) (Z02 HS2.out.row (((Znz _ _).drew).alloc (Zo0 _) _)) (some ⟨w2.heap.size,0,none⟩) 1 1 (Sym.cells x) (by rfl) (by rfl)
  (fun _=>⟨_,rfl,Zok (heap_alloc_new _ _)⟩) (Sym.one x) (by unfold maxLen;omega) (by omega) ?_
 intro v2 w3 hown hgr hnil hat;refine hK9 _ _ ?_;clear hK9 K9
 obtain ⟨g,c2,rfl⟩ : ∃g c2,v2 = .slice (some ⟨g,0,none⟩) (l.length+1) c2:=by
  rcases Z07 hown with ⟨_,h0,_⟩ | ⟨g,c2,h,_⟩
  · omega
  · exact ⟨g,c2,h⟩
 have HXN:(Value.slice A1 l.length c1).ownBlock≠some w.heap.size:=by
  intro h;rcases HM2.out with ⟨hsn,hA⟩ | ⟨_,g2,hg2,hA⟩
  · rcases A1 with _ | a1
    · cases h
    · have h1:=HS.out.row_lt _ hA.symm
      simp only [Value.ownBlock,Option.some.injEq] at h;omega
  · subst hA
    simp only [Value.ownBlock,Option.some.injEq] at h;omega
 have HB3':=(HS2.out.blk.drew.alloc (.cells #[.int .i64 x.kind,.string x.text,.int .i64 x.n] 23)).grown hgr (Z01 HS2.out.row HS2.out.blk (by decide));have c0:=(HB3'.cell 0).trans rfl;have z0:=HB3'.frozen 0;have HB3:=hid HB3';have HOWN:=hid hown;have HGR:=hid hgr;clear HB3' hown hgr;(repeat ((first | (refine Z0a ?_ (Or.inl ⟨by rfl,fun w9=>?_⟩) ?_;rotate_left 1;go_simp;with_reducible rfl) | (refine Z09 ?_ (((Znz _ _).drew).alloc (Zo0 _) _) (Or.inl ⟨by rfl,fun w9 hw9=>?_⟩) ?_;rotate_left 1;obtain ⟨hc9,hf9⟩:=Z0q hw9;go_simp;with_reducible rfl) | refine Z0a undef (Or.inr ⟨by rfl,rfl⟩) ?_ | refine Z09 undef (((Znz _ _).drew).alloc (Zo0 _) _) (Or.inr ⟨by rfl,rfl⟩) ?_);go_frame));refine Z1n (by kernel_rfl) (fun K9 hK9=>?_);go_simp;refine hK9 _ _ ?_;clear hK9 K9;refine Z12 ?_;simp only [Z00];refine hKK _ _ ?_;clear hKK KK;have hlg:((l.length+1:Nat):Int)=(l.length:Int)+1:=by omega
 have hG:(Z0y b sn A g∨w.heap.size≤g)∧Z1p w sn A false (some ⟨g,0,none⟩)∧g≠w.heap.size∧g≠b:=by
  rcases hat with h | h
  · rcases A1 with _ | a1
    · simp [Value.ownBlock] at h
    · obtain ⟨A',c',hv,_,_,hz⟩:=Z0z HS2.out.row
      injection hv with hv _ _;obtain ⟨g',rfl⟩:=hz a1 hv.symm;(have hgg:g'=g:=by simpa [Value.ownBlock] using h.symm);subst hgg;have hne:g'≠b:=HS2.out.row_ne (by decide) _ rfl;rcases HM2.out with ⟨hsn,hA⟩ | ⟨_,g2,hg2,hA⟩
      · have h1:=HS.out.row_lt _ hA.symm
        exact ⟨.inl (.inr ⟨hsn.symm,_,hA.symm,rfl⟩),.inl ⟨hsn,hA⟩,by dsimp only at h1;omega,hne⟩
      · injection hA with hA
        injection hA with hA;subst hA;exact ⟨.inr (by omega),.inr ⟨rfl,_,by omega,rfl⟩,by omega,hne⟩
  · have hgg:g=w2.heap.size+1:=by simpa [Value.ownBlock] using h
    subst hgg;exact ⟨.inr (by omega),.inr ⟨rfl,_,by omega,rfl⟩,by omega,by omega⟩
 obtain ⟨hgM,hgMv,hgk1,hgb⟩:=hG;obtain ⟨w4,hw4⟩ : ∃w4,w4=w3.setCell ⟨b,0,none⟩ (.slice (some ⟨g,0,none⟩) (l.length+1) c2):=⟨_,rfl⟩;have hB4:Blk w4 b 216 #[.slice (some ⟨g,0,none⟩) (l.length+1) c2,.bool false]:=by rw [hw4];exact HB3.out.set_ 0 _
 have hR4:w4.ownsRow 0 23 3 (.slice (some ⟨g,0,none⟩) (l.length+1) c2) (l.length+1) ((Z0c l x l.length).flatMap Sym.cells):=by
  rw [hw4,Z21];refine ownsRow_setCell_other (a:=⟨b,0,none⟩) ?_ (by simpa [Value.ownBlock] using hgb) _;rw [Zog,List.flatMap_singleton];exact HOWN.out
 have hF4:Fr (Z0y b sn A) w w4:=by
  rw [hw4];have h1:Fr (Z0y b sn A) w w1:=Fr.of_new (((Znz _ _).alloc (Zo0 _) _).trans (HB1.out.mono (by simp)));have h2:Fr (Z0y b sn A) w w2:=h1.trans (HF2.out.mono (fun k _ h=>.inl h));refine ((h2.drew.alloc _).grown HGR.out (fun k hk=>?_)).setCell (p:=⟨b,0,none⟩) (.inl (.inl rfl)) _;rcases A1 with _ | a1
  · cases hk
  · simp only [Value.ownBlock,Option.some.injEq] at hk
    subst hk;rcases HM2.out with ⟨hsn,hA⟩ | ⟨_,g',hg',hA⟩
    · left;right;exact ⟨hsn.symm,a1,hA.symm,rfl⟩
    · injection hA with hA
      subst hA;right;dsimp only;omega
 have z0:w4.cell? ⟨w.heap.size,0,none⟩=some (.int .i64 x.kind):=by
  rw [hw4,World.cell?_setCell_other _ _ _ _ (by intro h;injection h;omega)];refine HGR.out.cell ((World.cell?_alloc_lt w2.drew _ ⟨w.heap.size,0,none⟩ hk2).trans x0) ?_;intro h;exact HXN (by simpa using h.symm)
 have z1:w4.cell? ⟨w.heap.size,1,none⟩=some (.string x.text):=by
  rw [hw4,World.cell?_setCell_other _ _ _ _ (by intro h;injection h;omega)];refine HGR.out.cell ((World.cell?_alloc_lt w2.drew _ ⟨w.heap.size,1,none⟩ hk2).trans x1) ?_;intro h;exact HXN (by simpa using h.symm)
 have z2:w4.cell? ⟨w.heap.size,2,none⟩=some (.int .i64 x.n):=by
  rw [hw4,World.cell?_setCell_other _ _ _ _ (by intro h;injection h;omega)];refine HGR.out.cell ((World.cell?_alloc_lt w2.drew _ ⟨w.heap.size,2,none⟩ hk2).trans x2) ?_;intro h;exact HXN (by simpa using h.symm)
 (have hk4:w.heap.size<w4.heap.size:=by rw [hw4];have:=HGR.out.size;simp at this ⊢;omega);rw [← hw4];have HgM:=hid hgM;have HgMv:=hid hgMv;have HB4:=hid hB4;have HR4:=hid hR4;have HF4:=hid hF4;have s4:=hB4.cell 0;have s4':w4.cell? ⟨b,0,none⟩=some (.slice (some ⟨g,0,none⟩) (l.length+1) c2):=s4;clear s4 hw4 hB4 hR4 hF4 hat hgM hgMv hnil x0 x1 x2 s0 f0;go_wp2_with fail
 go_loopw [7] (fun s wr=>∃i:Nat,s = .int .i64 i∧rank Z08 l x≤i∧i≤l.length∧wr.ownsRow 0 23 3 (.slice (some ⟨g,0,none⟩) (l.length+1) c2) (l.length+1) ((Z0c l x i).flatMap Sym.cells)∧Fr (· = g) w4 wr) (fun s wr=>(intOf s).toNat)
 case atStart=>exact ⟨l.length,by go_num,hrk,Zo0 _,HR4.out,Fr.refl _ _⟩
 case round=>
  obtain ⟨i,rfl,hi1,hi2,hown,hfr⟩:=hrel;have hgw:g<wr.heap.size:=(hown.lt g rfl).2;have r0:wr.cell? ⟨b,0,none⟩=some (.slice (some ⟨g,0,none⟩) (l.length+1) c2):=(hfr.cell (p:=⟨b,0,none⟩) HB4.out.lt (fun h=>hgb h.symm)).trans s4';have fz : ∀o,wr.frozen? ⟨g,o,none⟩=false:=fun o=>hown.frozenAt o;have HOW:=hid hown;have HFR:=hid hfr;clear hown hfr;by_cases hlt:rank Z08 l x<i
  · obtain ⟨j,rfl⟩ : ∃j,i=j+1:=⟨i - 1,by omega⟩
    (have hj:j<l.length:=by omega);have hrd:=Z0d (A:=some ⟨g,0,none⟩) (c:=c2) (l:=Z0c l x (j+1)) Sym.cells_length (by rw [Z03 l x hi2];exact HOW.out);obtain ⟨g',o',hgo,_,hcell⟩:=hrd.at_ (k:=j) (by rw [Z03 l x hi2];omega);injection hgo with hgo;injection hgo with hg1 hg2;subst hg1;subst hg2;rw [Z26 l x hj] at hcell;(have q0:wr.cell? ⟨g,j*3,none⟩=some (.int .i64 l[j].kind):=by simpa using hcell 0 _ rfl);(have q1:wr.cell? ⟨g,j*3+1,none⟩=some (.string l[j].text):=by simpa using hcell 1 _ rfl);have q2:wr.cell? ⟨g,j*3+2,none⟩=some (.int .i64 l[j].n):=by simpa using hcell 2 _ rfl
    have rmj:Room wr g 23 (c2*3)∧l.length+1≤c2:=by
     rcases Z07 HOW.out with ⟨hv,_⟩ | ⟨g',cap,hv,hn,_,hr,_⟩
     · cases hv
     · injection hv with hA _ hc
       injection hA with hA;injection hA with hA;subst hA;subst hc;exact ⟨hr,hn⟩
    obtain ⟨hrm,hcap⟩:=rmj;obtain ⟨u0,t0⟩:=hrm.cell (i:=(j+1)*3) (by omega);obtain ⟨u1,t1⟩:=hrm.cell (i:=(j+1)*3+1) (by omega);obtain ⟨u2,t2⟩:=hrm.cell (i:=(j+1)*3+2) (by omega);(have b0:(0:Int)≤(j:Int)+1:=by omega);(have b1:(0:Int)≤(j:Int):=by omega);(have b4:(j:Int)<(l.length:Int):=by omega);(have b2:(j:Int)<(l.length:Int)+1:=by omega);(have b3:(j:Int)+1<(l.length:Int)+1:=by omega);have w1:IntKind.i64.wrap ((j:Int))=(j:Int):=Zof _ (by omega);(have w2:IntKind.i64.wrap ((j:Int)+1 - 1)=(j:Int):=by rw [Zof _ (by omega)];omega);clear hcell hrd hrm;obtain ⟨y,hy⟩ : ∃y,y=l[j]:=⟨_,rfl⟩;rw [← hy] at q0 q1 q2;have HY:=hid hy;have hbw:b<wr.heap.size:=Zoa wr _ r0;clear hy;(go_wp2_with fail);refine Z06 (fun w9=>Below wr.heap.size wr w9) [(0,0),(1,0),(2,0),(3,1),(4,0),(5,0),(6,0),(7,0),(8,1),(9,0),(10,0),(11,0),(12,1),(13,0),(14,2)] (by kernel_rfl) (by kernel_rfl) (fun KK hKK=>?_);simp only [Z05,Zo9,Zo2,Zo7,Zo5,Zo6,Zoc];(repeat ((first | (refine Z0a ?_ (Or.inl ⟨by rfl,fun w9=>?_⟩) ?_;rotate_left 1;go_simp;with_reducible rfl) | (refine Z09 ?_ (((Znz _ _).drew)) (Or.inl ⟨by rfl,fun w9 hw9=>?_⟩) ?_;rotate_left 1;obtain ⟨hc9,hf9⟩:=Z0q hw9;go_simp;with_reducible rfl) | refine Z0a undef (Or.inr ⟨by rfl,rfl⟩) ?_ | refine Z09 undef (((Znz _ _).drew)) (Or.inr ⟨by rfl,rfl⟩) ?_);go_frame));refine Z1n (by kernel_rfl) (fun K9 hK9=>?_);go_simp;refine hK9 _ _ ?_;clear hK9 K9;refine Z12 ?_;simp only [Z00];refine hKK _ _ ?_;clear hKK KK;(go_wp2_with fail);go_roundw
    case rel=>
     refine ⟨j,by go_num,by omega,by omega,?_,Fr.drew ((((HFR.out).setCell (p:=⟨g,(j+1)*3,none⟩) (.inl rfl) (_)).setCell (p:=⟨g,(j+1)*3+1,none⟩) (.inl rfl) (_)).setCell (p:=⟨g,(j+1)*3+2,none⟩) (.inl rfl) (_))⟩;have hst:=((((((HOW.out).stored ((j+1)*3) (.int .i64 y.kind)).1).stored ((j+1)*3+1) (.string y.text)).1).stored ((j+1)*3+2) (.int .i64 y.n)).1
     have he:setAll ((Z0c l x (j+1)).flatMap Sym.cells) ((j+1)*3) (Sym.cells y)=(Z0c l x j).flatMap Sym.cells:=by
      rw [Z4a Sym.cells_length (by omega) _ (j+1) (by rw [Z03 l x hi2];omega),HY.out,Z27 l x hj]
     rw [← he];exact hst
    case measure=>simp [intOf]<;>omega
  · obtain rfl:i=rank Z08 l x:=by omega
    have rmj:Room wr g 23 (c2*3)∧l.length+1≤c2:=by
     rcases Z07 HOW.out with ⟨hv,_⟩ | ⟨g',cap,hv,hn,_,hr,_⟩
     · cases hv
     · injection hv with hA _ hc
       injection hA with hA;injection hA with hA;subst hA;subst hc;exact ⟨hr,hn⟩
    obtain ⟨hrm,hcap⟩:=rmj;obtain ⟨k,hk⟩ : ∃k,k=rank Z08 l x:=⟨_,rfl⟩;rw [← hk] at hi2 hlt ⊢;obtain ⟨u0,t0⟩:=hrm.cell (i:=k*3) (by omega);obtain ⟨u1,t1⟩:=hrm.cell (i:=k*3+1) (by omega);obtain ⟨u2,t2⟩:=hrm.cell (i:=k*3+2) (by omega);have x0:=(HFR.out.cell (p:=⟨w.heap.size,0,none⟩) hk4 (fun h=>hgk1 h.symm)).trans z0;have x1:=(HFR.out.cell (p:=⟨w.heap.size,1,none⟩) hk4 (fun h=>hgk1 h.symm)).trans z1;have x2:=(HFR.out.cell (p:=⟨w.heap.size,2,none⟩) hk4 (fun h=>hgk1 h.symm)).trans z2;(have b1:(0:Int)≤(k:Int):=by omega);(have b2:(k:Int)<(l.length:Int)+1:=by omega);have HK:=hid hk;(have hkw:w.heap.size<wr.heap.size:=by have:=HFR.out.size;omega);have hbw:b<wr.heap.size:=Zoa wr _ r0;clear hrm hk z0 z1 z2;(go_wp2_with fail);refine Z06 (fun w9=>Below wr.heap.size wr w9) [(0,0),(1,0),(2,0),(3,1),(4,0),(5,1),(6,0),(7,2)] (by kernel_rfl) (by kernel_rfl) (fun KK hKK=>?_);simp only [Z05,Zo9,Zo2,Zo7,Zo5,Zo6,Zoc];(repeat ((first | (refine Z0a ?_ (Or.inl ⟨by rfl,fun w9=>?_⟩) ?_;rotate_left 1;go_simp;with_reducible rfl) | (refine Z09 ?_ (((Znz _ _).drew)) (Or.inl ⟨by rfl,fun w9 hw9=>?_⟩) ?_;rotate_left 1;obtain ⟨hc9,hf9⟩:=Z0q hw9;go_simp;with_reducible rfl) | refine Z0a undef (Or.inr ⟨by rfl,rfl⟩) ?_ | refine Z09 undef (((Znz _ _).drew)) (Or.inr ⟨by rfl,rfl⟩) ?_);go_frame));refine Z1n (by kernel_rfl) (fun K9 hK9=>?_);go_simp;refine hK9 _ _ ?_;clear hK9 K9;refine Z12 ?_;simp only [Z00];refine hKK _ _ ?_;clear hKK KK;(go_wp2_with fail);go_ret;have HOWk:=HOW.out;rw [← HK.out] at HOWk;have hst:=((((((HOWk).stored (k*3) (.int .i64 x.kind)).1).stored (k*3+1) (.string x.text)).1).stored (k*3+2) (.int .i64 x.n)).1
    have he:setAll ((Z0c l x k).flatMap Sym.cells) (k*3) (Sym.cells x)=(put Z08 l x).flatMap Sym.cells:=by
     rw [Z4a Sym.cells_length (by omega) _ k (by rw [Z03 l x hi2];omega),Z2q l x hi2,Z66 Z2x HO.out hh,HK.out]
    have hln:=Z2e Z2x HO.out hh;refine ⟨by rw [hh];rfl,false,some ⟨g,0,none⟩,c2,⟨?_,?_⟩,?_,?_⟩
    · rw [hln]
      exact (((HB4.out.fr HFR.out (fun h=>hgb h.symm)).far (p:=⟨g,k*3,none⟩) (fun h=>hgb h.symm) _).far (p:=⟨g,k*3+1,none⟩) (fun h=>hgb h.symm) _).far (p:=⟨g,k*3+2,none⟩) (fun h=>hgb h.symm) _
    · rw [hln,← he]
      exact hst
    · exact HF4.out.into (Fr.drew ((((HFR.out).setCell (p:=⟨g,k*3,none⟩) (.inl rfl) (_)).setCell (p:=⟨g,k*3+1,none⟩) (.inl rfl) (_)).setCell (p:=⟨g,k*3+2,none⟩) (.inl rfl) (_))) (fun k hk=>by subst hk;exact HgM.out)
    · exact HgMv.out
theorem Zdi (b c:Nat) (sn:Bool) (A:Option Addr) (l:List Sym) (x:Sym) (w:World) (hS:Z49 w b sn A c l) (hs:Srt Z08 l) (hl:(l.length:Int)≤100000000) :
 Calls Tryz.prog 86 #[.pointer (some ⟨b,0,none⟩),.agg #[.int .i64 x.kind,.string x.text,.int .i64 x.n]] w (Z7e w b sn A l x):=by
 cases hh:has Z08 l x
 · exact Zdn b c sn A l x w hS hs hl hh
 · exact Zal b c sn A l x w hS hs hl hh
def Zet (w:World) (xs:List Sym) (e:Ending) (w':World):Prop:=
 ∃k,e = .returned (.pointer (some ⟨k,0,none⟩))∧w.heap.size≤k∧∃sn A c,Z49 w' k sn A c (puts Z08 [] xs)∧AIn A (w.heap.size≤·)∧Below w.heap.size w w'
theorem Zi6 (A:Option Addr) (c:Nat) (xs:List Sym) (w:World) (hrd:Z0p w 3 Sym.cells A c xs) (hl:(xs.length:Int)≤10000000) :
 Calls Tryz.prog 85 #[.slice A xs.length c] w (Zet w xs):=by
 have HRD:=hid hrd;clear hrd;go_enter Tryz.func85,Tryz.ntmps85;(go_wp2_with fail);obtain ⟨W0,hW0⟩ : ∃W0,W0=w.alloc (.cells #[.slice none 0 0,.bool false] 216):=⟨_,rfl⟩;(have hb0:Below w.heap.size w W0:=by rw [hW0];exact (Znz _ _).alloc (Zo0 _) _);have hS0:Z49 W0 w.heap.size false none 0 []:=⟨by rw [hW0];exact Blk.new _ _ _,⟨by simp,.inl ⟨rfl,rfl⟩⟩⟩;rw [← hW0];clear hW0;have HB0:=hid hb0;have HS0:=hid hS0;clear hb0 hS0
 go_loopw [10] (fun s wr=>∃i:Nat,s = .int .i64 i∧i≤xs.length∧∃sn A' c',Z49 wr w.heap.size sn A' c' (puts Z08 [] (xs.take i))∧AIn A' (w.heap.size≤·)∧Below w.heap.size w wr) (fun s wr=>xs.length - (intOf s).toNat)
 case atStart=>exact ⟨0,rfl,Nat.zero_le _,false,none,0,HS0.out,AIn.none_ _,HB0.out⟩
 case round=>
  obtain ⟨i,rfl,hi,sn,A',c',hS,hA',hB⟩:=hrel;have HS:=hid hS;have HA:=hid hA';have HB:=hid hB;clear hS hA' hB;by_cases hlt:i<xs.length
  · obtain ⟨x,hx⟩ : ∃x,x=xs[i]:=⟨_,rfl⟩
    obtain ⟨g,off,rfl,hgs,hcell⟩:=(HRD.out.fr (Fr.of_new (M:=fun _=>False) HB.out) (fun _ _ h=>h)).at_ hlt;rw [← hx] at hcell;(have q0:wr.cell? ⟨g,off+i*3,none⟩=some (.int .i64 x.kind):=by simpa using hcell 0 _ rfl);(have q1:wr.cell? ⟨g,off+i*3+1,none⟩=some (.string x.text):=by simpa using hcell 1 _ rfl);(have q2:wr.cell? ⟨g,off+i*3+2,none⟩=some (.int .i64 x.n):=by simpa using hcell 2 _ rfl);(have b1:(0:Int)≤(i:Int):=by omega);(have b2:(i:Int)<(xs.length:Int):=by omega);have HX:=hid hx;clear hcell hx;(go_wp2_with fail);have hsr:=Srt.puts Z2x (xs.take i) (Srt.nil (cmp:=Z08))
    have hlen:(((puts Z08 [] (xs.take i)).length:Nat):Int)≤100000000:=by
     have:=Z13 Z2x (xs.take i) (Srt.nil (cmp:=Z08));simp at this;omega
    refine (Zdi w.heap.size c' sn A' _ x _ (HS.out.new_ ((Znz _ _).alloc (Zo0 _) _)) hsr hlen).mono ?_;rintro e w1 ⟨rfl,sn2,A2,c2,hS2,hF2,hM2⟩
    have hB1:Below w.heap.size w w1:=(HB.out.alloc HB.out.size _).trans (hF2.below (by have:=HB.out.size;(try simp);omega) (fun k hk hm=>by
     rcases hm with hm | ⟨_,a,ha,hm⟩
     · omega
     · have:=HA.out a ha;omega))
    have hA2:AIn A2 (w.heap.size≤·):=by
     rcases hM2 with ⟨_,rfl⟩ | ⟨_,g2,hg2,rfl⟩
     · exact HA.out
     · intro a ha;cases ha;have:=HB.out.size;(try simp at hg2 ⊢);omega
    have HS2:=hid hS2;have HB1:=hid hB1;have HA2:=hid hA2;clear hS2 hB1 hA2 hF2 hM2 hsr hlen q0 q1 q2;(go_wp2_with fail);go_roundw
    case rel=>
     refine ⟨i+1,by go_num,by omega,sn2,A2,c2,?_,HA2.out,HB1.out⟩;rw [Zou,Zo8 hlt,← HX.out];simp only [Option.toList_some,Z23];exact HS2.out
    case measure=>simp [intOf]<;>omega
  · have hie:i=xs.length:=by omega
    subst hie;(go_wp2_with fail);go_ret;refine ⟨w.heap.size,rfl,Zo0 _,sn,A',c',?_,HA.out,HB.out⟩;have:=HS.out;rwa [Zop] at this
theorem Z5g (x y:Sym) (W:World):(binOp .eql 23 (.agg #[.int .i64 x.kind,.string x.text,.int .i64 x.n]) (.agg #[.int .i64 y.kind,.string y.text,.int .i64 y.n])).run Tryz.prog W = .ok (.bool (decide (x=y))) W:=by
 rw [run_eql_struct];go_simp;by_cases h:x=y
 · subst h;simp
 · have h2 : ¬(x.kind=y.kind∧x.text.toList=y.text.toList∧x.n=y.n):=fun ⟨h1,h2,h3⟩=>h (Sym.ext' h1 (toList_inj h2) h3)
   rw [Zo1 h]
   split
   · split
     · split
       · exact absurd ⟨by assumption,by assumption,by assumption⟩ h2
       · rfl
     · rfl
   · rfl
theorem Zd2 (x y:Sym) (W:World):(binOp .neq 23 (.agg #[.int .i64 x.kind,.string x.text,.int .i64 x.n]) (.agg #[.int .i64 y.kind,.string y.text,.int .i64 y.n])).run Tryz.prog W = .ok (.bool (!decide (x=y))) W:=by
 rw [run_neq_struct];go_simp;by_cases h:x=y
 · subst h;simp
 · have h2 : ¬(x.kind=y.kind∧x.text.toList=y.text.toList∧x.n=y.n):=fun ⟨h1,h2,h3⟩=>h (Sym.ext' h1 (toList_inj h2) h3)
   rw [Zo1 h]
   split
   · split
     · split
       · exact absurd ⟨by assumption,by assumption,by assumption⟩ h2
       · rfl
     · rfl
   · rfl
attribute [local go_sem] Z5g Zd2
def Z8x (v n:Int):Int:=if n<1 then 0 else v % n
theorem Zln {w:World} {A:Option Addr} {c k:Nat} {l:List Sym} (h:Z0p w 3 Sym.cells A c l) (hk:k<l.length) : ∃g off,A=some ⟨g,off,none⟩∧g<w.heap.size∧
 w.cell? ⟨g,off+k*3,none⟩=some (.int .i64 l[k].kind)∧w.cell? ⟨g,off+k*3+1,none⟩=some (.string l[k].text)∧w.cell? ⟨g,off+k*3+2,none⟩=some (.int .i64 l[k].n):=by
 obtain ⟨g,off,hA,hg,hc⟩:=h.at_ hk;exact ⟨g,off,hA,hg,by simpa using hc 0 _ rfl,by simpa using hc 1 _ rfl,by simpa using hc 2 _ rfl⟩
theorem Ziy (v n:Int) (w:World) (hn:n≤9223372036854775807) :
 Calls Tryz.prog 25 #[.int .i64 v,.int .i64 n] w fun e w'=>e = .returned (.int .i64 (Z8x v n))∧w=w':=by
 by_cases h:n<1
 · have hw:Z8x v n=0:=by simp [Z8x,h]
   rw [hw];go_enter Tryz.func25,Tryz.ntmps25;(go_wp2_with fail);go_ret;exact ⟨rfl,rfl⟩
 · have hw:Z8x v n=v % n:=by simp [Z8x,h]
   rw [hw];(have e0:n≠0:=by omega);have h1:v.tmod n<n:=Int.tmod_lt_of_pos v (by omega)
   have h2 : -n<v.tmod n:=by
    have:=Int.lt_tmod_of_pos v (show 0<n by omega);omega
   have e1:IntKind.i64.wrap (v.tmod n)=v.tmod n:=Zof _ (by omega)
   have e2:v.tmod n<0→v % n=v.tmod n+n:=fun h3=>by
    have h4:=Int.emod_emod_of_dvd v (Int.dvd_refl n)
    have h5:(v.tmod n) % n=v % n:=by
     have:=Int.mul_tdiv_add_tmod v n;(have h6:v % n=(v.tmod n+n*v.tdiv n) % n:=by congr 1;omega);rw [h6,Int.add_mul_emod_self_left]
    (have h7:(v.tmod n+n) % n=v.tmod n % n:=by simp);rw [← h5,← h7,Int.emod_eq_of_lt (by omega) (by omega)]
   have e3 : ¬v.tmod n<0→v % n=v.tmod n:=fun h3=>by
    have h5:(v.tmod n) % n=v % n:=by
     have:=Int.mul_tdiv_add_tmod v n;(have h6:v % n=(v.tmod n+n*v.tdiv n) % n:=by congr 1;omega);rw [h6,Int.add_mul_emod_self_left]
    rw [← h5,Int.emod_eq_of_lt (by omega) (by omega)]
   have E2:=hid e2;have E3:=hid e3;clear e2 e3;go_enter Tryz.func25,Tryz.ntmps25;by_cases h3:v.tmod n<0
   · have E:=hid (E2.out h3)
     have e4:IntKind.i64.wrap (v.tmod n+n)=v.tmod n+n:=Zof _ (by omega);clear E2 E3;(go_wp2_with fail);go_ret;exact ⟨by rw [E.out];rfl,rfl⟩
   · have E:=hid (E3.out h3)
     clear E2 E3;(go_wp2_with fail);go_ret;exact ⟨by rw [E.out];rfl,rfl⟩
end
section
open Go.RowKit Go.Shelf
theorem Zbc : ∀{x y:Z04},x.id=y.id→x.attr=y.attr→x.value=y.value→x.other=y.other→x.kind=y.kind→x.o=y.o→x.level=y.level→x.by_=y.by_→x=y
 | ⟨u0,u1,u2,u3,u4,u5,u6,u7⟩,⟨v0,v1,v2,v3,v4,v5,v6,v7⟩,h0,h1,h2,h3,h4,h5,h6,h7=>by simp only at *;simp [*]
instance:DecidableEq Z04:=fun x y=>decidable_of_iff (x.id=y.id∧x.attr=y.attr∧x.value=y.value∧x.other=y.other∧x.kind=y.kind∧x.o=y.o∧x.level=y.level∧x.by_=y.by_) ⟨fun ⟨h0,h1,h2,h3,h4,h5,h6,h7⟩=>Zbc h0 h1 h2 h3 h4 h5 h6 h7,fun h=>by subst h;exact ⟨rfl,rfl,rfl,rfl,rfl,rfl,rfl,rfl⟩⟩
end
section
section
variable {P:Program} {ops:Array Oper} {Q:Exit→Act→World→Prop} {S:World→Prop}
inductive Pl where
 | fin (l:List (Nat×Cls))
 | fork (l:List (Nat×Cls)) (i:Nat) (r:Pl) (j:Nat) (s:Pl)
def setL (listed:Array Bool) (l:List (Nat×Cls)):Array Bool:=l.foldl (fun g x=>g.setIfInBounds x.1 true) listed
def okL (ops:Array Oper):List (Nat×Cls)→Array Bool→Bool
 | [],_=>true
 | (k,c) :: rest,listed=>(if c == 2 then Region.ready .any ops listed == [k] else (Region.ready .any ops listed).contains k && Region.free .any ops listed k) && okL ops rest (listed.setIfInBounds k true)
def chkL (qs ls:List Nat) (l:List (Nat×Cls)):Bool:=l.all fun (k,c)=>(c != 2) == qs.contains k && (c != 1 || ls.contains k)
def okPl (ops:Array Oper) (qs ls:List Nat):Pl→Nat→Array Bool→Bool
 | .fin l,n,listed=>n == l.length && chkL qs ls l && okL ops l listed && (Region.ready .any ops (setL listed l)).isEmpty && l.all fun x=>x.1<ops.size
 | .fork l i r j s,n,listed=>decide (l.length+1≤n) && chkL qs ls l && okL ops l listed && (l.all fun x=>x.1<ops.size) && Region.ready .any ops (setL listed l) == [i,j] && !qs.contains i && !qs.contains j &&
  okPl ops qs ls r (n - l.length - 1) ((setL listed l).setIfInBounds i true) && okPl ops qs ls s (n - l.length - 1) ((setL listed l).setIfInBounds j true)
def wpY (P:Program) (ops:Array Oper) (Q:Exit→Act→World→Prop) (S:World→Prop) (ns:Nat→Bool) (R:Act→World→Prop):List (Nat×Cls×Oper)→Act→World→Prop
 | [],a,w=>R a w
 | (i,c,o) :: rest,a,w=>
   if c=2 then (if Region.wanted o (yielded ops a.tmps)=true then o.wp P a w (fun a' w'=>(ns i=true→S w')∧wpY P ops Q S ns R rest a' w') Q else (ns i=true→S w)∧wpY P ops Q S ns R rest (a.put o.dst undef) w)
   else ∃v,(if c=1 then YieldsIf P ops S o v a∧S w else Yields P ops o v a)∧wpY P ops Q S ns R rest (a.put o.dst v) w
def wpPl (P:Program) (ops:Array Oper) (Q:Exit→Act→World→Prop) (S:World→Prop) (ns:Nat→Bool):Pl→Act→World→Prop
 | .fin l,a,w=>wpY P ops Q S ns (fun a w=>Q .normal a w) (Z05 ops l) a w
 | .fork l i r j s,a,w=>wpY P ops Q S ns (fun a w=>wpOp P ops Q i (fun a' w'=>(ns i=true→S w')∧wpPl P ops Q S ns r a' w') a w∧wpOp P ops Q j (fun a' w'=>(ns j=true→S w')∧wpPl P ops Q S ns s a' w') a w) (Z05 ops l) a w
theorem Z4w : ∀(l:List (Nat×Cls)) (listed:Array Bool),Z46 ops listed→okL ops l listed=true→Z46 ops (setL listed l)
 | [],_,h,_=>h
 | (k,c) :: rest,listed,h,hB=>by
   simp only [okL,Zoo] at hB;refine Z4w rest _ (Z1y h ?_) hB.2;by_cases hc:c=2
   · subst hc
     have hB1:=hB.1;simp only [beq_self_eq_true,if_true] at hB1;(have hr:Region.ready .any ops listed = [k]:=by simpa using hB1);rw [hr];simp
   · have hB1:=hB.1
     rw [if_neg (by simpa using hc)] at hB1;simp only [Zoo] at hB1;simpa using hB1.1
theorem Z3e {qt ns:Nat→Bool} {R:Act→World→Prop} {n:Nat} (hsel:Region.noSelect ops=true) (hQ : ∀c a a' w,Q (.panic c) a w→Q (.panic c) a' w) :
 ∀(rest:List (Nat×Cls)) (listed:Array Bool) (a:Act) (w:World),Z46 ops listed→okL ops rest listed=true→(∀x∈rest,x.1<ops.size)→
  (∀k c,(k,c)∈rest→(qt k=true↔c≠2))→(∀k,(k,1)∈rest→∀j,Z28 ops ops.size j k=false→j≠k→j<ops.size→ns j=true)→
  (∀a w,R a w→Z71 P ops Q S qt ns n (setL listed rest) a w)→wpY P ops Q S ns R (Z05 ops rest) a w→Z71 P ops Q S qt ns (rest.length+n) listed a w
 | [],listed,a,w,_,_,_,_,_,hR,h=>by
   have:=hR a w h;simpa [setL] using this
 | (k,c) :: rest,listed,a,w,hcl,hB,hl,hqt,hns,hR,h=>by
   simp only [okL,Zoo] at hB;obtain ⟨hB1,hB2⟩:=hB;have hi:k<ops.size:=hl (k,c) (by simp);have ho:ops[k]? = some ops[k]:=Array.getElem?_eq_getElem hi;(have hb:Z05 ops ((k,c) :: rest)=(k,c,ops[k]) :: Z05 ops rest:=by simp [Z05,ho]);have ih:=fun listed' a w hcl' hB' hR' h'=>Z3e (R:=R) (n:=n) hsel hQ rest listed' a w hcl' hB' (fun x hx=>hl x (by simp [hx])) (fun k c hk=>hqt k c (by simp [hk])) (fun k hk=>hns k (by simp [hk])) hR' h';rw [hb] at h;simp only [wpY] at h;(have hlen:((k,c) :: rest).length+n=(rest.length+n)+1:=by simp;omega);rw [hlen];by_cases hc:c=2
   · subst hc
     simp only [beq_self_eq_true,if_true] at hB1;(have hr:Region.ready .any ops listed = [k]:=by simpa using hB1);simp only [if_true] at h;have hcl2:=Z1y hcl (i:=k) (by rw [hr];simp);refine ⟨fun h0=>(by rw [hr] at h0;cases h0),fun i hi'=>?_⟩;rw [hr] at hi';obtain rfl:i=k:=by simpa using hi'
     have hbh : ∀w',(ns i=true→S w')→Z5d S qt ns i w w':=fun w' hs=>by
      unfold Z5d;rw [if_neg (fun hq=>(hqt i 2 (by simp)).1 hq rfl)];exact hs
     unfold wpOp;simp only [ho]
     split
     · rename_i hw
       rw [if_pos hw] at h;exact .inl (Oper.wp_mono (fun a' w' h'=>⟨hbh w' h'.1,ih _ a' w' hcl2 hB2 hR h'.2⟩) h)
     · rename_i hw
       rw [if_neg hw] at h;exact ⟨hbh w h.1,ih _ _ w hcl2 hB2 hR h.2⟩
   · rw [if_neg (by simpa using hc)] at hB1
     simp only [Zoo] at hB1;rw [if_neg hc] at h;obtain ⟨v,hy,hk⟩:=h;(have hrdy:k∈Region.ready .any ops listed:=by simpa using hB1.1);have hrest:=ih _ _ w (Z1y hcl hrdy) hB2 hR hk;by_cases h1:c=1
     · subst h1
       rw [if_pos rfl] at hy
       exact Z4d ho (Region.noSelect_spec hsel) (fun c a w=>hQ c _ _ w) true ((hqt k 1 (by simp)).2 hc) (fun _=>hns k (by simp)) (rest.length+n) listed a w hcl (Region.free_spec ho hB1.2) hrdy
        (hy.1.imp (fun ⟨p,q⟩=>⟨p,fun w' hw'=>q w' (hw' rfl)⟩) id) (fun _=>hy.2) hrest
     · rw [if_neg h1] at hy
       exact Z4d ho (Region.noSelect_spec hsel) (fun c a w=>hQ c _ _ w) false ((hqt k c (by simp)).2 hc) (fun h=>by cases h) (rest.length+n) listed a w hcl (Region.free_spec ho hB1.2) hrdy
        (hy.imp (fun ⟨p,q⟩=>⟨p,fun w' _=>q w'⟩) id) (fun h=>by cases h) hrest
theorem Zj3 {qs ls:List Nat} (hsel:Region.noSelect ops=true) (hQ : ∀c a a' w,Q (.panic c) a w→Q (.panic c) a' w) (p:Pl) :
 ∀(n:Nat) (listed:Array Bool) (a:Act) (w:World),Z46 ops listed→okPl ops qs ls p n listed=true→
  wpPl P ops Q S (fun j=>ls.any fun k=>k != j && !Z28 ops ops.size j k) p a w→Z71 P ops Q S (fun k=>qs.contains k) (fun j=>ls.any fun k=>k != j && !Z28 ops ops.size j k) n listed a w:=by
 have hq : ∀l,chkL qs ls l=true→∀k c,(k,c)∈l→(qs.contains k=true↔c≠2):=fun l hl k c hk=>by
  have:=Zp4.1 hl (k,c) hk;simp only [Zoo,beq_iff_eq] at this;rw [← this.1];simp
 have hn : ∀l,chkL qs ls l=true→∀k,(k,1)∈l→∀j,Z28 ops ops.size j k=false→j≠k→j<ops.size→(ls.any fun k=>k != j && !Z28 ops ops.size j k)=true:=fun l hl k hk j hw hjk _=>by
  have:=Zp4.1 hl (k,1) hk;simp only [Zoo] at this;(have h2:ls.contains k=true:=by simpa using this.2);rw [Zph];exact ⟨k,by simpa using h2,by rw [hw];simp [Ne.symm hjk]⟩
 induction p with
 | fin l=>
   intro n listed a w hcl hB h;simp only [okPl,Zoo,beq_iff_eq] at hB;obtain ⟨⟨⟨⟨rfl,hc⟩,hL⟩,he⟩,hlt⟩:=hB
   have:=Z3e (P:=P) (Q:=Q) (S:=S) (qt:=fun k=>qs.contains k) (ns:=fun j=>ls.any fun k=>k != j && !Z28 ops ops.size j k) (R:=fun a w=>Q .normal a w) (n:=0) hsel hQ l listed a w hcl hL (by simpa [Zp4] using hlt) (hq l hc) (hn l hc)
    (fun a w h=>⟨by simpa using he,h⟩) h
   simpa using this
 | fork l i r j s ihr ihs=>
   intro n listed a w hcl hB h;simp only [okPl,Zoo,beq_iff_eq,Zpg,Bool.not_eq_true'] at hB;obtain ⟨⟨⟨⟨⟨⟨⟨⟨hlen,hc⟩,hL⟩,hlt⟩,hrd⟩,hqi⟩,hqj⟩,hr⟩,hs⟩:=hB;obtain ⟨m,rfl⟩ : ∃m,n=l.length+(m+1):=⟨n - l.length - 1,by omega⟩;(have em:l.length+(m+1) - l.length - 1=m:=by omega);rw [em] at hr hs;have hcl2:=Z4w l listed hcl hL;refine Z3e (P:=P) (Q:=Q) (S:=S) (qt:=fun k=>qs.contains k) (ns:=fun j=>ls.any fun k=>k != j && !Z28 ops ops.size j k) (n:=m+1) hsel hQ l listed a w hcl hL (by simpa [Zp4] using hlt) (hq l hc) (hn l hc) (fun a w hR=>?_) h;refine ⟨fun h0=>(by rw [hrd] at h0;cases h0),fun k hk=>?_⟩;have hcl3:=Z1y hcl2 hk;rw [hrd] at hk;simp only [Zoj,Zoq,or_false] at hk;rcases hk with rfl | rfl
   · refine wpOp_mono (fun a' w' h'=>⟨?_,ihr m _ a' w' hcl3 hr h'.2⟩) hR.1
     unfold Z5d;rw [if_neg (by simp only [hqi];simp)];exact h'.1
   · refine wpOp_mono (fun a' w' h'=>⟨?_,ihs m _ a' w' hcl3 hs h'.2⟩) hR.2
     unfold Z5d;rw [if_neg (by simp only [hqj];simp)];exact h'.1
theorem Z17 {id:Nat} {l:List Oper} {a:Act} {w:World} (S:World→Prop) (qs ls:List Nat) (p:Pl) (hm:P.follows .mixedOrders=true) (hsel:Region.noSelect l.toArray=true)
 (hB:okPl l.toArray qs ls p l.toArray.size (Array.replicate l.toArray.size false)=true)
 (h : ∀K:Act→World→Prop,(∀a w,Q .normal a w→K a w)→wpPl P l.toArray (Z60 K) S (fun j=>ls.any fun k=>k != j && !Z28 l.toArray l.toArray.size j k) p a w.drew):(Code.region id l.toArray true).wp P Q a w:=by
 refine Code.wp_mono (Q:=Z60 fun a w=>Q .normal a w) (fun e a w hq=>by cases e<;>first | exact hq | exact hq.elim) (wp_region_any hm ?_);(have hcl:Z46 l.toArray (Array.replicate l.toArray.size false):=fun m o hm=>by rw [getD_replicate_false] at hm;cases hm);exact Z5z _ _ _ _ (Zj3 (P:=P) (Q:=Z60 fun a w=>Q .normal a w) (S:=S) hsel (fun c a a' w h=>h) p _ _ a w.drew hcl hB (h _ (fun _ _ h=>h)))
variable {ns:Nat→Bool} {R:Act→World→Prop} {rest:List (Nat×Cls×Oper)} {a:Act} {w:World} {i:Nat} {o:Oper}
theorem Z0u (h:R a w):wpY P ops Q S ns R [] a w:=h
theorem Z1s (v:Value) (hy:Yields P ops o v a) (h:wpY P ops Q S ns R rest (a.put o.dst v) w):wpY P ops Q S ns R ((i,0,o) :: rest) a w:=by
 simp only [wpY];exact ⟨v,by simpa using hy,h⟩
theorem Z2c (v:Value) (hS:S w) (hy:YieldsIf P ops S o v a) (h:wpY P ops Q S ns R rest (a.put o.dst v) w):wpY P ops Q S ns R ((i,1,o) :: rest) a w:=by
 simp only [wpY];exact ⟨v,by simpa using ⟨hy,hS⟩,h⟩
theorem Z73 (hn:ns i=false)
 (h : ∀K:Act→World→Prop,(∀a w,wpY P ops Q S ns R rest a w→K a w)→if Region.wanted o (yielded ops a.tmps)=true then Oper.wp P o a w K Q else K (a.put o.dst undef) w):wpY P ops Q S ns R ((i,2,o) :: rest) a w:=by
 have:=h (fun a' w'=>(ns i=true→S w')∧wpY P ops Q S ns R rest a' w') (fun a w h2=>⟨fun h=>absurd h (by rw [hn];simp),h2⟩);simpa only [wpY,if_true] using this
theorem Z1v
 (h : ∀K:Act→World→Prop,(∀a w,S w→wpY P ops Q S ns R rest a w→K a w)→if Region.wanted o (yielded ops a.tmps)=true then Oper.wp P o a w K Q else K (a.put o.dst undef) w):wpY P ops Q S ns R ((i,2,o) :: rest) a w:=by
 have:=h (fun a' w'=>(ns i=true→S w')∧wpY P ops Q S ns R rest a' w') (fun a w h1 h2=>⟨fun _=>h1,h2⟩);simpa only [wpY,if_true] using this
theorem Z7v {C:World→Prop} {H:Act→World→Prop} (hC : ∀w,C w) (ho:ops[i]? = some o)
 (h : ∀K:Act→World→Prop,(∀a w,H a w→K a w)→if Region.wanted o (yielded ops a.tmps)=true then Oper.wp P o a w K Q else K (a.put o.dst undef) w) :
 wpOp P ops Q i (fun a' w'=>C w'∧H a' w') a w:=by
 have h2:=h (fun a' w'=>C w'∧H a' w') (fun a w h2=>⟨hC w,h2⟩);unfold wpOp;simp only [ho]
 split
 · rename_i hw
   rw [if_pos hw] at h2;exact .inl h2
 · rename_i hw
   rw [if_neg hw] at h2;exact h2
theorem Z1a {C:World→Prop} {H:Act→World→Prop} (ho:ops[i]? = some o)
 (h : ∀K:Act→World→Prop,(∀a w,C w→H a w→K a w)→if Region.wanted o (yielded ops a.tmps)=true then Oper.wp P o a w K Q else K (a.put o.dst undef) w) :
 wpOp P ops Q i (fun a' w'=>C w'∧H a' w') a w:=by
 have h2:=h (fun a' w'=>C w'∧H a' w') (fun a w h1 h2=>⟨h1,h2⟩);unfold wpOp;simp only [ho]
 split
 · rename_i hw
   rw [if_pos hw] at h2;exact .inl h2
 · rename_i hw
   rw [if_neg hw] at h2;exact h2
end
end
section
open Go.RowKit
variable {P:Program}
structure Kept (B:Nat) (F X Y:World):Prop where
 from_:KeepsFrom B X Y
 own : ∀k,B≤k→k<F.heap.size→Y.heap[k]? = X.heap[k]?
section
variable {B C:Nat} {F X Y Z:World}
theorem Kept.trans (h:Kept B F X Y) (k:Kept B F Y Z):Kept B F X Z:=⟨h.1.trans k.1,fun i h1 h2=>(k.2 i h1 h2).trans (h.2 i h1 h2)⟩
theorem Kept.up (h:Kept B F X Y) (hB:B≤C):Kept C F X Y:=⟨KeepsFrom.up h.1 hB,fun i h1 h2=>h.2 i (by omega) h2⟩
theorem Kept.put_ {l:Nat} (h:Kept B F X Y) (hl:l<B) (o:Obj):Kept B F X (Y.putObj l o):=⟨KeepsFrom.put_ h.1 hl o,fun i h1 h2=>(Zon (by omega)).trans (h.2 i h1 h2)⟩
theorem Kept.new_ (h:Below X.heap.size X Y) (hs:F.heap.size≤X.heap.size):Kept B F X Y:=
 ⟨⟨h.size,fun k o _ hk _=>(h.block k (Zob.1 hk).1).trans hk⟩,fun k _ hk=>h.block k (by omega)⟩
end
def Zgi {α:Type} (P:Program) (gf:Nat) (lb:Array Value) (encs:α→Array Value) (xs:List α) (W:World) (start Kp:World→World→Prop):Prop:=
 ∀(l:Nat) (J Jx:World→List α→World→Prop),(∀F p X Y,J F p X→Priv W.heap.size X Y→J F p Y)→(∀F p X Y,Jx F p X→Priv W.heap.size X Y→Jx F p Y)→
  (∀F,start W F→J F [] F)→
  (∀F pre x post W1,start W F→xs=pre++x :: post→J F pre W1→YieldAt Fence.wide 0 P l (encs x) W1 fun e W'=>
    (e = .returned (.bool true)∧J F (pre ++ [x]) W'∧Kp W1 W'∧Kept W.heap.size F W1 W')∨(e = .returned (.bool false)∧Jx F (pre ++ [x]) W'∧Kept W.heap.size F W1 W'))→
  CallsIn Fence.wide 0 P gf (#[.func (.yield l) #[] #[]]++lb) W fun e W'=>(∃v,e = .returned v)∧∃F,start W F∧(J F xs W'∨∃pre post,xs=pre++post∧Jx F pre W')
theorem Iter.p {α:Type} {gf:Nat} {lb:Array Value} {encs:α→Array Value} {xs:List α} {W:World} {start Kp:World→World→Prop} (h:Iter P gf lb encs xs W start (fun X Y=>Kp X Y∧KeepsFrom W.heap.size X Y)):Zgi P gf lb encs xs W start Kp:=by
 intro l J Jx h1 h2 h3 h4;refine (h l (fun p X=>∃F,start W F∧J F p X) (fun p X=>∃F,start W F∧Jx F p X) (fun p X Y ⟨F,a,b⟩ hp=>⟨F,a,h1 F p X Y b hp⟩) (fun p X Y ⟨F,a,b⟩ hp=>⟨F,a,h2 F p X Y b hp⟩) (fun F hF=>⟨F,hF,h3 F hF⟩) ?_).mono ?_
 · rintro pre x post W1 hx ⟨F,hF,hJ⟩
   obtain ⟨fn,tmps,assign,body,hy,hR⟩:=h4 F pre x post W1 hF hx hJ;refine ⟨fn,tmps,assign,body,hy,hR.mono ?_⟩;rintro e W' (⟨g1,g2,g3,g4⟩ | ⟨g1,g2,_⟩)
   · exact .inl ⟨g1,⟨F,hF,g2⟩,g3,g4.1⟩
   · exact .inr ⟨g1,F,hF,g2⟩
 · rintro e W' ⟨hv,(⟨F,hF,hJ⟩ | ⟨pre,post,hx,F,hF,hJ⟩)⟩
   · exact ⟨hv,F,hF,.inl hJ⟩
   · exact ⟨hv,F,hF,.inr ⟨pre,post,hx,hJ⟩⟩
def Znk {α:Type} (KpW:World→Prop) (B:Nat) (F:World) (I:World→List α→World→Prop) (Ix:World→Code→List α→World→Prop) (p:List α) (W:World):Exit→Act→World→Prop
 | .normal,_,W'=>Kept B F W W'∧KpW W'∧I F p W'
 | .ret,_,W'=>Kept B F W W'∧Ix F .ret p W'
 | .exit id,_,W'=>Kept B F W W'∧Ix F (.exit id) p W'
 | .goto t,_,W'=>Kept B F W W'∧Ix F (.goto t) p W'
 | .panic _,_,_=>False
 | .outgrown,_,_=>False
theorem Z51 {α:Type} {g:Operand} {ps:Array Tmp} {assign body:Code} {Q:Exit→Act→World→Prop} {a:Act} {w:World} {gf:Nat} {lb:Array Value}
 (hg:a.eval g = .func (.func gf) #[] lb) (eg : ∀args w,(callFunc gf args).run P w = .ok (.enter gf args) w)
 {encs:α→Array Value} {xs:List α} {start Kp:World→World→Prop} (hseq : ∀W,Below w.heap.size w W→Zgi P gf lb encs xs W start Kp)
 (hps : ∀x,(encs x).size=ps.size) (hKt : ∀A B C,Kp A B→Kp B C→Kp A C) (hKp : ∀A B,Priv w.heap.size A B→Kp A B) (hst : ∀W W1,start W W1→KeepsFrom w.heap.size W W1)
 (I:World→List α→World→Prop) (Ix:World→Code→List α→World→Prop) (hI : ∀F p X Y,I F p X→Priv w.heap.size X Y→I F p Y) (hIx : ∀F c p X Y,Ix F c p X→Priv w.heap.size X Y→Ix F c p Y)
 (h0 : ∀W F,Below w.heap.size w W→start W F→I F [] F)
 (hround : ∀(F:World) (l:Nat) (pre:List α) (x:α) (post:List α) (W:World),xs=pre++x :: post→w.heap.size≤l→I F pre W→
   assign.wpIn (Fence.wide.inRound l) 0 P (Exit.then (fun a1 W1=>Kept w.heap.size F W W1∧∀W2,Priv w.heap.size W1 W2→W2.heap.size=W1.heap.size→(∃r,W2.heap[l]? = some (.loop r))→
    body.wpIn (Fence.wide.inRound l) 0 P (Znk (Kp W) w.heap.size F I Ix (pre ++ [x]) W2) a1 W2) (fun _ _ _=>False))
    { tmps:=(ps.zip (encs x)).foldl (fun t (p,v)=>t.setIfInBounds p v) a.tmps,defers:=[] } W)
 (hdone : ∀(F:World) (D:Nat) (W:World),w.heap.size≤D→I F xs W→W.heap[D]? = some (.deferred (some []))→Q .normal { a with defers:={ target:=.collected D,args:=#[] } :: a.defers } W)
 (hstop : ∀(F:World) (D:Nat) (c:Code) (pre post:List α) (W:World),w.heap.size≤D→xs=pre++post→Ix F c pre W→W.heap[D]? = some (.deferred (some []))→c.wpIn Fence.wide 0 P Q { a with defers:={ target:=.collected D,args:=#[] } :: a.defers } W) :
 (Code.rangeFunc g ps assign body).wpIn Fence.wide 0 P Q a w:=by
 refine wpIn_rangeFunc ?_;intro fn hfn;obtain ⟨rec,hrec⟩ : ∃rec:LoopState→Option Code→Loop,rec=fun st pe=>{ state:=st,pending:=pe,fn,tmps:=a.tmps,params:=ps,assign,body,defers:=w.heap.size }:=⟨_,rfl⟩;obtain ⟨W1,hW1⟩ : ∃W1,(w.alloc (.deferred (some []))).alloc (.loop (rec .ready none))=W1:=⟨_,rfl⟩
 have hL1:W1.heap[w.heap.size+1]? = some (.loop (rec .ready none)):=by
  rw [← hW1];have:=Zpn (w.alloc (.deferred (some []))) (.loop (rec .ready none));rwa [Zos] at this
 have hK1:W1.heap[w.heap.size]? = some (.deferred (some [])):=by
  rw [← hW1];exact (Zpm _ _ _ (by simp)).trans (Zpn w _)
 have hb1:Below w.heap.size w W1:=by
  rw [← hW1];exact ((Znz _ w).alloc (Zo0 _) _).alloc (by simp) _
 have hz1:W1.heap.size=w.heap.size+2:=by rw [← hW1];simp
 refine ⟨w.heap.size+1,[{ target:=.collected w.heap.size,args:=#[] }],W1,{ target:=.fn (.func gf) lb,args:=#[.func (.yield (w.heap.size+1)) #[] #[]] },W1,gf,
  #[.func (.yield (w.heap.size+1)) #[] #[]]++lb,W1,?_,?_,fun _ _=>trivial,?_,fun h=>by simp [Fence.wide] at h,?_⟩
 · rw [← hW1,hrec];exact run_enterLoop_outer _ _ _ _ _
 · simp only [resolve,hg]
   simp [go_sem]
 · simp [invoke,go_sem,eg]
 · have keep : ∀{X Y:World} {k:Nat} {o:Obj},Priv W1.heap.size X Y→X.heap[k]? = some o→k<W1.heap.size→Y.heap[k]? = some o:=fun hp hk hlt=>
    (hp.block _ (Zob.1 hk).1 (.inl hlt)).trans hk
   refine (hseq W1 hb1 (w.heap.size+1)
    (fun F pre W=>(∃W0,Below w.heap.size w W0∧start W0 F)∧I F pre W∧W.heap[w.heap.size+1]? = some (.loop (rec .ready none))∧W.heap[w.heap.size]? = some (.deferred (some [])))
    (fun F pre W=>∃c,Ix F c pre W∧W.heap[w.heap.size+1]? = some (.loop (rec .done (some c)))∧W.heap[w.heap.size]? = some (.deferred (some [])))
    (fun F p X Y ⟨h0,h1,h2,h3⟩ hp=>⟨h0,hI F p X Y h1 (hp.mono (by omega)),keep hp h2 (by omega),keep hp h3 (by omega)⟩)
    (fun F p X Y ⟨c,h1,h2,h3⟩ hp=>⟨c,hIx F c p X Y h1 (hp.mono (by omega)),keep hp h2 (by omega),keep hp h3 (by omega)⟩)
    (fun W2 hs=>⟨⟨W1,hb1,hs⟩,h0 W1 W2 hb1 hs,(hst _ _ hs).same _ _ (by omega) hL1 rfl,(hst _ _ hs).same _ _ (by omega) hK1 rfl⟩) ?_).mono ?_
   · rintro F pre x post W hst0 hx ⟨hw0,hi,hl,hk⟩
     have hy:=run_yield (P:=P) (args:=encs x) hl (by rw [hrec];exact hps x);rw [hrec] at hy;refine ⟨fn,_,assign,body,hy,roundIn_of_wpIn hfn ?_⟩;refine wpIn_mono (hround F (w.heap.size+1) pre x post W hx (by omega) hi) ?_;rintro e a1 Wa hp
     cases e with
     | normal=>
       obtain ⟨hka,hbody⟩:=hp;have hla:=hka.1.same _ _ (by omega) hl rfl;have hkd:=hka.1.same _ _ (by omega) hk rfl;have hlt:w.heap.size+1<Wa.heap.size:=(Zob.1 hla).1;have hbr:=run_beginRound (P:=P) hla (by rw [hrec]);refine ⟨_,hbr,?_⟩;have hl2:(Wa.putObj (w.heap.size+1) (.loop { rec .ready none with state:=.busy })).heap[w.heap.size+1]? = some (.loop { rec .ready none with state:=.busy }):=World.putObj_heap_same hlt;have hk2:(Wa.putObj (w.heap.size+1) (.loop { rec .ready none with state:=.busy })).heap[w.heap.size]? = some (.deferred (some [])):=(Zon (by omega)).trans hkd;refine wpIn_mono (hbody _ ((Priv.refl _ Wa).putObj (by omega) hla rfl _) (by simp) ⟨_,hl2⟩) ?_
       have fin : ∀(jump:Option Code) (W3:World),Kept w.heap.size F (Wa.putObj (w.heap.size+1) (.loop { rec .ready none with state:=.busy })) W3→
        (Instr.endRound (w.heap.size+1) jump).run P W3 = .ok (.bool jump.isNone) (W3.putObj (w.heap.size+1) (.loop (rec (if jump.isNone then .ready else .done) jump)))∧
        Priv w.heap.size W3 (W3.putObj (w.heap.size+1) (.loop (rec (if jump.isNone then .ready else .done) jump)))∧
        (W3.putObj (w.heap.size+1) (.loop (rec (if jump.isNone then .ready else .done) jump))).heap[w.heap.size+1]? = some (.loop (rec (if jump.isNone then .ready else .done) jump))∧
        (W3.putObj (w.heap.size+1) (.loop (rec (if jump.isNone then .ready else .done) jump))).heap[w.heap.size]? = some (.deferred (some [])):=fun jump W3 hk3=>by
        have hl3:=hk3.1.same _ _ (by omega) hl2 rfl;have:=run_endRound (P:=P) jump hl3;rw [hrec] at this ⊢;exact ⟨this,(Priv.refl _ _).putObj (by omega) hl3 rfl _,World.putObj_heap_same (Zob.1 hl3).1,(Zon (by omega)).trans (hk3.1.same _ _ (Zo0 _) hk2 rfl)⟩
       rintro e a3 W3 hp
       cases e with
       | normal=>
         obtain ⟨hk3,hkp3,hi3⟩:=hp;obtain ⟨hr,hpv,hl4,hk4⟩:=fin none W3 hk3;refine ⟨_,_,hr,.inl ⟨rfl,⟨hw0,hI _ _ _ _ hi3 hpv,hl4,hk4⟩,hKt _ _ _ hkp3 (hKp _ _ hpv),?_⟩⟩;exact (((hka.up (by omega)).put_ (by omega) _).trans (hk3.up (by omega))).put_ (by omega) _
       | ret=>
         obtain ⟨hk3,hi3⟩:=hp;obtain ⟨hr,hpv,hl4,hk4⟩:=fin (some .ret) W3 hk3;exact ⟨_,_,hr,.inr ⟨rfl,⟨.ret,hIx _ _ _ _ _ hi3 hpv,hl4,hk4⟩,(((hka.up (by omega)).put_ (by omega) _).trans (hk3.up (by omega))).put_ (by omega) _⟩⟩
       | exit id=>
         obtain ⟨hk3,hi3⟩:=hp;obtain ⟨hr,hpv,hl4,hk4⟩:=fin (some (.exit id)) W3 hk3;exact ⟨_,_,hr,.inr ⟨rfl,⟨.exit id,hIx _ _ _ _ _ hi3 hpv,hl4,hk4⟩,(((hka.up (by omega)).put_ (by omega) _).trans (hk3.up (by omega))).put_ (by omega) _⟩⟩
       | goto t=>
         obtain ⟨hk3,hi3⟩:=hp;obtain ⟨hr,hpv,hl4,hk4⟩:=fin (some (.goto t)) W3 hk3;exact ⟨_,_,hr,.inr ⟨rfl,⟨.goto t,hIx _ _ _ _ _ hi3 hpv,hl4,hk4⟩,(((hka.up (by omega)).put_ (by omega) _).trans (hk3.up (by omega))).put_ (by omega) _⟩⟩
       | panic ch=>exact hp.elim
       | outgrown=>exact hp.elim
     | exit id=>exact hp.elim
     | goto l=>exact hp.elim
     | ret=>exact hp.elim
     | panic ch=>exact hp.elim
     | outgrown=>exact hp.elim
   · rintro e W2 ⟨⟨v,rfl⟩,F,_,(⟨_,hi,hl,hk⟩ | ⟨pre,post,hS,c,hi,hl,hk⟩)⟩
     · exact ⟨none,_,by have:=run_endLoop (P:=P) hl (by rw [hrec];simp);rw [hrec] at this;exact this,hdone F _ _ (Zo0 _) (hI _ _ _ _ hi ((Priv.refl _ _).putObj (by omega) hl rfl _)) ((Zon (by omega)).trans hk)⟩
     · exact ⟨some c,_,by have:=run_endLoop (P:=P) hl (by rw [hrec];simp);rw [hrec] at this;exact this,hstop F _ c pre post _ (Zo0 _) hS (hIx _ c _ _ _ hi ((Priv.refl _ _).putObj (by omega) hl rfl _)) ((Zon (by omega)).trans hk)⟩
end
section
open Go.RowKit
variable {P:Program}
def Plus (D:Nat→Prop) (X Y:World):Nat→Prop:=fun k=>D k∨(X.heap.size≤k∧k<Y.heap.size)
theorem Fr.putObj {M:Nat→Prop} {X Y:World} (h:Fr M X Y) {l:Nat} (hl:M l∨X.heap.size≤l) (o:Obj):Fr M X (Y.putObj l o):=
 ⟨h.os,h.tape,h.output,by simpa using h.size,fun k hk hn=>(Zon (by
  rintro rfl;rcases hl with hl | hl
  · exact hn hl
  · omega)).trans (h.block k hk hn)⟩
end
section
open Go.RowKit
theorem Fr.setCells {M:Nat→Prop} {a:World} {g:Nat} : ∀(vs:List Value) (o:Nat) {b:World},Fr M a b→(M g∨a.heap.size≤g)→Fr M a (b.setCells g o vs)
 | [],_,_,h,_=>h
 | v :: vs,o,_,h,hg=>Fr.setCells vs (o+1) (h.setCell (p:=⟨g,o,none⟩) hg v) hg
theorem Z54 {g:Nat} {e:TypeId} {size n cap:Nat} : ∀(vs:List Value) (o:Nat) {w:World} {xs:List Value},w.ownsRow 0 e size (.slice (some ⟨g,0,none⟩) n cap) n xs→(w.setCells g o vs).ownsRow 0 e size (.slice (some ⟨g,0,none⟩) n cap) n ((vs.zipIdx o).foldl (fun l (v,j)=>l.set j v) xs)
 | [],_,_,_,h=>h
 | v :: vs,o,_,_,h=>by
   rw [List.zipIdx_cons,List.foldl_cons];exact Z54 vs (o+1) ((h.stored o v).1)
theorem Zci : ∀(vs:List Value) (o s:Nat) (xs:List Value),(vs.zipIdx (o+s)).foldl (fun l (v,j)=>l.set j v) xs=(vs.zipIdx s).foldl (fun l (v,j)=>l.set (o+j) v) xs
 | [],_,_,_=>rfl
 | v :: vs,o,s,xs=>by
   rw [List.zipIdx_cons,List.zipIdx_cons,List.foldl_cons,List.foldl_cons];exact Zci vs o (s+1) _
theorem Z2p {α:Type} {cells:α→List Value} {w:World} {g:Nat} {e:TypeId} {size n cap:Nat} (hsz : ∀x,(cells x).length=size) (h0:0<size) {l:List α} (h:w.ownsRow 0 e size (.slice (some ⟨g,0,none⟩) n cap) n (l.flatMap cells)) (k:Nat) (hk:k<l.length) (y:α) :
 (w.setCells g (k*size) (cells y)).ownsRow 0 e size (.slice (some ⟨g,0,none⟩) n cap) n ((l.set k y).flatMap cells):=by
 have h1:=Z54 (w:=w) (cells y) (k*size) h;have h2:=Zci (cells y) (k*size) 0 (l.flatMap cells);rw [Nat.add_zero] at h2;rw [h2] at h1;have h3:=Z4a hsz h0 l k hk y;unfold setAll at h3;rw [h3] at h1;exact h1
theorem Z0n {P:Program} {ops:Array Oper} {o:Oper} {a:Act} {w:World} {K:Act→World→Prop} {Q:Exit→Act→World→Prop} {E:Prop} (hgd:o.guard=none) (ty:TypeId) (x y:Operand) (ho:o.op = .store ty x y)
 (b off:Nat) (cells:Array Value) (hx:a.eval x = .pointer (some ⟨b,off,none⟩)) (hy:a.eval y = .agg cells)
 (ht:w.there b off cells.size) (hi:(P.info? ty).map (·.size)=some cells.size) (h1:cells.all (·.oneCell')=true)
 (h:K (a.put o.dst undef) (w.setCells b off cells.toList)):if Region.wanted o (yielded ops a.tmps)=true then Oper.wp P o a w K Q else E:=by
 rw [if_pos (by simp [Region.wanted,hgd])];exact wp_store_mid ty x y ho b off cells hx hy ht hi h1 h
theorem Blk.farCells {g':Nat} {t:TypeId} {cs:Array Value} {g:Nat} : ∀(vs:List Value) (o:Nat) {w:World},Blk w g' t cs→g'≠g→Blk (w.setCells g o vs) g' t cs
 | [],_,_,h,_=>h
 | v :: vs,o,_,h,hn=>Blk.farCells vs (o+1) (h.far (p:=⟨g,o,none⟩) hn v) hn
theorem Room.there {w:World} {g:Nat} {e:TypeId} {m:Nat} (h:Room w g e m) {o n:Nat} (hn:o+n≤m):w.there g o n:=fun j hj=>by
 obtain ⟨u,hu⟩:=h.cell (i:=o+j) (by omega);exact ⟨by rw [hu];rfl,h.frozen _⟩
theorem Blk.range {w:World} {g:Nat} {t:TypeId} {cs:Array Value} (h:Blk w g t cs):w.rangeAt g 0 cs.toList:=fun j v hv=>by
 rw [Zov,h.cell];simpa using hv
theorem Blk.there {w:World} {g:Nat} {t:TypeId} {cs:Array Value} (h:Blk w g t cs):w.there g 0 cs.size:=fun j hj=>by
 rw [Zov];exact ⟨by rw [h.cell,Array.getElem?_eq_getElem hj];rfl,h.frozen j⟩
theorem Below.setCells' {B:Nat} {a:World} {g:Nat} : ∀(vs:List Value) (o:Nat) {b:World},Below B a b→B≤g→Below B a (b.setCells g o vs)
 | [],_,_,h,_=>h
 | v :: vs,o,_,h,hg=>Below.setCells' vs (o+1) (h.setCell (show B≤(⟨g,o,none⟩:Addr).block from hg) v) hg
theorem Z0o {P:Program} {fn:Func} {t s:Tmp} {T:TypeId} (h:fn.results = #[.cell t T,.tmp s]) (tmps:Array Value) (w:World) (g:Nat) (cs:List Value) (d:TypeDesc) (ht:tmps.getD t undef = .pointer (some ⟨g,0,none⟩)) (hc:w.rangeAt g 0 cs)
 (hu:P.underlying T=some d) (hd:d.isRow=true) (hi:(P.info? T).map (·.size)=some cs.length):(results fn tmps).run P w = .ok (.tuple #[.agg cs.toArray,tmps.getD s undef]) w:=by
 have hl:=run_loadVar_mid (P:=P) w g 0 T cs d hc hu hd hi;(have ht':tmps[t]?.getD undef = .pointer (some ⟨g,0,none⟩):=by simpa using ht);simp [results,h,ht',asAddr,hl]
theorem Z1l {P:Program} {fn:Func} {t:Tmp} {T:TypeId} (h:fn.results = #[.cell t T]) (tmps:Array Value) (w:World) (g:Nat) (cs:List Value) (d:TypeDesc) (ht:tmps.getD t undef = .pointer (some ⟨g,0,none⟩)) (hc:w.rangeAt g 0 cs)
 (hu:P.underlying T=some d) (hd:d.isRow=true) (hi:(P.info? T).map (·.size)=some cs.length):(results fn tmps).run P w = .ok (.agg cs.toArray) w:=by
 have hl:=run_loadVar_mid (P:=P) w g 0 T cs d hc hu hd hi;(have ht':tmps[t]?.getD undef = .pointer (some ⟨g,0,none⟩):=by simpa using ht);simp [results,h,ht',asAddr,hl]
theorem Z0p.range {α:Type} {w:World} {size c:Nat} {cells:α→List Value} {A:Option Addr} {l:List α} (h:Z0p w size cells A c l) {k:Nat} (hk:k<l.length) : ∃b off,A=some ⟨b,off,none⟩∧b<w.heap.size∧w.rangeAt b (off+k*size) (cells l[k]):=by
 obtain ⟨b,off,h1,h2,h3⟩:=h.at_ hk;exact ⟨b,off,h1,h2,fun j v hv=>h3 j v hv⟩
theorem Zam {w w':World} {B g o:Nat} {cs:List Value} (h:w.rangeAt g o cs) (hb:Below B w w') (hg:g<B):w'.rangeAt g o cs:=fun j v hv=>(hb.cell (p:=⟨g,o+j,none⟩) hg).trans (h j v hv)
variable {P:Program} {α:Type}
section
variable {J Jx:(Nat→Prop)→List α→World→Prop} {D E E':Nat→Prop} {W X Y:World} {pre xs:List α}
end
theorem Z3k {F:Fence} {n1:Nat} (w:World) {ops:Array Oper} {rest:List Oper} {o:Oper} {a:Go.Act} {Q:Exit→Go.Act→World→Prop} (hgd:o.guard=none) (s x:Operand) (t:TypeId)
 (ho:o.op = .call { callee:=.builtin .append,args:=#[s,x],argTypes:=#[t,t] })
 (e:TypeId) (i:TypeInfo) (z:Value) (size bytes:Nat) (ht:P.underlying t=some (.slice e)) (hi:P.info? e=some i) (hz:i.zero=some z)
 (hsize:i.size=size) (hby:i.bytes=bytes) (hzs:z.cells.size=size) (hsz:0<size)
 (v:Value) (n:Nat) (xs:List Value) (hs:a.eval s=v) (hown:w.ownsRow 0 e size v n xs)
 (A:Option Addr) (m c:Nat) (news:List Value) (hx:a.eval x = .slice A m c) (hl:news.length=m*size)
 (hnews:0<m→∃ad,A=some ad∧∀j u,news[j]? = some u→w.cell? (ad.add j)=some u) (h1 : ∀u∈news,u.oneCell'=true)
 (h63:n+m≤maxLen) (hbytes:(n+m)*bytes≤140737488355328)
 (h : ∀v' w',w'.ownsRow 0 e size v' (n+m) (xs++news)→w.grownBy w' v.ownBlock→(v' = .slice none 0 0↔v = .slice none 0 0∧m=0)→(v'.ownBlock=v.ownBlock∨v'.ownBlock=some w.heap.size)→wpListIn F n1 P ops Q rest (a.put o.dst v') w') :
 wpListIn F n1 P ops Q (o :: rest) a w:=by
 refine wpListIn_plain hgd fun K hK'=>?_;obtain ⟨v',w',hrun,r1,r2,r3,r4⟩:=Z67 (P:=P) w t o.type e i z size bytes ht hi hz hsize hby hzs hsz v n xs hown A m c news hl hnews h1 h63 hbytes;unfold Oper.wpIn;refine ⟨?_,?_⟩
 · simp [Oper.about,ho,resolve,Target.leads,Sem.run_pure]
 · rw [Oper.semAt_plain F _ _ (by rw [ho];intro c hc';cases hc')]
   simp [execOp,ho,resolve,invoke,builtin,hs,hx,hrun,Result.andThen];exact hK' _ _ (h v' w' r1 r2 r3 r4)
theorem Z3f {F:Fence} {n1:Nat} {w:World} {ops:Array Oper} {rest:List Oper} {o:Oper} {a:Go.Act} {Q:Exit→Go.Act→World→Prop} (hgd:o.guard=none) (ty:TypeId) (x:Operand) (ho:o.op = .load ty x)
 (b of:Nat) (hx:a.eval x = .pointer (some ⟨b,of,none⟩)) (cs:List Value) (d:TypeDesc) (hc:w.rangeAt b of cs)
 (hu:P.underlying ty=some d) (hd:d.isRow=true) (hi:(P.info? ty).map (·.size)=some cs.length)
 (h:wpListIn F n1 P ops Q rest (a.put o.dst (.agg cs.toArray)) w):wpListIn F n1 P ops Q (o :: rest) a w:=by
 refine wpListIn_plain hgd fun K hK'=>?_;unfold Oper.wpIn;refine ⟨?_,?_⟩
 · simp [Oper.about,ho]
 · rw [Oper.semAt_plain F _ _ (by rw [ho];intro c hc';cases hc')]
   unfold execOp;simp only [ho,hx,Instr.loadAt,Instr.sureAddr,Sem.run_bind,Sem.run_pure,Result.andThen_ok,run_loadVar_mid w b of ty cs d hc hu hd hi];exact hK' _ _ h
theorem Z2j {F:Fence} {n1:Nat} {w:World} {ops:Array Oper} {rest:List Oper} {o:Oper} {a:Go.Act} {Q:Exit→Go.Act→World→Prop} (hgd:o.guard=none) (ty:TypeId) (x y:Operand) (ho:o.op = .store ty x y)
 (b of:Nat) (cells:Array Value) (hx:a.eval x = .pointer (some ⟨b,of,none⟩)) (hy:a.eval y = .agg cells)
 (ht:w.there b of cells.size) (hi:(P.info? ty).map (·.size)=some cells.size) (h1:cells.all (·.oneCell')=true)
 (h:wpListIn F n1 P ops Q rest (a.put o.dst undef) (w.setCells b of cells.toList)):wpListIn F n1 P ops Q (o :: rest) a w:=by
 refine wpListIn_plain hgd fun K hK'=>?_;unfold Oper.wpIn;refine ⟨?_,?_⟩
 · simp [Oper.about,ho]
 · rw [Oper.semAt_plain F _ _ (by rw [ho];intro c hc';cases hc')]
   unfold execOp;simp only [ho,hx,hy,Instr.storeAt,Instr.sureAddr,Sem.run_bind,Sem.run_pure,Result.andThen_ok,run_storeVar_mid w b of ty cells ht hi h1];exact hK' _ _ h
theorem Z0m (b:Nat) : ∀(vs:List Value) (o:Nat) (w:World),(w.setCells b o vs).heap.size=w.heap.size
 | [],_,_=>rfl
 | v :: r,o,w=>by rw [World.setCells,Z0m b r (o+1)];simp [World.setCell]
theorem Z88 {w:World} {t:TypeId} (zs vs:List Value) (hl:zs.length=vs.length) :
 ∃W,W=(w.alloc (.cells zs.toArray t)).setCells w.heap.size 0 vs∧(w.alloc (.cells zs.toArray t)).there w.heap.size 0 vs.toArray.size∧W.rangeAt w.heap.size 0 vs∧Below w.heap.size w W∧W.heap.size=w.heap.size+1:=by
 have ht:(w.alloc (.cells zs.toArray t)).there w.heap.size 0 vs.length:=by
  have:=(Blk.new w t zs.toArray).there;rwa [show zs.toArray.size=vs.length by simpa using hl] at this
 refine ⟨_,rfl,by simpa using ht,Zo4 _ _ _ _ ht,Below.setCells' _ _ ((Znz _ _).alloc (Zo0 _) _) (Zo0 _),?_⟩;rw [Z0m,Zos]
theorem Blk.setCells_ {g:Nat} {t:TypeId} : ∀(vs:List Value) (o:Nat) {w:World} {cs:Array Value},Blk w g t cs→∃cs',Blk (w.setCells g o vs) g t cs'∧cs'.size=cs.size
 | [],_,_,cs,h=>⟨cs,h,rfl⟩
 | v :: vs,o,w,cs,h=>by
   obtain ⟨cs',h1,h2⟩:=Blk.setCells_ vs (o+1) (h.set_ o v);exact ⟨cs',h1,by rw [h2];simp⟩
theorem Z2y {w W:World} {t:TypeId} {zs vs:List Value} (hl:zs.length=vs.length) (hW:W=(w.alloc (.cells zs.toArray t)).setCells w.heap.size 0 vs) (hr:W.rangeAt w.heap.size 0 vs):Blk W w.heap.size t vs.toArray:=by
 obtain ⟨cs',h1,h2⟩:=Blk.setCells_ vs 0 (Blk.new w t zs.toArray);rw [← hW] at h1
 have e:cs'=vs.toArray:=by
  apply Array.ext
  · rw [h2];simpa using hl
  · intro i hi hj
    (have hj':i<vs.length:=by simpa using hj);have h3:=hr i vs[i] (Zo8 hj');rw [show (0+i)=i by omega,h1.cell i,Array.getElem?_eq_getElem hi] at h3;simpa using h3
 rw [← e];exact h1
theorem Z2o {E:Nat→Prop} {X Y:World} {e:TypeId} {size n m:Nat} {A:Option Addr} {c:Nat} {v':Value} {xs news:List Value} (hA:AIn A E) (hown':Y.ownsRow 0 e size v' (n+m) (xs++news)) (hg:X.grownBy Y (Value.slice A n c).ownBlock)
 (hat:v'.ownBlock=(Value.slice A n c).ownBlock∨v'.ownBlock=some X.heap.size) : ∃A' c',v' = .slice A' (n+m) c'∧Fr E X Y∧AIn A' (Plus E X Y)∧Y.ownsRow 0 e size (.slice A' (n+m) c') (n+m) (xs++news):=by
 obtain ⟨A',c',rfl,hc,_,hz⟩:=Z0z hown';refine ⟨A',c',rfl,(Fr.refl E X).grown hg (fun k hk=>?_),fun a ha=>?_,hown'⟩
 · rcases A with _ | a
   · simp [Value.ownBlock] at hk
   · have e:a.block=k:=by simpa [Value.ownBlock] using hk
     exact .inl (e ▸ hA a rfl)
 · subst ha
   rcases hat with h | h
   · rcases A with _ | b
     · simp [Value.ownBlock] at h
     · have e:a.block=b.block:=by simpa [Value.ownBlock] using h
       exact .inl (e ▸ hA b rfl)
   · have e:a.block=X.heap.size:=by simpa [Value.ownBlock] using h
     refine .inr ⟨by omega,?_⟩;rcases Z07 hown' with ⟨hv,_⟩ | ⟨g,cap,hv,_,_,hr,_⟩
     · cases hv
     · injection hv with hv
       injection hv with hv;subst hv;exact hr.lt
end
section
open Go.RowKit Go.Shelf
def Z0h (A:Option Addr) (W W':World):Prop:=W.heap.size≤W'.heap.size∧∀a,A=some a→a.block<W.heap.size→W'.heap[a.block]? = W.heap[a.block]?
theorem Z0h.trans {A:Option Addr} {X Y Z:World} (h:Z0h A X Y) (k:Z0h A Y Z):Z0h A X Z:=⟨Zod h.1 k.1,fun a e hl=>(k.2 a e (Zo3 hl h.1)).trans (h.2 a e hl)⟩
theorem Z0h.of_priv {A:Option Addr} {B:Nat} {X Y:World} (hA:AIn A (· < B)) (h:Priv B X Y):Z0h A X Y:=⟨h.size,fun a e hl=>h.block _ hl (.inl (hA a e))⟩
theorem Z0h.of_below {A:Option Addr} {B:Nat} {X Y:World} (hA:AIn A (· < B)) (h:Below B X Y):Z0h A X Y:=⟨h.size,fun a e _=>h.block _ (hA a e)⟩
theorem Z0h.rd {α:Type} {size c:Nat} {cells:α→List Value} {A:Option Addr} {l:List α} {W W':World} (hk:Z0h A W W') (h:Z0p W size cells A c l):Z0p W' size cells A c l:=
 h.keep hk.1 (fun p hp ⟨a,ha,hb⟩=>World.cell?_of_block (by rw [← hb];exact hk.2 a ha (by rw [hb];exact hp)))
def Z1d (b:Nat) (X Y:World):Prop:=∃X1,Below X.heap.size X X1∧Y=X1.setCell ⟨b,1,none⟩ (.bool true)
theorem Z1d.fr {b:Nat} {W W1:World} (h:Z1d b W W1):Fr (· = b) W W1:=by
 obtain ⟨X1,hb,rfl⟩:=h;exact (Fr.of_new (M:=(· = b)) hb).setCell (p:=⟨b,1,none⟩) (.inl rfl) _
abbrev Zli {α:Type} (lo:Nat) (encs:α→Array Value) (xs:List α) (Kp:World→World→Prop) (J Jx:List α→World→Prop):Prop:=
 ∀pre x post W1,xs=pre++x :: post→J pre W1→YieldAt Fence.wide 0 Tryz.prog lo (encs x) W1 fun e W'=>
  (e = .returned (.bool true)∧J (pre ++ [x]) W'∧Kp W1 W')∨(e = .returned (.bool false)∧Jx (pre ++ [x]) W')
abbrev Told {α:Type} (xs:List α) (J Jx:List α→World→Prop) (e:Ending) (W':World):Prop:=(∃v,e = .returned v)∧(J xs W'∨∃pre post,xs=pre++post∧Jx pre W')
end
end Go.Proofs.YtldndkngpdfpfaaGreat
