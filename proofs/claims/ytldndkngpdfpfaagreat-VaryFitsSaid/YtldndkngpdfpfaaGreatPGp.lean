/-
  Texts put together: BkRec, BkHeavy, VaryNw1, VaryA.
-/
import Derived.Test.YtldndkngpdfpfaaGreatPGo
namespace Go.Proofs.YtldndkngpdfpfaaGreat
open Lib (hid)
set_option maxRecDepth 100000
set_option maxHeartbeats 32000000
section
open Go.RowKit
def SmH (n:Nat) (h:Zbh):Prop:=SmC (n+1) h.cond∧h.binds.length≤1000
def SmR (n:Nat) (r:Z36):Prop:=r.elems.length≤1000∧r.holes.length≤1000∧r.aparts.length≤1000∧r.news.length≤1000∧∀h∈r.holes,SmH n h
theorem Zg5 {n:Nat} {D:Nat→Prop} {w:World} {y:Zbh} {Ay1 Ay2 Ay3 Ay4:Option Addr} {cy1 cy2 cy3 cy4:Nat} (h1:RowR Z0d D w Ay1 cy1 y.cond.attr) (h2:RowR Z0d D w Ay2 cy2 y.cond.value) (h3:RowR (Z0g n) D w Ay3 cy3 y.cond.conds) (h4:RowR Z32 D w Ay4 cy4 y.binds) :
 (Z1j n).rep D w y [.int .i64 y.cond.kind,.bool y.cond.goal,.string y.cond.id,.slice Ay1 y.cond.attr.length cy1,.slice Ay2 y.cond.value.length cy2,.bool y.cond.acc,.slice Ay3 y.cond.conds.length cy3,.slice Ay4 y.binds.length cy4]:=⟨Ay1,cy1,Ay2,cy2,Ay3,cy3,Ay4,cy4,rfl,h1,h2,h3,h4⟩
def Z9p (n:Nat) (D:Nat→Prop) (w:World) (r:Z36) (A1:Option Addr) (c1:Nat) (A2:Option Addr) (c2:Nat) (A3:Option Addr) (c3:Nat) (A4:Option Addr) (c4:Nat):Prop:=
 RowR Z0u D w A1 c1 r.elems∧RowR (Z1j n) D w A2 c2 r.holes∧RowR Z1s D w A3 c3 r.aparts∧RowR Z3r D w A4 c4 r.news
theorem Z9p.keep {n:Nat} {D D':Nat→Prop} {w w':World} {r:Z36} {A1:Option Addr} {c1:Nat} {A2:Option Addr} {c2:Nat} {A3:Option Addr} {c3:Nat} {A4:Option Addr} {c4:Nat} (h:Z9p n D w r A1 c1 A2 c2 A3 c3 A4 c4) (hs:w.heap.size≤w'.heap.size) (hk : ∀k,D k→k<w.heap.size→D' k∧w'.heap[k]? = w.heap[k]?):Z9p n D' w' r A1 c1 A2 c2 A3 c3 A4 c4:=
 ⟨h.1.keep hs hk,h.2.1.keep hs hk,h.2.2.1.keep hs hk,h.2.2.2.keep hs hk⟩
def Zeu (n:Nat) (r:Z36) (w:World) (en:Ending) (w':World):Prop:=
 ∃A1 c1 A2 c2 A3 c3 A4 c4,en = .returned (.agg #[.int .i64 r.num,.int .i64 r.level,.slice A1 r.elems.length c1,.slice A2 r.holes.length c2,.slice A3 r.aparts.length c3,.slice A4 r.news.length c4])∧Z9p n (NewD w.heap.size w') w' r A1 c1 A2 c2 A3 c3 A4 c4∧Below w.heap.size w w'
theorem Blk.setAll {w:World} {g:Nat} {t:TypeId} {cs:Array Value} {vs:List Value} (h:Blk w g t cs) (hl:cs.size=vs.length):Blk (w.setCells g 0 vs) g t vs.toArray:=by
 have hr:=Zi6 w g 0 vs (by have:=h.there;rwa [hl] at this);obtain ⟨cs',h1,h2⟩:=Blk.setCells_ vs 0 h
 have e:cs'=vs.toArray:=by
  apply Array.ext
  · rw [h2];simpa using hl
  · intro i hi hj
    (have hj':i<vs.length:=by simpa using hj);have h3:=hr i vs[i] (Zic hj');rw [show (0+i)=i by omega,h1.cell i,Array.getElem?_eq_getElem hi] at h3;simpa using h3
 rw [← e];exact h1
theorem Zck {w:World} {e:TypeId} {size n c:Nat} {A:Option Addr} {xs:List Value} {g:Nat} {t:TypeId} {cs:Array Value} {D:Nat→Prop} (h:w.ownsRow 0 e size (.slice A n c) n xs) (hg:Blk w g t cs) (hne:e≠t) (hA:AIn A D):AIn A (fun j=>D j∧j≠g):=by
 intro a ha;refine ⟨hA a ha,fun hb=>?_⟩;subst ha;exact Z04 h hg hne (by simp [Value.ownBlock,hb])
theorem Z19 {w:World} {e:TypeId} {size n:Nat} {v:Value} {xs:List Value} {g:Nat} {t:TypeId} {cs:Array Value} (h:w.ownsRow 0 e size v n xs) (hg:Blk w g t cs) (hne:e≠t) (o:Nat) (vs:List Value):(w.setCells g o vs).ownsRow 0 e size v n xs:=
 Z16 h (Fr.setCells vs o (Fr.refl (· = g) w) (.inl rfl)) (fun j hj ej=>Z04 h hg hne (by rw [← ej];exact hj))
def RH (n g:Nat) (r:Z36) (W1:World) (E1:Option Addr) (d1:Nat) (E3:Option Addr) (d3:Nat) (E4:Option Addr) (d4:Nat) (k:Nat) (A:Option Addr) (c:Nat) (wr:World):Prop:=
 Blk wr g 121 #[.int .i64 r.num,.int .i64 r.level,.slice E1 r.elems.length d1,.slice A k c,.slice E3 r.aparts.length d3,.slice E4 r.news.length d4]∧∃C:Nat→Prop,¬C g∧(∀j,C j→NewD W1.heap.size wr j)∧W1.heap.size≤g∧RowR Z0u C wr E1 d1 r.elems∧RowR Z1s C wr E3 d3 r.aparts∧RowR Z3r C wr E4 d4 r.news∧
  OwnC (Z1j n) 134 C wr (.slice A (r.holes.take k).length c) (r.holes.take k)∧AIn A (NewD W1.heap.size wr)∧Below W1.heap.size W1 wr
section
variable {n g:Nat} {r:Z36} {W1 wr:World} {E1:Option Addr} {d1:Nat} {E3:Option Addr} {d3:Nat} {E4:Option Addr} {d4:Nat} {k:Nat} {A:Option Addr} {c:Nat} {C:Nat→Prop}
theorem RH.step {y:Zbh} {W7 w8:World} {A':Option Addr} {c':Nat} (hG:Blk wr g 121 #[.int .i64 r.num,.int .i64 r.level,.slice E1 r.elems.length d1,.slice A k c,.slice E3 r.aparts.length d3,.slice E4 r.news.length d4]) (hCg : ¬C g) (hC : ∀j,C j→NewD W1.heap.size wr j) (hg:W1.heap.size≤g) (t1:RowR Z0u C wr E1 d1 r.elems) (t3:RowR Z1s C wr E3 d3 r.aparts) (t4:RowR Z3r C wr E4 d4 r.news)
 (hO:OwnC (Z1j n) 134 C wr (.slice A (r.holes.take k).length c) (r.holes.take k)) (hA:AIn A (NewD W1.heap.size wr)) (hB:Below W1.heap.size W1 wr) (hk1:k+1≤r.holes.length) (hy:r.holes.take k ++ [y]=r.holes.take (k+1)) (h7:Below wr.heap.size wr W7)
 (ha:Z4v (Z1j n) 134 (Plus C wr W7) W7 (.slice A (r.holes.take k).length c) (r.holes.take k ++ [y]) (.slice A' (k+1) c') w8):RH n g r W1 E1 d1 E3 d3 E4 d4 (k+1) A' c' (w8.setCell ⟨g,3,none⟩ (.slice A' (k+1) c')):=by
 obtain ⟨a1,a2,a3⟩:=ha;rw [hy] at a1;have hz:=hB.size;have hz7:=h7.size;have hz8:=a2.size;have hgl:=hG.lt
 have hnA : ∀j,(Value.slice A (r.holes.take k).length c).ownBlock=some j→W1.heap.size≤j∧j<wr.heap.size:=fun j hj=>by
  rcases A with _ | a
  · simp [Value.ownBlock] at hj
  · simp only [Value.ownBlock,Option.some.injEq] at hj
    have:=hA a rfl;exact ⟨by rw [← hj];exact this.1,by rw [← hj];exact this.2⟩
 have hlen:(r.holes.take (k+1)).length=k+1:=Z21 hk1;have ho:=Classical.choose_spec hO;have hne:(Value.slice A (r.holes.take k).length c).ownBlock≠some g:=Z04 ho.1 hG (by decide);have hG8:Blk w8 g 121 #[.int .i64 r.num,.int .i64 r.level,.slice E1 r.elems.length d1,.slice A k c,.slice E3 r.aparts.length d3,.slice E4 r.news.length d4]:=(hG.new_ h7).grown a2 hne;have ho8:=Classical.choose_spec a1;have hne8:(Value.slice A' (k+1) c').ownBlock≠some g:=Z04 ho8.1 hG8 (by decide)
 have hCP : ∀j,Plus C wr W7 j→NewD W1.heap.size W7 j:=fun j hj=>by
  rcases hj with hj | hj
  · have:=hC j hj;exact ⟨this.1,by have:=this.2;omega⟩
  · exact ⟨by omega,hj.2⟩
 have hgP : ¬Plus C wr W7 g:=fun h=>by
  rcases h with h | h
  · exact hCg h
  · omega
 have ho7 : ∀j,(Value.slice A (r.holes.take k).length c).ownBlock=some j→¬Plus C wr W7 j:=fun j hj h=>by
  rcases h with h | h
  · exact hO.off j hj h
  · have:=(hnA j hj).2;omega
 have keep : ∀j,C j→j<wr.heap.size→Plus C wr W7 j∧(w8.setCell ⟨g,3,none⟩ (.slice A' (k+1) c')).heap[j]? = wr.heap[j]?:=fun j hj hl=>by
  refine ⟨.inl hj,?_⟩;rw [Below.heap_setCell _ _ _ _ (by dsimp only;intro e;subst e;exact hCg hj),a2.block j (by omega) (fun e=>hO.off j e.symm hj)];exact h7.block j hl
 (have hs9:wr.heap.size≤(w8.setCell ⟨g,3,none⟩ (.slice A' (k+1) c')).heap.size:=by simp;omega);refine ⟨hG8.set_ 3 _,Plus C wr W7,hgP,fun j hj=>?_,hg,t1.keep hs9 keep,t3.keep hs9 keep,t4.keep hs9 keep,?_,?_,?_⟩
 · have:=hCP j hj;exact ⟨this.1,by have:=this.2;simp;omega⟩
 · rw [hlen]
   exact a1.fr (M:=(· = g)) ((Fr.refl (· = g) w8).setCell (p:=⟨g,3,none⟩) (.inl rfl) _) (fun j hj e=>by subst e;exact hgP hj) (fun j hj e=>by subst e;exact hne8 hj)
 · intro a ha
   subst ha;have hlt:=a1.lt a.block rfl;refine ⟨?_,by simpa using hlt⟩;rcases a3 with a3 | a3
   · exact (hnA a.block (a3 ▸ rfl)).1
   · simp only [Value.ownBlock,Option.some.injEq] at a3
     omega
 · exact ((hB.trans (h7.mono hz)).grown a2 (by omega) (fun j hj=>(hnA j hj).1)).setCell (by dsimp only;exact hg) _
theorem RH.fin (hk:k=r.holes.length) (hC : ∀j,C j→NewD W1.heap.size wr j) (t1:RowR Z0u C wr E1 d1 r.elems) (t3:RowR Z1s C wr E3 d3 r.aparts) (t4:RowR Z3r C wr E4 d4 r.news)
 (hO:OwnC (Z1j n) 134 C wr (.slice A (r.holes.take k).length c) (r.holes.take k)) (hA:AIn A (NewD W1.heap.size wr)):Z9p n (NewD W1.heap.size wr) wr r E1 d1 A c E3 d3 E4 d4:=by
 subst hk;rw [Zis] at hO;exact ⟨t1.weaken hC,hO.row hC hA,t3.weaken hC,t4.weaken hC⟩
end
theorem Zar (n:Nat) (r:Z36) (A1:Option Addr) (c1:Nat) (A2:Option Addr) (c2:Nat) (A3:Option Addr) (c3:Nat) (A4:Option Addr) (c4:Nat) {D:Nat→Prop} (w:World) (hr:Z9p n D w r A1 c1 A2 c2 A3 c3 A4 c4) (hs:SmR n r) :
 Calls Tryz.prog 60 #[.agg #[.int .i64 r.num,.int .i64 r.level,.slice A1 r.elems.length c1,.slice A2 r.holes.length c2,.slice A3 r.aparts.length c3,.slice A4 r.news.length c4]] w (Zeu n r w):=by
 obtain ⟨j0,hj0,hy0,hyy1,hyy2⟩:=infp Zfi;obtain ⟨s1,s2,s3,s4,s5⟩:=hs;obtain ⟨r1,r2,r3,r4⟩:=hr;have hcap2:=r2.cap;have HS:=hid s5;have R1:=hid (RowR.rd (hs:=Z07.cells_length) r1);have R2:=hid r2;have R3:=hid (RowR.rd (hs:=Z0j.cells_length) r3);have R4:=hid (RowR.rd (hs:=Sym.cells_length) r4);clear s5 r1 r2 r3 r4;go_enter Tryz.func60,Tryz.ntmps60;(go_upto_region 1 with fail);obtain ⟨W1,hW1⟩ : ∃W1,W1=(w.alloc (.cells #[.int .i64 r.num,.int .i64 r.level,.slice A1 r.elems.length c1,.slice A2 r.holes.length c2,.slice A3 r.aparts.length c3,.slice A4 r.news.length c4] 121)).alloc (.cells #[.int .i64 0,.int .i64 0,.slice none 0 0,.slice none 0 0,.slice none 0 0,.slice none 0 0] 121):=⟨_,rfl⟩;(have hB1:Below w.heap.size w W1:=by rw [hW1];exact ((Zi2 _ _).alloc (Zi3 _) _).alloc (by simp) _);(have hX1:Blk W1 w.heap.size 121 #[.int .i64 r.num,.int .i64 r.level,.slice A1 r.elems.length c1,.slice A2 r.holes.length c2,.slice A3 r.aparts.length c3,.slice A4 r.news.length c4]:=by rw [hW1];exact (Blk.new _ _ _).alloc _);(have hR1:Blk W1 (w.heap.size+1) 121 #[.int .i64 0,.int .i64 0,.slice none 0 0,.slice none 0 0,.slice none 0 0,.slice none 0 0]:=by rw [hW1];have:=Blk.new (w.alloc (.cells #[.int .i64 r.num,.int .i64 r.level,.slice A1 r.elems.length c1,.slice A2 r.holes.length c2,.slice A3 r.aparts.length c3,.slice A4 r.news.length c4] 121)) 121 #[.int .i64 0,.int .i64 0,.slice none 0 0,.slice none 0 0,.slice none 0 0,.slice none 0 0];simpa using this);(have hz1:W1.heap.size=w.heap.size+2:=by rw [hW1];simp);rw [← hW1];clear hW1;obtain ⟨p0,p1,p2,p3,p4,p5⟩:=hX1.c6;have HB1:=hid hB1;have HX1:=hid hX1;have HR1:=hid hR1;have HZ1:=hid hz1;have hxl1:=hX1.lt;clear hB1 hX1 hR1 hz1
 go_cut [3] from 5 (fun p wc=>∃g E1 d1 E3 d3 E4 d4,p = .pointer (some ⟨g,0,none⟩)∧W1.heap.size≤g∧Blk wc g 121 #[.int .i64 r.num,.int .i64 r.level,.slice E1 r.elems.length d1,.slice none 0 0,.slice E3 r.aparts.length d3,.slice E4 r.news.length d4]∧Below W1.heap.size W1 wc∧
  (wc.ownsRow 0 57 14 (.slice E1 r.elems.length d1) r.elems.length (r.elems.flatMap Z07.cells)∧AIn E1 (NewD W1.heap.size wc))∧
  (wc.ownsRow 0 34 7 (.slice E3 r.aparts.length d3) r.aparts.length (r.aparts.flatMap Z0j.cells)∧AIn E3 (NewD W1.heap.size wc))∧
  (wc.ownsRow 0 23 3 (.slice E4 r.news.length d4) r.news.length (r.news.flatMap Sym.cells)∧AIn E4 (NewD W1.heap.size wc)))
 case first=>
  refine Z1b (fun w9=>Below W1.heap.size W1 w9) [0,1,2,3,4,5,7,8,10,11,13] [1,3,5,8,11] (.fork [(0,0),(1,1),(2,0),(3,1),(4,0),(5,1),(7,0),(8,1),(10,0),(11,1)] 6 (.fork [] 9 (.fork [] 12 (.fin [(13,0),(14,2),(15,2)]) 14 (.fin [(12,2),(13,0),(15,2)])) 14 (.fin [(9,2),(12,2),(13,0),(15,2)])) 14 (.fin [(6,2),(9,2),(12,2),(13,0),(15,2)])) (by kernel_rfl) (by kernel_rfl) (by kernel_rfl) (fun KK hKK=>?_);simp only [wpPl,Z02,Zib,Zi5,Zi9,Zi8,Zi7,Zif];(repeat ((first | (refine Z0n ?_ (Or.inl ⟨by rfl,fun w9=>?_⟩) ?_;rotate_left 1;go_simp;with_reducible rfl) | (refine Z0p ?_ ((Zi2 _ _).drew) (Or.inl ⟨by rfl,fun w9 hw9=>?_⟩) ?_;rotate_left 1;obtain ⟨hc9,hf9⟩:=Z0e hw9;go_simp;with_reducible rfl) | refine Z0n undef (Or.inr ⟨by rfl,rfl⟩) ?_ | refine Z0p undef ((Zi2 _ _).drew) (Or.inr ⟨by rfl,rfl⟩) ?_);go_frame));refine Z0f ⟨?_,?_⟩
  · refine Z0o rfl (fun K9 hK9=>?_)
    go_simp;refine (Zaq A1 c1 r.elems _ (R1.out.new_ (HB1.out.trans (((Zi2 W1.heap.size W1).drew).mono (by have:=HZ1.out;omega)))) (by omega)).mono ?_;rintro e w1 ⟨E1,d1,rfl,ho,hA,hb⟩;have HO1:=hid ho;have HA1:=hid (hA.mono (fun j hj=>(⟨Zip ((Zi2 W1.heap.size W1).drew).size hj.1,hj.2⟩:NewD W1.heap.size w1 j)));have HB1x:=hid (((Zi2 W1.heap.size W1).drew).trans (hb.mono ((Zi2 W1.heap.size W1).drew).size));clear ho hA hb;refine hK9 _ _ (fun _=>HB1x.out) ?_;clear hK9 K9;(try go_frame);(try simp only [Z02,Zi5]);refine Z0f ⟨?_,?_⟩
    · refine Z0o rfl (fun K9 hK9=>?_)
      go_simp;refine (Z7t A3 c3 r.aparts _ (R3.out.new_ (HB1.out.trans ((HB1x.out).mono (by have:=HZ1.out;omega)))) (by omega)).mono ?_;rintro e w3 ⟨E3,d3,rfl,ho,hA,hb⟩;have HO1:=hid (Z01 HO1.out hb);have HA1:=hid (HA1.out.mono (fun j hj=>NewD.up (Zi3 _) (hb).size j hj));have HO3:=hid ho;have HA3:=hid (hA.mono (fun j hj=>(⟨Zip (HB1x.out).size hj.1,hj.2⟩:NewD W1.heap.size w3 j)));have HB3x:=hid ((HB1x.out).trans (hb.mono (HB1x.out).size));clear ho hA hb;refine hK9 _ _ (fun _=>HB3x.out) ?_;clear hK9 K9;(try go_frame);(try simp only [Z02,Zi5]);refine Z0f ⟨?_,?_⟩
      · refine Z0o rfl (fun K9 hK9=>?_)
        go_simp;refine (Z8l A4 c4 r.news _ (R4.out.new_ (HB1.out.trans ((HB3x.out).mono (by have:=HZ1.out;omega)))) (by omega)).mono ?_;rintro e w4 ⟨E4,d4,rfl,ho,hA,hb⟩;have HO1:=hid (Z01 HO1.out hb);have HA1:=hid (HA1.out.mono (fun j hj=>NewD.up (Zi3 _) (hb).size j hj));have HO3:=hid (Z01 HO3.out hb);have HA3:=hid (HA3.out.mono (fun j hj=>NewD.up (Zi3 _) (hb).size j hj));have HO4:=hid ho;have HA4:=hid (hA.mono (fun j hj=>(⟨Zip (HB3x.out).size hj.1,hj.2⟩:NewD W1.heap.size w4 j)));have HB4x:=hid ((HB3x.out).trans (hb.mono (HB3x.out).size));clear ho hA hb;refine hK9 _ _ (fun _=>HB4x.out) ?_;clear hK9 K9;(try go_frame);(try simp only [Z02,Zi5]);(repeat ((first | (refine Z0n ?_ (Or.inl ⟨by rfl,fun w9=>?_⟩) ?_;rotate_left 1;go_simp;with_reducible rfl) | (refine Z0p ?_ (HB4x.out) (Or.inl ⟨by rfl,fun w9 hw9=>?_⟩) ?_;rotate_left 1;obtain ⟨hc9,hf9⟩:=Z0e hw9;go_simp;with_reducible rfl) | refine Z0n undef (Or.inr ⟨by rfl,rfl⟩) ?_ | refine Z0p undef (HB4x.out) (Or.inr ⟨by rfl,rfl⟩) ?_);go_frame));refine Z0s (fun K9 hK9=>?_);go_simp;have hb:Below w4.heap.size w4 (w4.alloc (.cells #[.int .i64 0,.int .i64 0,.slice none 0 0,.slice none 0 0,.slice none 0 0,.slice none 0 0] 121)):=(Zi2 _ _).alloc (Zi3 _) _;have HO1:=hid (Z01 HO1.out hb);have HA1:=hid (HA1.out.mono (fun j hj=>NewD.up (Zi3 _) (hb).size j hj));have HO3:=hid (Z01 HO3.out hb);have HA3:=hid (HA3.out.mono (fun j hj=>NewD.up (Zi3 _) (hb).size j hj));have HO4:=hid (Z01 HO4.out hb);have HA4:=hid (HA4.out.mono (fun j hj=>NewD.up (Zi3 _) (hb).size j hj));have HK:=hid (show Blk (w4.alloc (.cells #[.int .i64 0,.int .i64 0,.slice none 0 0,.slice none 0 0,.slice none 0 0,.slice none 0 0] 121)) w4.heap.size 121 #[.int .i64 0,.int .i64 0,.slice none 0 0,.slice none 0 0,.slice none 0 0,.slice none 0 0] from Blk.new _ _ _);have HGE:=hid (show W1.heap.size≤w4.heap.size from (HB4x.out).size);have HBg:=hid ((HB4x.out).trans (hb.mono (HB4x.out).size));clear hb;refine hK9 _ _ (HBg.out) ?_;clear hK9 K9;(try go_frame);refine Z0s (fun K9 hK9=>?_);refine Z09 rfl 121 _ _ rfl w4.heap.size 0 #[.int .i64 r.num,.int .i64 r.level,.slice E1 r.elems.length d1,.slice none 0 0,.slice E3 r.aparts.length d3,.slice E4 r.news.length d4] rfl rfl (show _ from HK.out.there) (by kernel_rfl) (by kernel_rfl) ?_;refine hK9 _ _ (Below.setCells' _ _ (HBg.out) HGE.out) ?_;clear hK9 K9;(try go_frame);refine Z0f ?_;simp only [Z00];refine hKK _ _ ?_;clear hKK KK
        (go_wp2_with fail);go_meet
        case rel=>exact ⟨w4.heap.size,E1,d1,E3,d3,E4,d4,rfl,HGE.out,HK.out.setAll rfl,Below.setCells' _ _ (HBg.out) HGE.out,⟨Z19 HO1.out HK.out (by decide) _ _,HA1.out.mono (fun j hj=>⟨hj.1,by rw [Z0b];exact hj.2⟩)⟩,⟨Z19 HO3.out HK.out (by decide) _ _,HA3.out.mono (fun j hj=>⟨hj.1,by rw [Z0b];exact hj.2⟩)⟩,⟨Z19 HO4.out HK.out (by decide) _ _,HA4.out.mono (fun j hj=>⟨hj.1,by rw [Z0b];exact hj.2⟩)⟩⟩
      · refine Z0o rfl (fun K9 hK9=>?_)
        go_simp;have hb:Below w3.heap.size w3 (w3.alloc (.cells #[.int .i64 0,.int .i64 0,.slice none 0 0,.slice none 0 0,.slice none 0 0,.slice none 0 0] 121)):=(Zi2 _ _).alloc (Zi3 _) _;have HO1:=hid (Z01 HO1.out hb);have HA1:=hid (HA1.out.mono (fun j hj=>NewD.up (Zi3 _) (hb).size j hj));have HO3:=hid (Z01 HO3.out hb);have HA3:=hid (HA3.out.mono (fun j hj=>NewD.up (Zi3 _) (hb).size j hj));have HK:=hid (show Blk (w3.alloc (.cells #[.int .i64 0,.int .i64 0,.slice none 0 0,.slice none 0 0,.slice none 0 0,.slice none 0 0] 121)) w3.heap.size 121 #[.int .i64 0,.int .i64 0,.slice none 0 0,.slice none 0 0,.slice none 0 0,.slice none 0 0] from Blk.new _ _ _);have HGE:=hid (show W1.heap.size≤w3.heap.size from (HB3x.out).size);have HBg:=hid ((HB3x.out).trans (hb.mono (HB3x.out).size));clear hb;refine hK9 _ _ (fun _=>HBg.out) ?_;clear hK9 K9;(try go_frame);(try simp only [Z02,Zi5]);refine Z0s (fun K9 hK9=>?_);go_simp;refine (Z8l A4 c4 r.news _ (R4.out.new_ (HB1.out.trans ((HBg.out).mono (by have:=HZ1.out;omega)))) (by omega)).mono ?_;rintro e w4 ⟨E4,d4,rfl,ho,hA,hb⟩;have HO1:=hid (Z01 HO1.out hb);have HA1:=hid (HA1.out.mono (fun j hj=>NewD.up (Zi3 _) (hb).size j hj));have HO3:=hid (Z01 HO3.out hb);have HA3:=hid (HA3.out.mono (fun j hj=>NewD.up (Zi3 _) (hb).size j hj));have HK:=hid (HK.out.new_ hb);have HO4:=hid ho;have HA4:=hid (hA.mono (fun j hj=>(⟨Zip (HBg.out).size hj.1,hj.2⟩:NewD W1.heap.size w4 j)));have HB4x:=hid ((HBg.out).trans (hb.mono (HBg.out).size));clear ho hA hb;refine hK9 _ _ (HB4x.out) ?_;clear hK9 K9;(try go_frame);(repeat ((first | (refine Z0n ?_ (Or.inl ⟨by rfl,fun w9=>?_⟩) ?_;rotate_left 1;go_simp;with_reducible rfl) | (refine Z0p ?_ (HB4x.out) (Or.inl ⟨by rfl,fun w9 hw9=>?_⟩) ?_;rotate_left 1;obtain ⟨hc9,hf9⟩:=Z0e hw9;go_simp;with_reducible rfl) | refine Z0n undef (Or.inr ⟨by rfl,rfl⟩) ?_ | refine Z0p undef (HB4x.out) (Or.inr ⟨by rfl,rfl⟩) ?_);go_frame));refine Z0s (fun K9 hK9=>?_);refine Z09 rfl 121 _ _ rfl w3.heap.size 0 #[.int .i64 r.num,.int .i64 r.level,.slice E1 r.elems.length d1,.slice none 0 0,.slice E3 r.aparts.length d3,.slice E4 r.news.length d4] rfl rfl (show _ from HK.out.there) (by kernel_rfl) (by kernel_rfl) ?_;refine hK9 _ _ (Below.setCells' _ _ (HB4x.out) HGE.out) ?_;clear hK9 K9;(try go_frame);refine Z0f ?_;simp only [Z00];refine hKK _ _ ?_;clear hKK KK;go_wp2_with fail
        go_meet
        case rel=>exact ⟨w3.heap.size,E1,d1,E3,d3,E4,d4,rfl,HGE.out,HK.out.setAll rfl,Below.setCells' _ _ (HB4x.out) HGE.out,⟨Z19 HO1.out HK.out (by decide) _ _,HA1.out.mono (fun j hj=>⟨hj.1,by rw [Z0b];exact hj.2⟩)⟩,⟨Z19 HO3.out HK.out (by decide) _ _,HA3.out.mono (fun j hj=>⟨hj.1,by rw [Z0b];exact hj.2⟩)⟩,⟨Z19 HO4.out HK.out (by decide) _ _,HA4.out.mono (fun j hj=>⟨hj.1,by rw [Z0b];exact hj.2⟩)⟩⟩
    · refine Z0o rfl (fun K9 hK9=>?_)
      go_simp;have hb:Below w1.heap.size w1 (w1.alloc (.cells #[.int .i64 0,.int .i64 0,.slice none 0 0,.slice none 0 0,.slice none 0 0,.slice none 0 0] 121)):=(Zi2 _ _).alloc (Zi3 _) _;have HO1:=hid (Z01 HO1.out hb);have HA1:=hid (HA1.out.mono (fun j hj=>NewD.up (Zi3 _) (hb).size j hj));have HK:=hid (show Blk (w1.alloc (.cells #[.int .i64 0,.int .i64 0,.slice none 0 0,.slice none 0 0,.slice none 0 0,.slice none 0 0] 121)) w1.heap.size 121 #[.int .i64 0,.int .i64 0,.slice none 0 0,.slice none 0 0,.slice none 0 0,.slice none 0 0] from Blk.new _ _ _);have HGE:=hid (show W1.heap.size≤w1.heap.size from (HB1x.out).size);have HBg:=hid ((HB1x.out).trans (hb.mono (HB1x.out).size));clear hb;refine hK9 _ _ (fun _=>HBg.out) ?_;clear hK9 K9;(try go_frame);(try simp only [Z02,Zi5]);refine Z0s (fun K9 hK9=>?_);go_simp;refine (Z7t A3 c3 r.aparts _ (R3.out.new_ (HB1.out.trans ((HBg.out).mono (by have:=HZ1.out;omega)))) (by omega)).mono ?_;rintro e w3 ⟨E3,d3,rfl,ho,hA,hb⟩;have HO1:=hid (Z01 HO1.out hb);have HA1:=hid (HA1.out.mono (fun j hj=>NewD.up (Zi3 _) (hb).size j hj));have HK:=hid (HK.out.new_ hb);have HO3:=hid ho;have HA3:=hid (hA.mono (fun j hj=>(⟨Zip (HBg.out).size hj.1,hj.2⟩:NewD W1.heap.size w3 j)));have HB3x:=hid ((HBg.out).trans (hb.mono (HBg.out).size));clear ho hA hb;refine hK9 _ _ (HB3x.out) ?_;clear hK9 K9;(try go_frame);refine Z0s (fun K9 hK9=>?_);go_simp;refine (Z8l A4 c4 r.news _ (R4.out.new_ (HB1.out.trans ((HB3x.out).mono (by have:=HZ1.out;omega)))) (by omega)).mono ?_;rintro e w4 ⟨E4,d4,rfl,ho,hA,hb⟩;have HO1:=hid (Z01 HO1.out hb);have HA1:=hid (HA1.out.mono (fun j hj=>NewD.up (Zi3 _) (hb).size j hj));have HO3:=hid (Z01 HO3.out hb);have HA3:=hid (HA3.out.mono (fun j hj=>NewD.up (Zi3 _) (hb).size j hj));have HK:=hid (HK.out.new_ hb);have HO4:=hid ho;have HA4:=hid (hA.mono (fun j hj=>(⟨Zip (HB3x.out).size hj.1,hj.2⟩:NewD W1.heap.size w4 j)));have HB4x:=hid ((HB3x.out).trans (hb.mono (HB3x.out).size));clear ho hA hb;refine hK9 _ _ (HB4x.out) ?_;clear hK9 K9
      (try go_frame);(repeat ((first | (refine Z0n ?_ (Or.inl ⟨by rfl,fun w9=>?_⟩) ?_;rotate_left 1;go_simp;with_reducible rfl) | (refine Z0p ?_ (HB4x.out) (Or.inl ⟨by rfl,fun w9 hw9=>?_⟩) ?_;rotate_left 1;obtain ⟨hc9,hf9⟩:=Z0e hw9;go_simp;with_reducible rfl) | refine Z0n undef (Or.inr ⟨by rfl,rfl⟩) ?_ | refine Z0p undef (HB4x.out) (Or.inr ⟨by rfl,rfl⟩) ?_);go_frame));refine Z0s (fun K9 hK9=>?_);refine Z09 rfl 121 _ _ rfl w1.heap.size 0 #[.int .i64 r.num,.int .i64 r.level,.slice E1 r.elems.length d1,.slice none 0 0,.slice E3 r.aparts.length d3,.slice E4 r.news.length d4] rfl rfl (show _ from HK.out.there) (by kernel_rfl) (by kernel_rfl) ?_;refine hK9 _ _ (Below.setCells' _ _ (HB4x.out) HGE.out) ?_;clear hK9 K9;(try go_frame);refine Z0f ?_;simp only [Z00];refine hKK _ _ ?_;clear hKK KK;(go_wp2_with fail);go_meet
      case rel=>exact ⟨w1.heap.size,E1,d1,E3,d3,E4,d4,rfl,HGE.out,HK.out.setAll rfl,Below.setCells' _ _ (HB4x.out) HGE.out,⟨Z19 HO1.out HK.out (by decide) _ _,HA1.out.mono (fun j hj=>⟨hj.1,by rw [Z0b];exact hj.2⟩)⟩,⟨Z19 HO3.out HK.out (by decide) _ _,HA3.out.mono (fun j hj=>⟨hj.1,by rw [Z0b];exact hj.2⟩)⟩,⟨Z19 HO4.out HK.out (by decide) _ _,HA4.out.mono (fun j hj=>⟨hj.1,by rw [Z0b];exact hj.2⟩)⟩⟩
  · refine Z0o rfl (fun K9 hK9=>?_)
    go_simp;have hb:Below W1.drew.heap.size W1.drew (W1.drew.alloc (.cells #[.int .i64 0,.int .i64 0,.slice none 0 0,.slice none 0 0,.slice none 0 0,.slice none 0 0] 121)):=(Zi2 _ _).alloc (Zi3 _) _;have HK:=hid (show Blk (W1.drew.alloc (.cells #[.int .i64 0,.int .i64 0,.slice none 0 0,.slice none 0 0,.slice none 0 0,.slice none 0 0] 121)) W1.heap.size 121 #[.int .i64 0,.int .i64 0,.slice none 0 0,.slice none 0 0,.slice none 0 0,.slice none 0 0] from Blk.new _ _ _);have HGE:=hid (show W1.heap.size≤W1.heap.size from ((Zi2 W1.heap.size W1).drew).size);have HBg:=hid (((Zi2 W1.heap.size W1).drew).trans (hb.mono ((Zi2 W1.heap.size W1).drew).size));clear hb;refine hK9 _ _ (fun _=>HBg.out) ?_;clear hK9 K9;(try go_frame);(try simp only [Z02,Zi5]);refine Z0s (fun K9 hK9=>?_);go_simp;refine (Zaq A1 c1 r.elems _ (R1.out.new_ (HB1.out.trans ((HBg.out).mono (by have:=HZ1.out;omega)))) (by omega)).mono ?_;rintro e w1 ⟨E1,d1,rfl,ho,hA,hb⟩;have HK:=hid (HK.out.new_ hb);have HO1:=hid ho;have HA1:=hid (hA.mono (fun j hj=>(⟨Zip (HBg.out).size hj.1,hj.2⟩:NewD W1.heap.size w1 j)));have HB1x:=hid ((HBg.out).trans (hb.mono (HBg.out).size));clear ho hA hb;refine hK9 _ _ (HB1x.out) ?_;clear hK9 K9;(try go_frame);refine Z0s (fun K9 hK9=>?_);go_simp;refine (Z7t A3 c3 r.aparts _ (R3.out.new_ (HB1.out.trans ((HB1x.out).mono (by have:=HZ1.out;omega)))) (by omega)).mono ?_;rintro e w3 ⟨E3,d3,rfl,ho,hA,hb⟩;have HO1:=hid (Z01 HO1.out hb);have HA1:=hid (HA1.out.mono (fun j hj=>NewD.up (Zi3 _) (hb).size j hj));have HK:=hid (HK.out.new_ hb);have HO3:=hid ho;have HA3:=hid (hA.mono (fun j hj=>(⟨Zip (HB1x.out).size hj.1,hj.2⟩:NewD W1.heap.size w3 j)));have HB3x:=hid ((HB1x.out).trans (hb.mono (HB1x.out).size));clear ho hA hb;refine hK9 _ _ (HB3x.out) ?_;clear hK9 K9;(try go_frame);refine Z0s (fun K9 hK9=>?_);go_simp;refine (Z8l A4 c4 r.news _ (R4.out.new_ (HB1.out.trans ((HB3x.out).mono (by have:=HZ1.out;omega)))) (by omega)).mono ?_;rintro e w4 ⟨E4,d4,rfl,ho,hA,hb⟩;have HO1:=hid (Z01 HO1.out hb)
    have HA1:=hid (HA1.out.mono (fun j hj=>NewD.up (Zi3 _) (hb).size j hj));have HO3:=hid (Z01 HO3.out hb);have HA3:=hid (HA3.out.mono (fun j hj=>NewD.up (Zi3 _) (hb).size j hj));have HK:=hid (HK.out.new_ hb);have HO4:=hid ho;have HA4:=hid (hA.mono (fun j hj=>(⟨Zip (HB3x.out).size hj.1,hj.2⟩:NewD W1.heap.size w4 j)));have HB4x:=hid ((HB3x.out).trans (hb.mono (HB3x.out).size));clear ho hA hb;refine hK9 _ _ (HB4x.out) ?_;clear hK9 K9;(try go_frame);(repeat ((first | (refine Z0n ?_ (Or.inl ⟨by rfl,fun w9=>?_⟩) ?_;rotate_left 1;go_simp;with_reducible rfl) | (refine Z0p ?_ (HB4x.out) (Or.inl ⟨by rfl,fun w9 hw9=>?_⟩) ?_;rotate_left 1;obtain ⟨hc9,hf9⟩:=Z0e hw9;go_simp;with_reducible rfl) | refine Z0n undef (Or.inr ⟨by rfl,rfl⟩) ?_ | refine Z0p undef (HB4x.out) (Or.inr ⟨by rfl,rfl⟩) ?_);go_frame));refine Z0s (fun K9 hK9=>?_);refine Z09 rfl 121 _ _ rfl W1.heap.size 0 #[.int .i64 r.num,.int .i64 r.level,.slice E1 r.elems.length d1,.slice none 0 0,.slice E3 r.aparts.length d3,.slice E4 r.news.length d4] rfl rfl (show _ from HK.out.there) (by kernel_rfl) (by kernel_rfl) ?_;refine hK9 _ _ (Below.setCells' _ _ (HB4x.out) HGE.out) ?_;clear hK9 K9;(try go_frame);refine Z0f ?_;simp only [Z00];refine hKK _ _ ?_;clear hKK KK;(go_wp2_with fail);go_meet
    case rel=>exact ⟨W1.heap.size,E1,d1,E3,d3,E4,d4,rfl,HGE.out,HK.out.setAll rfl,Below.setCells' _ _ (HB4x.out) HGE.out,⟨Z19 HO1.out HK.out (by decide) _ _,HA1.out.mono (fun j hj=>⟨hj.1,by rw [Z0b];exact hj.2⟩)⟩,⟨Z19 HO3.out HK.out (by decide) _ _,HA3.out.mono (fun j hj=>⟨hj.1,by rw [Z0b];exact hj.2⟩)⟩,⟨Z19 HO4.out HK.out (by decide) _ _,HA4.out.mono (fun j hj=>⟨hj.1,by rw [Z0b];exact hj.2⟩)⟩⟩
 case rest=>
  obtain ⟨g,E1,d1,E3,d3,E4,d4,rfl,hg,hG,hB,⟨o1,a1⟩,⟨o3,a3⟩,⟨o4,a4⟩⟩:=hcut;have t1:=RowR.of_rd (hs:=Z07.cells_length) (Z08 Z07.cells_length o1) (Zck o1 hG (by decide) a1);have t3:=RowR.of_rd (hs:=Z0j.cells_length) (Z08 Z0j.cells_length o3) (Zck o3 hG (by decide) a3);have t4:=RowR.of_rd (hs:=Sym.cells_length) (Z08 Sym.cells_length o4) (Zck o4 hG (by decide) a4);have h0:RH n g r W1 E1 d1 E3 d3 E4 d4 0 none 0 wc:=⟨hG,_,fun h=>h.2 rfl,fun j hj=>hj.1,hg,t1,t3,t4,OwnC.nil _ _ _ _,AIn.none_ _,hB⟩;have H0:=hid h0;clear t1 t3 t4 o1 o3 o4 a1 a3 a4 p0 p1 p2 p3 p4 p5 hG hB h0;go_wp2_with fail
  go_loopw [4] (fun i wr=>∃(k:Nat) (A:Option Addr) (c:Nat),i = .int .i64 k∧k≤r.holes.length∧RH n g r W1 E1 d1 E3 d3 E4 d4 k A c wr) (fun i wr=>r.holes.length - (intOf i).toNat)
  case atStart=>exact ⟨0,none,0,rfl,Nat.zero_le _,H0.out⟩
  case round=>
   obtain ⟨k,A,c,rfl,hk,hRH⟩:=hrel;obtain ⟨hG,C,hCg,hC,_,t1,t3,t4,hO,hA,hB⟩:=hRH;have hzr:=hB.size;have hX:=HX1.out.below hB (by have:=HZ1.out;omega);obtain ⟨m0,m1,m2,m3,m4,m5⟩:=hX.c6;obtain ⟨n0,n1,n2,n3,n4,n5⟩:=hG.c6;have hgl:=hG.lt;have hxl:=hX.lt;by_cases hlt:k<r.holes.length
   · have hrw:=(R2.out.new_ HB1.out).keep (D':=D) hB.size (fun j hj hl=>⟨hj,hB.block j hl⟩)
     obtain ⟨gh,oh,Ay1,cy1,Ay2,cy2,Ay3,cy3,Ay4,cy4,hA0,hDg,hgh,q0,q1,q2,q3,q4,q5,q6,q7,hy1,hy2,hy3,hy4⟩:=Zap hrw hlt;subst hA0;obtain ⟨y,hy⟩ : ∃y,y=r.holes[k]:=⟨_,rfl⟩;(have hys:SmH n y:=by rw [hy];exact HS.out _ (Zin hlt));rw [← hy] at q0 q1 q2 q3 q4 q5 q6 q7 hy1 hy2 hy3 hy4;(have b1:(0:Int)≤(k:Int):=by omega);(have b2:(k:Int)<(r.holes.length:Int):=by omega);have HY:=hid hy;have HY1:=hid hy1;have HY2:=hid hy2;have HY3:=hid hy3;have HY4:=hid (RowR.rd (hs:=Z0w.cells_length) hy4);have HYS:=hid hys;have HG:=hid hG;have HC:=hid hC;have HO:=hid hO
     have HST:=hid (show ∀W7 w8 A' c',Below wr.heap.size wr W7→Z4v (Z1j n) 134 (Plus C wr W7) W7 (.slice A (r.holes.take k).length c) (r.holes.take k ++ [y]) (.slice A' (k+1) c') w8→RH n g r W1 E1 d1 E3 d3 E4 d4 (k+1) A' c' (w8.setCell ⟨g,3,none⟩ (.slice A' (k+1) c')) from
      fun W7 w8 A' c' h7 ha=>RH.step hG hCg hC hg t1 t3 t4 hO hA hB (by omega) (by rw [hy];exact Z6v hlt) h7 ha)
     clear hy hrw hy1 hy2 hy3 hy4 hys hG hCg hC t1 t3 t4 hO hA hB hX;(go_wp2_with fail);refine Z05 (fun w9=>Below wr.heap.size wr w9) [(0,0),(1,1),(2,0),(3,1),(4,0),(5,0),(6,0),(7,1),(9,0),(10,1),(11,0),(12,0),(13,0),(14,1),(8,2),(15,2),(16,0),(17,2),(18,2),(19,0),(20,2)] (by kernel_rfl) (by kernel_rfl) (fun KK hKK=>?_);simp only [Z02,Zib,Zi5,Zi9,Zi8,Zi7,Zif];(repeat ((first | (refine Z0a ?_ (Or.inl ⟨by rfl,fun w9=>?_⟩) ?_;rotate_left 1;go_simp;with_reducible rfl) | (refine Z06 ?_ (((Zi2 _ _).drew)) (Or.inl ⟨by rfl,fun w9 hw9=>?_⟩) ?_;rotate_left 1;obtain ⟨hc9,hf9⟩:=Z0e hw9;go_simp;with_reducible rfl) | refine Z0a undef (Or.inr ⟨by rfl,rfl⟩) ?_ | refine Z06 undef (((Zi2 _ _).drew)) (Or.inr ⟨by rfl,rfl⟩) ?_);go_frame));refine Z1f (fun K9 hK9=>?_);go_simp;refine (Zb2 n y.cond Ay1 cy1 Ay2 cy2 Ay3 cy3 D _ (HY1.out.new_ ((Zi2 _ _).drew)) (HY2.out.new_ ((Zi2 _ _).drew)) (HY3.out.new_ ((Zi2 _ _).drew)) HYS.out.1).mono ?_;rintro e wa ⟨Az1,cz1,Az2,cz2,Az3,cz3,rfl,g1,g2,g3,hba⟩;have HBa:=hid (show Below wr.heap.size wr wa from ((Zi2 wr.heap.size wr).drew).trans hba);have G1:=hid g1;have G2:=hid g2;have G3:=hid g3;clear g1 g2 g3 hba;refine hK9 _ _ HBa.out ?_;clear hK9 K9;refine Z1f (fun K9 hK9=>?_);go_simp;refine (Zgz Ay4 cy4 y.binds _ (HY4.out.new_ HBa.out) (by have:=HYS.out.2;omega)).mono ?_;rintro e wb ⟨Az4,cz4,rfl,ho,hA4,hbb⟩;have HBb:=hid (HBa.out.trans (hbb.mono HBa.out.size));have G4:=hid ((RowR.of_rd (hs:=Z0w.cells_length) (Z08 Z0w.cells_length ho) hA4).weaken (fun j hj=>(⟨Zip HBa.out.size hj.1,hj.2⟩:NewD wr.heap.size wb j)));have G1:=hid (G1.out.newD hbb (Zi3 _));have G2:=hid (G2.out.newD hbb (Zi3 _));have G3:=hid (G3.out.newD hbb (Zi3 _));clear ho hA4 hbb;refine hK9 _ _ HBb.out ?_;clear hK9 K9;(repeat ((first | (refine Z0a ?_ (Or.inl ⟨by rfl,fun w9=>?_⟩) ?_;rotate_left 1;go_simp;with_reducible rfl) | (refine Z06 ?_ (HBb.out) (Or.inl ⟨by rfl,fun w9 hw9=>?_⟩) ?_;rotate_left 1;obtain ⟨hc9,hf9⟩:=Z0e hw9;go_simp;with_reducible rfl) | refine Z0a undef (Or.inr ⟨by rfl,rfl⟩) ?_ | refine Z06 undef (HBb.out) (Or.inr ⟨by rfl,rfl⟩) ?_);go_frame));refine Z1f (fun K9 hK9=>?_);go_simp;have HB7:=hid (HBb.out.alloc HBb.out.size (.cells #[.int .i64 y.cond.kind,.bool y.cond.goal,.string y.cond.id,.slice Az1 y.cond.attr.length cz1,.slice Az2 y.cond.value.length cz2,.bool y.cond.acc,.slice Az3 y.cond.conds.length cz3,.slice Az4 y.binds.length cz4] 134));refine hK9 _ _ HB7.out ?_;clear hK9 K9;refine Z2p (by kernel_rfl) (fun K9 hK9=>?_);have h9:Below wb.heap.size wb (wb.alloc (.cells #[.int .i64 y.cond.kind,.bool y.cond.goal,.string y.cond.id,.slice Az1 y.cond.attr.length cz1,.slice Az2 y.cond.value.length cz2,.bool y.cond.acc,.slice Az3 y.cond.conds.length cz3,.slice Az4 y.binds.length cz4] 134)):=(Zi2 _ _).alloc (Zi3 _) _;have up : ∀j,NewD wr.heap.size wb j→j<wb.heap.size→(Plus C wr (wb.alloc (.cells #[.int .i64 y.cond.kind,.bool y.cond.goal,.string y.cond.id,.slice Az1 y.cond.attr.length cz1,.slice Az2 y.cond.value.length cz2,.bool y.cond.acc,.slice Az3 y.cond.conds.length cz3,.slice Az4 y.binds.length cz4] 134))) j∧((wb.alloc (.cells #[.int .i64 y.cond.kind,.bool y.cond.goal,.string y.cond.id,.slice Az1 y.cond.attr.length cz1,.slice Az2 y.cond.value.length cz2,.bool y.cond.acc,.slice Az3 y.cond.conds.length cz3,.slice Az4 y.binds.length cz4] 134))).heap[j]? = wb.heap[j]?:=fun j hj hl=>⟨.inr ⟨hj.1,by simp;omega⟩,h9.block j hl⟩;have hrep7:=Zg5 (n:=n) (y:=y) (G1.out.keep h9.size up) (G2.out.keep h9.size up) (G3.out.keep h9.size up) (G4.out.keep h9.size up);have hown7:=HO.out.plus HB7.out
     have hcl : ∀j,Plus C wr (wb.alloc (.cells #[.int .i64 y.cond.kind,.bool y.cond.goal,.string y.cond.id,.slice Az1 y.cond.attr.length cz1,.slice Az2 y.cond.value.length cz2,.bool y.cond.acc,.slice Az3 y.cond.conds.length cz3,.slice Az4 y.binds.length cz4] 134)) j→j<((wb.alloc (.cells #[.int .i64 y.cond.kind,.bool y.cond.goal,.string y.cond.id,.slice Az1 y.cond.attr.length cz1,.slice Az2 y.cond.value.length cz2,.bool y.cond.acc,.slice Az3 y.cond.conds.length cz3,.slice Az4 y.binds.length cz4] 134))).heap.size:=fun j hj=>by
      rcases hj with hj | hj
      · have:=(HC.out j hj).2;have:=HB7.out.size;omega
      · exact hj.2
     (have h63:(r.holes.take k).length+1≤maxLen:=by rw [Z21 hk];unfold maxLen;omega);(have hby:((r.holes.take k).length+1)*136≤140737488355328:=by rw [Z21 hk];omega);(have hv:Value.slice A k c = .slice A (r.holes.take k).length c:=by rw [Z21 hk]);refine Z8b _ rfl _ _ 35 rfl 134 j0 _ 8 136 Tryz.underlying35 hj0 hy0 hyy1 hyy2 rfl rfl (by omega) (Plus C wr (wb.alloc (.cells #[.int .i64 y.cond.kind,.bool y.cond.goal,.string y.cond.id,.slice Az1 y.cond.attr.length cz1,.slice Az2 y.cond.value.length cz2,.bool y.cond.acc,.slice Az3 y.cond.conds.length cz3,.slice Az4 y.binds.length cz4] 134))) hcl (.slice A (r.holes.take k).length c) (r.holes.take k) hv hown7 ⟨wb.heap.size,0,none⟩ 1 y [.int .i64 y.cond.kind,.bool y.cond.goal,.string y.cond.id,.slice Az1 y.cond.attr.length cz1,.slice Az2 y.cond.value.length cz2,.bool y.cond.acc,.slice Az3 y.cond.conds.length cz3,.slice Az4 y.binds.length cz4] rfl (Zii (heap_alloc_new _ _)) (by intro u hu;simp only [Zij,Zio,or_false] at hu;rcases hu with rfl | rfl | rfl | rfl | rfl | rfl | rfl | rfl<;>rfl) hrep7 h63 hby ?_;intro v' w8 hap;obtain ⟨A',c',hv',-,-,-⟩:=hap.1.form;(have hlen1:(r.holes.take k ++ [y]).length=k+1:=by rw [Zim,Z21 hk];rfl);rw [hlen1] at hv';subst hv';have hne:=Z04 (Classical.choose_spec HO.out).1 HG.out (by decide);have hG8:=(HG.out.new_ HB7.out).grown hap.2.1 hne;have HAP:=hid hap;have u3:=(hG8.cell 3).trans rfl;have f3:=hG8.frozen 3;have hgl8:=hG8.lt;clear h9 up hrep7 hown7 hcl h63 hby hv hlen1 hap hne hG8;refine hK9 _ _ ?_;clear hK9 K9;(repeat ((first | (refine Z0a ?_ (Or.inl ⟨by rfl,fun w9=>?_⟩) ?_;rotate_left 1;go_simp;with_reducible rfl) | (refine Z06 ?_ (HB7.out) (Or.inl ⟨by rfl,fun w9 hw9=>?_⟩) ?_;rotate_left 1;obtain ⟨hc9,hf9⟩:=Z0e hw9;go_simp;with_reducible rfl) | refine Z0a undef (Or.inr ⟨by rfl,rfl⟩) ?_ | refine Z06 undef (HB7.out) (Or.inr ⟨by rfl,rfl⟩) ?_);go_frame));refine Z2p (by kernel_rfl) (fun K9 hK9=>?_);go_simp;refine hK9 _ _ ?_;clear hK9 K9;refine Z0z ?_;simp only [Z00];refine hKK _ _ ?_;clear hKK KK;(go_wp2_with fail);go_roundw
     case rel=>exact ⟨k+1,A',c',by go_num,by omega,HST.out _ _ _ _ HB7.out HAP.out⟩
     case measure=>simp [intOf];omega
   · obtain rfl:k=r.holes.length:=by omega
     have hTe:=RH.fin rfl hC t1 t3 t4 hO hA;have hR:=HR1.out.below hB (by have:=HZ1.out;omega);(have hxn:w.heap.size+1≠g:=by have:=HZ1.out;omega);have HB9:=hid (HB1.out.trans (hB.mono (by have:=HZ1.out;omega)));have HT9:=hid (show wr.there (w.heap.size+1) 0 (#[.int .i64 r.num,.int .i64 r.level,.slice E1 r.elems.length d1,.slice A r.holes.length c,.slice E3 r.aparts.length d3,.slice E4 r.news.length d4]:Array Value).size from hR.there);have HRG:=hid (show wr.rangeAt g 0 [.int .i64 r.num,.int .i64 r.level,.slice E1 r.elems.length d1,.slice A r.holes.length c,.slice E3 r.aparts.length d3,.slice E4 r.news.length d4] from by have:=hG.range;exact this);have hrl:=hR.lt;have l9:=hTe.keep (w':=wr.setCells (w.heap.size+1) 0 [.int .i64 r.num,.int .i64 r.level,.slice E1 r.elems.length d1,.slice A r.holes.length c,.slice E3 r.aparts.length d3,.slice E4 r.news.length d4]) (D':=NewD w.heap.size (wr.setCells (w.heap.size+1) 0 [.int .i64 r.num,.int .i64 r.level,.slice E1 r.elems.length d1,.slice A r.holes.length c,.slice E3 r.aparts.length d3,.slice E4 r.news.length d4])) (by rw [Z0b];omega) (fun j hj hl=>⟨⟨by have:=hj.1;have:=HZ1.out;omega,by rw [Z0b];omega⟩,Z2u _ _ _ _ _ (by have:=hj.1;have:=HZ1.out;omega)⟩);have L9:=hid l9;clear hTe hR l9 hG hCg hC t1 t3 t4 hO hA hB hX;(go_upto_region 6 with fail);(go_wp2_with (first | (with_reducible refine wpList_load_mid rfl 121 _ rfl g 0 rfl _ _ HRG.out Tryz.underlying121 rfl (by kernel_rfl) ?_) | (with_reducible refine wpList_store_mid rfl 121 _ _ rfl (w.heap.size+1) 0 #[.int .i64 r.num,.int .i64 r.level,.slice E1 r.elems.length d1,.slice A r.holes.length c,.slice E3 r.aparts.length d3,.slice E4 r.news.length d4] rfl rfl HT9.out (by kernel_rfl) (by kernel_rfl) ?_)));(try simp only [Exit.inBlock,Exit.then]);have hBe:Below w.heap.size w (wr.setCells (w.heap.size+1) 0 [.int .i64 r.num,.int .i64 r.level,.slice E1 r.elems.length d1,.slice A r.holes.length c,.slice E3 r.aparts.length d3,.slice E4 r.news.length d4]):=Below.setCells' _ _ HB9.out (by omega);refine bodyPost_ret (v:=.agg #[.int .i64 r.num,.int .i64 r.level,.slice E1 r.elems.length d1,.slice A r.holes.length c,.slice E3 r.aparts.length d3,.slice E4 r.news.length d4]) ?_ rfl ⟨E1,d1,A,c,E3,d3,E4,d4,rfl,L9.out,hBe⟩;exact Z2f (t:=2) (T:=121) rfl _ _ (w.heap.size+1) [.int .i64 r.num,.int .i64 r.level,.slice E1 r.elems.length d1,.slice A r.holes.length c,.slice E3 r.aparts.length d3,.slice E4 r.news.length d4] _ rfl (Zi6 wr (w.heap.size+1) 0 [.int .i64 r.num,.int .i64 r.level,.slice E1 r.elems.length d1,.slice A r.holes.length c,.slice E3 r.aparts.length d3,.slice E4 r.news.length d4] HT9.out) Tryz.underlying121 rfl (by kernel_rfl)
end
section
open Go.RowKit Go.Shelf
theorem Zba {most n d:Nat} {l:List Z0m} (h:Z3j most n d l≤most):l.length≤most∧∀c∈l,Z3j most (n - 1) (d+1) c.conds≤most:=by
 cases n with
 | zero=>
   unfold Z3j at h
   split at h
   · omega
   · split at h
     · rename_i hl;subst hl;simp
     · omega
 | succ n=>
   unfold Z3j at h
   split at h
   · omega
   · have hg:goK most (fun c=>Z3j most n (d+1) c.conds) l 0≤most:=by omega
     obtain ⟨h1,h2⟩:=Zd2 most _ l 0 hg
     have h3 : ∀l:List Z0m,l.length≤(l.map fun c=>1+Z3j most n (d+1) c.conds).sum:=fun l=>by
      induction l with
      | nil=>simp
      | cons c l ih=>simp only [List.map_cons,List.sum_cons,Zj1];omega
     have:=h3 l;exact ⟨by omega,h2⟩
theorem Zd3 {c:Z0m} (h:Z3c c=false):SmT c.attr∧SmT c.value:=by
 unfold Z3c at h;simp only [Bool.or_eq_false_iff,decide_eq_false_iff_not] at h;obtain ⟨_,h2,h3,h4,h5⟩:=h
 have f : ∀l:List Z0i,l.any Z30=false→∀t∈l,t.list.length≤1000:=fun l hl t ht=>by
  have:=List.any_eq_false.1 hl t ht;unfold Z30 at this;simp at this;omega
 exact ⟨⟨by omega,f _ h4⟩,⟨by omega,f _ h5⟩⟩
theorem Zgm : ∀(n d:Nat) (l:List Z0m),Z3j 16 n d l≤16→Z3z n l=false→∀c∈l,SmC n c
 | 0,_,_,_,_,_,_=>trivial
 | n+1,d,l,h1,h2,c,hc=>by
   rw [Z6i] at h2;have h3:=List.any_eq_false.1 h2 c hc;simp only [Zjg,not_or,Bool.not_eq_true] at h3;have h4:=(Zba h1).2 c hc;obtain ⟨g1,g2⟩:=Zd3 h3.1;exact ⟨g1,g2,by have:=(Zba h4).1;omega,Zgm n (d+1) c.conds h4 h3.2⟩
theorem Ze9 {n:Nat} {D:Nat→Prop} {W:World} {g:Nat} {y:Z0m} {A1 A2 A3:Option Addr} {c1 c2 c3:Nat} (hb:Blk W g 62 #[.int .i64 y.kind,.bool y.goal,.string y.id,.slice A1 y.attr.length c1,.slice A2 y.value.length c2,.bool y.acc,.slice A3 y.conds.length c3]) (h1:RowR Z0d D W A1 c1 y.attr) (h2:RowR Z0d D W A2 c2 y.value) (h3:RowR (Z0g n) D W A3 c3 y.conds) :
 RowR (Z0g (n+1)) (fun j=>D j∨j=g) W (some ⟨g,0,none⟩) 1 [y]:=by
 refine ⟨Zi3 _,by unfold maxLen;omega,fun _=>⟨g,0,rfl,.inr rfl,hb.lt,fun k hk=>?_⟩⟩;(obtain rfl:k=0:=by simpa using hk);refine ⟨_,Zb9 (h1.weaken fun _ h=>.inl h) (h2.weaken fun _ h=>.inl h) (h3.weaken fun _ h=>.inl h),fun j u hu=>?_⟩;simp only [Nat.zero_mul,Nat.add_zero,Ziu];rw [hb.cell];simpa using hu
theorem Zea {W:World} {g:Nat} {y:Elem} (hb:Blk W g 55 #[.int .i64 y.id.kind,.string y.id.text,.int .i64 y.id.n,.int .i64 y.attr.kind,.string y.attr.text,.int .i64 y.attr.n,.int .i64 y.value.kind,.string y.value.text,.int .i64 y.value.n,.bool y.acc,.bool y.goal,.int .i64 y.tag]):RowR Z27 (· < W.heap.size) W (some ⟨g,0,none⟩) 1 [y]:=by
 refine ⟨Zi3 _,by unfold maxLen;omega,fun _=>⟨g,0,rfl,hb.lt,hb.lt,fun k hk=>?_⟩⟩;(obtain rfl:k=0:=by simpa using hk);refine ⟨_,rfl,fun j u hu=>?_⟩;simp only [Nat.zero_mul,Nat.add_zero,Ziu];rw [hb.cell];simpa [Elem.cells] using hu
theorem Zfm {D:Nat→Prop} (A:Option Addr) (c:Nat) (l:List Elem) (most:Int) (w:World) (h:RowR Z27 D w A c l) :
 Calls Tryz.prog 73 #[.slice A l.length c,.int .i64 most] w fun e w'=>∃b,e = .returned (.bool b)∧Below w.heap.size w w':=by
 have HL:=hid h;have hlc:=h.cap;clear h;by_cases hm:most<(l.length:Int)
 · have d0:decide (most<(l.length:Int))=true:=by simpa using hm
   clear hm;go_enter Tryz.func73,Tryz.ntmps73;(go_wp2_with fail);go_ret;exact ⟨false,rfl,Zi2 _ _⟩
 · have d0:decide (most<(l.length:Int))=false:=by simpa using hm
   clear hm;go_enter Tryz.func73,Tryz.ntmps73;go_wp2_with fail
   go_loopw [5] (fun s wr=>∃i:Nat,s = .int .i64 i∧i≤l.length∧Below w.heap.size w wr) (fun s wr=>l.length - (intOf s).toNat)
   case atStart=>exact ⟨0,rfl,Nat.zero_le _,Zi2 _ _⟩
   case round=>
    obtain ⟨i,rfl,hi,hB⟩:=hrel;have HB:=hid hB;clear hB;by_cases hlt:i<l.length
    · obtain ⟨y,hy⟩ : ∃y,y=l[i]:=⟨_,rfl⟩
      obtain ⟨g,off,hA0,_,hg,q0,q1,q2,q3,q4,q5,q6,q7,q8,q9,q10,q11⟩:=Zgv (HL.out.new_ HB.out) hlt;subst hA0;rw [← hy] at q0 q1 q2 q3 q4 q5 q6 q7 q8 q9 q10 q11;(have b1:(0:Int)≤(i:Int):=by omega);(have b2:(i:Int)<(l.length:Int):=by omega);clear hy
      cases d1:decide ((100:Int)<(y.id.text.size:Int)) with
      | true=>
        (go_wp2_with fail);go_ret;exact ⟨false,rfl,HB.out⟩
      | false=>
        cases d2:decide ((100:Int)<(y.attr.text.size:Int)) with
        | true=>
          (go_wp2_with fail);go_ret;exact ⟨false,rfl,HB.out⟩
        | false=>
          cases d3:decide ((100:Int)<(y.value.text.size:Int)) with
          | true=>
            (go_wp2_with fail);go_ret;exact ⟨false,rfl,HB.out⟩
          | false=>
            (go_wp2_with fail);go_roundw
            case rel=>exact ⟨i+1,by go_num,by omega,HB.out⟩
            case measure=>simp [intOf]<;>omega
    · obtain rfl:i=l.length:=by omega
      (go_wp2_with fail);go_ret;exact ⟨true,rfl,HB.out⟩
theorem Zev {D:Nat→Prop} (A:Option Addr) (c:Nat) (l:List Elem) (most:Int) (w:World) (h:RowR Z27 D w A c l) :
 Calls Tryz.prog 37 #[.slice A l.length c,.int .i64 most] w fun e w'=>∃b,e = .returned (.bool b)∧Below w.heap.size w w':=by
 have HL:=hid h;clear h;go_enter Tryz.func37,Tryz.ntmps37;(go_wp2_with fail);refine (Zfm A c l most _ HL.out).mono ?_;rintro e w' ⟨b,rfl,hB⟩;have HB:=hid hB;clear hB;(go_wp2_with fail);go_ret;exact ⟨b,rfl,HB.out⟩
def Zex (n:Nat) (l:List Z36) (w:World) (e:Ending) (w':World):Prop:=∃b,e = .returned (.bool b)∧Below w.heap.size w w'∧(b=false→l.length≤20∧∀r∈l,SmR n r∧r.elems.length≤20)
theorem Zbv {D:Nat→Prop} (n:Nat) (A:Option Addr) (c:Nat) (l:List Z36) (w:World) (h:RowR (Z29 n) D w A c l) :
 Calls Tryz.prog 58 #[.slice A l.length c,.int .i64 1] w (Zex n l w):=by
 have HL:=hid h;have hlc:=h.cap;clear h;by_cases hm:(1:Int)<(l.length:Int)
 · have d0:decide ((1:Int)<(l.length:Int))=true:=by simpa using hm
   clear hm;go_enter Tryz.func58,Tryz.ntmps58;(go_wp2_with fail);go_ret;exact ⟨true,rfl,Zi2 _ _,fun h=>by cases h⟩
 · have d0:decide ((1:Int)<(l.length:Int))=false:=by simpa using hm
   have HM:=hid (show l.length≤20 by omega);clear hm;go_enter Tryz.func58,Tryz.ntmps58;go_wp2_with fail
   go_loopw [5] (fun s wr=>∃i:Nat,s = .int .i64 i∧i≤l.length∧(∀j,(h:j<l.length)→j<i→SmR n l[j]∧l[j].elems.length≤20)∧Below w.heap.size w wr) (fun s wr=>l.length - (intOf s).toNat)
   case atStart=>exact ⟨0,rfl,Nat.zero_le _,fun j _ h=>absurd h (by omega),Zi2 _ _⟩
   case round=>
    obtain ⟨i,rfl,hi,hal,hB⟩:=hrel;have HB:=hid hB;have HAL:=hid hal;clear hB hal;by_cases hlt:i<l.length
    · obtain ⟨r,hr⟩ : ∃r,r=l[i]:=⟨_,rfl⟩
      obtain ⟨g,off,A1,c1,A2,c2,A3,c3,A4,c4,hA0,_,hg,q0,q1,q2,q3,q4,q5,r1,r2,r3,r4⟩:=Zbn (HL.out.new_ HB.out) hlt;subst hA0;rw [← hr] at q0 q1 q2 q3 q4 q5 r1 r2 r3 r4;(have b1:(0:Int)≤(i:Int):=by omega);(have b2:(i:Int)<(l.length:Int):=by omega);have HR:=hid hr;have R1:=hid r1;have R2:=hid r2;have k1:=r1.cap;have k2:=r2.cap;have k3:=r3.cap;have k4:=r4.cap;clear hr r1 r2 r3 r4;(go_upto_region 7 with fail);obtain ⟨W6,hW6⟩ : ∃W6,W6=wr.alloc (.cells #[.int .i64 r.num,.int .i64 r.level,.slice A1 r.elems.length c1,.slice A2 r.holes.length c2,.slice A3 r.aparts.length c3,.slice A4 r.news.length c4] 121):=⟨_,rfl⟩;(have hb6:Below wr.heap.size wr W6:=by rw [hW6];exact (Zi2 _ _).alloc (Zi3 _) _);(have hx6:Blk W6 wr.heap.size 121 #[.int .i64 r.num,.int .i64 r.level,.slice A1 r.elems.length c1,.slice A2 r.holes.length c2,.slice A3 r.aparts.length c3,.slice A4 r.news.length c4]:=by rw [hW6];exact Blk.new _ _ _);rw [← hW6];clear hW6 q0 q1 q2 q3 q4 q5;obtain ⟨x0,x1,x2,x3,x4,x5⟩:=hx6.c6;have hxl6:=hx6.lt;have HB6:=hid (HB.out.trans (hb6.mono HB.out.size));have HX6:=hid hx6;have R1:=hid (R1.out.new_ hb6);have R2:=hid (R2.out.new_ hb6);clear hb6 hx6;generalize wr.heap.size=wf6 at HX6 x0 x1 x2 x3 x4 x5 hxl6 ⊢
      cases d1:decide ((20:Int)<(r.elems.length:Int)) with
      | true=>
        (go_wp2_with fail);go_ret;exact ⟨true,rfl,HB6.out,fun h=>by cases h⟩
      | false=>
      cases d2:decide ((8:Int)<(r.holes.length:Int)) with
      | true=>
        (go_wp2_with fail);go_ret;exact ⟨true,rfl,HB6.out,fun h=>by cases h⟩
      | false=>
      cases d3:decide ((12:Int)<(r.aparts.length:Int)) with
      | true=>
        (go_wp2_with fail);go_ret;exact ⟨true,rfl,HB6.out,fun h=>by cases h⟩
      | false=>
      cases d4:decide ((20:Int)<(r.news.length:Int)) with
      | true=>
        (go_wp2_with fail);go_ret;exact ⟨true,rfl,HB6.out,fun h=>by cases h⟩
      | false=>
        have HD:=hid (show r.elems.length≤20∧r.holes.length≤8∧r.aparts.length≤12∧r.news.length≤20 by simp at d1 d2 d3 d4;omega);(go_wp2_with fail);clear x0 x1 x2 x3 x4 x5 hxl6 d1 d2 d3 d4
        go_loopw [7] (fun s wq=>∃k:Nat,s = .int .i64 k∧k≤r.elems.length∧Below W6.heap.size W6 wq) (fun s wq=>r.elems.length - (intOf s).toNat)
        case atStart=>exact ⟨0,rfl,Nat.zero_le _,Zi2 _ _⟩
        case round=>
         obtain ⟨k,rfl,hk,hB7⟩:=hrel;have hx7:=HX6.out.new_ hB7;obtain ⟨x0,x1,x2,x3,x4,x5⟩:=hx7.c6;have hxl7:=hx7.lt;have HB7:=hid hB7;clear hB7 hx7;by_cases hlt2:k<r.elems.length
         · obtain ⟨y,hy⟩ : ∃y,y=r.elems[k]:=⟨_,rfl⟩
           obtain ⟨ge,oe,hA0,_,hge,q0,q1,q2,q3,q4,q5,q6,q7,q8,q9,q10,q11,q12,q13⟩:=Zcl (R1.out.new_ HB7.out) hlt2;subst hA0;rw [← hy] at q0 q1 q2 q3 q4 q5 q6 q7 q8 q9 q10 q11 q12 q13;(have b3:(0:Int)≤(k:Int):=by omega);(have b4:(k:Int)<(r.elems.length:Int):=by omega);clear hy;(go_wp2_with fail);have hb8:Below wr.heap.size wr (wr.alloc (.cells #[.int .i64 y.elem.id.kind,.string y.elem.id.text,.int .i64 y.elem.id.n,.int .i64 y.elem.attr.kind,.string y.elem.attr.text,.int .i64 y.elem.attr.n,.int .i64 y.elem.value.kind,.string y.elem.value.text,.int .i64 y.elem.value.n,.bool y.elem.acc,.bool y.elem.goal,.int .i64 y.elem.tag] 55)):=(Zi2 _ _).alloc (Zi3 _) _;refine (Zev (some ⟨wr.heap.size,0,none⟩) 1 [y.elem] 1 _ (Zea (Blk.new _ _ _))).mono ?_;rintro e w9 ⟨b,rfl,hB9⟩;have hz7:=HB7.out.size;have hB9':=(HB7.out.trans (hb8.mono hz7)).trans (hB9.mono (by have:=hb8.size;omega));have HB9:=hid hB9';clear hb8 hB9 hB9' q0 q1 q2 q3 q4 q5 q6 q7 q8 q9 q10 q11 q12 q13 x0 x1 x2 x3 x4 x5 hxl7
           cases b with
           | false=>
             (go_wp2_with fail);go_ret;exact ⟨true,rfl,HB6.out.trans (HB9.out.mono HB6.out.size),fun h=>by cases h⟩
           | true=>
             (go_wp2_with fail);go_roundw
             case rel=>exact ⟨k+1,by go_num,by omega,HB9.out⟩
             case measure=>simp [intOf]<;>omega
         · obtain rfl:k=r.elems.length:=by omega
           obtain ⟨W8,hW8⟩ : ∃W8,W8=wr:=⟨_,rfl⟩;subst hW8;(go_wp2_with fail);clear x0 x1 x2 x3 x4 x5 hxl7
           go_loopw [8] (fun s wq=>∃k:Nat,s = .int .i64 k∧k≤r.holes.length∧(∀j,(h:j<r.holes.length)→j<k→SmH n r.holes[j])∧Below W6.heap.size W6 wq) (fun s wq=>r.holes.length - (intOf s).toNat)
           case atStart=>exact ⟨0,rfl,Nat.zero_le _,fun j _ h=>absurd h (by omega),HB7.out⟩
           case round=>
            obtain ⟨k,rfl,hk2,hal,hB8⟩:=hrel;have hx8:=HX6.out.new_ hB8;obtain ⟨x0,x1,x2,x3,x4,x5⟩:=hx8.c6;have hxl8:=hx8.lt;have HB8:=hid hB8;have HAL2:=hid hal;have HX8:=hid hx8;clear hB8 hx8 hal;by_cases hlt3:k<r.holes.length
            · obtain ⟨y,hy⟩ : ∃y,y=r.holes[k]:=⟨_,rfl⟩
              obtain ⟨ge,oe,Ay1,cy1,Ay2,cy2,Ay3,cy3,Ay4,cy4,hA0,_,hge,q0,q1,q2,q3,q4,q5,q6,q7,y1,y2,y3,y4⟩:=Zap (R2.out.new_ HB8.out) hlt3;subst hA0;rw [← hy] at q0 q1 q2 q3 q4 q5 q6 q7 y1 y2 y3 y4;(have b3:(0:Int)≤(k:Int):=by omega);(have b4:(k:Int)<(r.holes.length:Int):=by omega);have kc4:=y4.cap;have HY:=hid hy;have Y1:=hid y1;have Y2:=hid y2;have Y3:=hid y3;clear hy y1 y2 y3 y4;(go_upto_region 18 with fail);obtain ⟨W9,hW9⟩ : ∃W9,W9=wr.alloc (.cells #[.int .i64 y.cond.kind,.bool y.cond.goal,.string y.cond.id,.slice Ay1 y.cond.attr.length cy1,.slice Ay2 y.cond.value.length cy2,.bool y.cond.acc,.slice Ay3 y.cond.conds.length cy3] 62):=⟨_,rfl⟩;(have hb9:Below wr.heap.size wr W9:=by rw [hW9];exact (Zi2 _ _).alloc (Zi3 _) _);(have hx9:Blk W9 wr.heap.size 62 #[.int .i64 y.cond.kind,.bool y.cond.goal,.string y.cond.id,.slice Ay1 y.cond.attr.length cy1,.slice Ay2 y.cond.value.length cy2,.bool y.cond.acc,.slice Ay3 y.cond.conds.length cy3]:=by rw [hW9];exact Blk.new _ _ _);rw [← hW9];clear hW9;have hrow:=Ze9 hx9 (Y1.out.new_ hb9) (Y2.out.new_ hb9) (Y3.out.new_ hb9);have HROW:=hid hrow;have hz8:=HB8.out.size;have HB9:=hid (HB8.out.trans (hb9.mono hz8));have hb9c:=hb9;have x3':=(hb9.cell (p:=⟨wf6,3,none⟩) hxl8).trans x3;have q7':=(hb9.cell (p:=⟨ge,oe+k*8+7,none⟩) hge).trans q7;(have hxl9:wf6<W9.heap.size:=by have:=hb9.size;omega);(have hge9:ge<W9.heap.size:=by have:=hb9.size;omega);clear hrow hx9 hb9c x0 x1 x2 x3 x4 x5 q0 q1 q2 q3 q4 q5 q6 q7;have hcs:Calls Tryz.prog 91 #[.slice (some ⟨wr.heap.size,0,none⟩) 1 1,.int .i64 16,.int .i64 0] W9 _:=Zh9 16 (by decide) (n+1) _ _ _ 0 [y.cond] W9 HROW.out (by decide);obtain ⟨s,hs⟩ : ∃s,s=Z3j 16 (n+1) 0 [y.cond]:=⟨_,rfl⟩;rw [← hs] at hcs;have HS:=hid hs;have HCS:=hid hcs;clear hs hcs hb9
              cases d5:decide ((16:Int)<(s:Int)) with
              | true=>
                (go_wp2_with fail);refine HCS.out.mono ?_;rintro e w10 ⟨rfl,rfl⟩;(go_wp2_with fail);go_ret;exact ⟨true,rfl,HB6.out.trans (HB9.out.mono HB6.out.size),fun h=>by cases h⟩
              | false=>
                (go_wp2_with fail);refine HCS.out.mono ?_;rintro e w10 ⟨rfl,rfl⟩;(go_wp2_with fail);refine (Z7u (n+1) _ _ _ [y.cond] W9 HROW.out).mono ?_;rintro e w11 ⟨rfl,hB11⟩;obtain ⟨hc,hhc⟩ : ∃hc,hc=Z3z (n+1) [y.cond]:=⟨_,rfl⟩;rw [← hhc];have HHC:=hid hhc;have x3'':=(hB11.cell (p:=⟨wf6,3,none⟩) hxl9).trans x3';have q7'':=(hB11.cell (p:=⟨ge,oe+k*8+7,none⟩) hge9).trans q7';have hz9:=HB9.out.size;(have hxl11:wf6<w11.heap.size:=by have:=hB11.size;omega);(have hge11:ge<w11.heap.size:=by have:=hB11.size;omega);have HB11:=hid (HB9.out.trans (hB11.mono hz9));clear hhc hB11 x3' q7'
                cases hc with
                | true=>
                  (go_wp2_with fail);go_ret;exact ⟨true,rfl,HB6.out.trans (HB11.out.mono HB6.out.size),fun h=>by cases h⟩
                | false=>
                  cases d6:decide ((20:Int)<(y.binds.length:Int)) with
                  | true=>
                    (go_wp2_with fail);go_ret;exact ⟨true,rfl,HB6.out.trans (HB11.out.mono HB6.out.size),fun h=>by cases h⟩
                  | false=>
                    have HSM:=hid (show SmH n y from ⟨Zgm (n+1) 0 [y.cond] (by rw [← HS.out];simp at d5;omega) HHC.out.symm y.cond (by simp),by simp at d6;omega⟩);(go_wp2_with fail);go_roundw
                    case rel=>
                     refine ⟨k+1,by go_num,by omega,fun j h hj=>?_,HB11.out⟩;rcases Nat.lt_or_ge j k with h2 | h2
                     · exact HAL2.out j h h2
                     · obtain rfl:j=k:=by omega
                       rw [← HY.out];exact HSM.out
                    case measure=>simp [intOf]<;>omega
            · obtain rfl:k=r.holes.length:=by omega
              (go_wp2_with fail);go_roundw
              case rel=>
               refine ⟨i+1,by go_num,by omega,fun j h hj=>?_,HB6.out.trans (HB8.out.mono HB6.out.size)⟩;rcases Nat.lt_or_ge j i with h2 | h2
               · exact HAL.out j h h2
               · obtain rfl:j=i:=by omega
                 rw [← HR.out];have hd:=HD.out
                 exact ⟨⟨by omega,by omega,by omega,by omega,fun x hx=>by
                  obtain ⟨m,hm,rfl⟩:=List.getElem_of_mem hx
                  exact HAL2.out m hm hm⟩,hd.1⟩
              case measure=>simp [intOf]<;>omega
    · obtain rfl:i=l.length:=by omega
      (go_wp2_with fail);go_ret;refine ⟨false,rfl,HB.out,fun _=>⟨HM.out,fun x hx=>?_⟩⟩;obtain ⟨m,hm,rfl⟩:=List.getElem_of_mem hx;exact HAL.out m hm hm
end
section
open Go.RowKit Go.Shelf
attribute [local go_sem] Oper.semAt_some
set_option linter.unusedSimpArgs false
theorem Zcv (s:Sym) (w:World):Calls Tryz.prog 94 #[.agg #[.int .i64 s.kind,.string s.text,.int .i64 s.n]] w fun e w'=>∃b,e = .returned (.bool b)∧Below w.heap.size w w':=by
 go_enter Tryz.func94,Tryz.ntmps94;(go_upto_region 1 with fail);obtain ⟨w1,hw1⟩ : ∃w1,w1=(w.alloc (.cells #[.int .i64 s.kind,.string s.text,.int .i64 s.n] 23)):=⟨_,rfl⟩;rw [← hw1];have HB:=hid (show Below w.heap.size w w1 by rw [hw1];exact (by repeat (first | exact Zi2 _ _ | refine Below.drew ?_ | refine Below.al ?_ _ | refine Below.sc ?_ _)));have Ks:=hid (show Blk w1 (w.heap.size) 23 #[.int .i64 s.kind,.string s.text,.int .i64 s.n] by rw [hw1];exact (Blk.new w 23 #[.int .i64 s.kind,.string s.text,.int .i64 s.n]));clear hw1;obtain ⟨s0,s1,s2⟩:=Ks.out.c3;have sz:=Ks.out.lt;(go_wp2_with fail);(with_reducible refine (Z6t s _).mono ?_);rintro e w2 ⟨rfl,hb⟩;have hbs:=Below.trans (show Below w1.heap.size w1 _ from (by (repeat (first | exact Zi2 _ _ | refine Below.drew ?_ | refine Below.al ?_ _ | refine Below.sc ?_ _)))) (hb.mono (by simp<;>omega));have Ks:=hid (Ks.out.new_ hbs);have HB:=hid (HB.out.trans (hbs.mono HB.out.size));have hsz2:=hbs.size;clear s0 s1 s2 sz hb hbs;obtain ⟨s0,s1,s2⟩:=Ks.out.c3;have sz:=Ks.out.lt;cases hv:Z1p s
 · skip
   (go_wp2_with fail);go_ret;exact ⟨_,rfl,by (repeat (first | exact Zi2 _ _ | exact HB.out | refine Below.drew ?_ | refine Below.al ?_ _ | refine Below.sc ?_ _))⟩
 · skip
   (go_wp2_with fail);go_ret;exact ⟨_,rfl,by (repeat (first | exact Zi2 _ _ | exact HB.out | refine Below.drew ?_ | refine Below.al ?_ _ | refine Below.sc ?_ _))⟩
theorem Zbw:(Tryz.prog.info? 57).map (fun i=>(i.zero,i.size,i.bytes))=some (some (.agg #[.int .i64 0,.string ⟨#[]⟩,.int .i64 0,.int .i64 0,.string ⟨#[]⟩,.int .i64 0,.int .i64 0,.string ⟨#[]⟩,.int .i64 0,.bool false,.bool false,.int .i64 0,.int .i64 0,.int .i64 0]),14,128):=by kernel_rfl
theorem Zby (l:List Z07) : ∀u∈l.flatMap Z07.cells,u.oneCell'=true:=by
 intro u hu;obtain ⟨b,_,hb⟩:=List.mem_flatMap.1 hu;simp only [Z07.cells,Zij,Zio,or_false] at hb;rcases hb with rfl | rfl | rfl | rfl | rfl | rfl | rfl | rfl | rfl | rfl | rfl | rfl | rfl | rfl<;>rfl
structure RV (X:World) (m:List Z07) (A:Option Addr) (c:Nat) (w:World):Prop where
 own:w.ownsRow 0 57 14 (.slice A m.length c) m.length (m.flatMap Z07.cells)
 ain:AIn A (X.heap.size≤·)
 bel:Below X.heap.size X w
theorem RV.new_ {X w w':World} {m:List Z07} {A:Option Addr} {c:Nat} (h:RV X m A c w) (hb:Below w.heap.size w w'):RV X m A c w':=⟨Z01 h.own hb,h.ain,h.bel.trans (hb.mono h.bel.size)⟩
theorem Z88 {P:Program} {fn:Func} {t s:Tmp} {T T2:TypeId} (h:fn.results = #[.cell t T,.cell s T2]) (tmps:Array Value) (w:World) (g g2:Nat) (cs cs2:List Value) (d d2:TypeDesc) (ht:tmps.getD t undef = .pointer (some ⟨g,0,none⟩)) (hs:tmps.getD s undef = .pointer (some ⟨g2,0,none⟩)) (hc:w.rangeAt g 0 cs) (hc2:w.rangeAt g2 0 cs2)
 (hu:P.underlying T=some d) (hd:d.isRow=true) (hi:(P.info? T).map (·.size)=some cs.length) (hu2:P.underlying T2=some d2) (hd2:d2.isRow=true) (hi2:(P.info? T2).map (·.size)=some cs2.length):(results fn tmps).run P w = .ok (.tuple #[.agg cs.toArray,.agg cs2.toArray]) w:=by
 have hl:=run_loadVar_mid (P:=P) w g 0 T cs d hc hu hd hi;have hl2:=run_loadVar_mid (P:=P) w g2 0 T2 cs2 d2 hc2 hu2 hd2 hi2;(have ht':tmps[t]?.getD undef = .pointer (some ⟨g,0,none⟩):=by simpa using ht);(have hs':tmps[s]?.getD undef = .pointer (some ⟨g2,0,none⟩):=by simpa using hs);simp [results,h,ht',hs',asAddr,hl,hl2]
end
section
def Z3s (es:List Elem) (s:Sym):Bool:=es.any fun e=>decide (e.id=s)
def simT (u t:Z0i):Bool:=decide (u.rel=t.rel) && (decide (u.var=t.var) && decide (u.sym=t.sym))
def addT (t:Z0i) (vs:List Z0i):List Z0i:=if (vs.any fun u=>simT u t)=true then vs else vs ++ [t]
def metV (es:List Elem) (k:Nat) (s:Sym):Bool:=(es.take (k+1)).any fun e=>decide (e.id=s) || decide (e.value=s)
def Z45 (ns:List Sym) (s:Sym):Bool:=decide (s.kind=1) && decide (plV ns s=0)
def Z42 (ns:List Sym) (es:List Elem) (s:Sym):Bool:=decide (s.kind=1) && (!decide (plV ns s=0) && !Z3s es s)
def Z4b (a b v:Sym):Option Sym:=if v=b then some a else if v=a then some b else none
def twoF (all:List Elem) (a b:Sym):Nat→List Elem→Option (Nat×Sym)
 | _,[]=>none
 | k,e :: l=>match Z4b a b e.value with
   | some o=>if metV all k o=true then some (k,o) else twoF all a b (k+1) l
   | none=>twoF all a b (k+1) l
def oneF (id:Sym):Nat→List Elem→Option Nat
 | _,[]=>none
 | k,e :: l=>if e.value=id then some k else oneF id (k+1) l
def putT (vss:List (List Z0i)) (k:Nat) (t:Z0i):List (List Z0i):=vss.modify k (addT t)
def oneV (es:List Elem) (id c:Sym) (vss:List (List Z0i)):List (List Z0i):=match oneF id 0 es with
 | none=>vss
 | some k=>putT vss k ⟨2,⟨#[]⟩,c,[]⟩
def twoV (ns:List Sym) (es:List Elem) (x:Z0j) (vss:List (List Z0i)):Option (List (List Z0i)):=match twoF es x.a x.b 0 es with
 | none=>none
 | some (k,o)=>some (putT vss k (Z1c ns x.rel o))
def Z2b (ns:List Sym) (es:List Elem) (x:Z0j) (vss:List (List Z0i)):Option (List (List Z0i)):=
 if x.rel=7∧(Z42 ns es x.a=true∧Z45 ns x.b=true∨Z42 ns es x.b=true∧Z45 ns x.a=true) then none
 else if Z45 ns x.a=true∨Z45 ns x.b=true then some vss
 else if x.a.kind=1∧x.b.kind=1 then
  if x.a=x.b∨x.rel≠2∧(x.rel≠7∨Z3s es x.a=true∧Z3s es x.b=true) then some vss else twoV ns es x vss
 else if x.rel≠2 then some vss
 else if Z42 ns es x.a=true then some (oneV es x.a x.b vss)
 else if Z42 ns es x.b=true then some (oneV es x.b x.a vss)
 else some vss
def Z1q (ns:List Sym) (es:List Elem):List Z0j→List (List Z0i)→Option (List (List Z0i))
 | [],vss=>some vss
 | x :: l,vss=>match Z2b ns es x vss with
   | none=>none
   | some v=>Z1q ns es l v
def Z2o (ns:List Sym) (e:Elem) (vs:List Z0i):Z0m:=.mk 1 e.goal (Z2c e.id (plV ns e.id)) [⟨1,⟨#[]⟩,e.attr,[]⟩] vs e.acc []
def vs0 (ns:List Sym) (e:Elem):List Z0i:=[Z1c ns 1 e.value]
def Z3w (m:Nat) (name:ByteArray) (es:List Elem) (as_:List Z0j) (old:Sym→Bool) (news:List Sym) (l:List Z1x):Option (Z35×List Int):=
 match Z2v es with
 | none=>none
 | some (o,ns)=>if o = [] then none else if (news.any fun s=>!decide (plV ns s=0))=true then none
   else match Z1q ns o as_ (o.map (vs0 ns)) with
    | none=>none
    | some vss=>Z5m m name (List.zipWith (Z2o ns) o vss) (o.map Elem.tag) old ns l
theorem Zg3 (vss:List (List Z0i)) (k:Nat) (t:Z0i):(putT vss k t).length=vss.length:=by unfold putT;simp
end
end Go.Proofs.YtldndkngpdfpfaaGreat
