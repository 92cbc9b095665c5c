/-
  Texts put together: Canon3, Canon5, Canon6.
-/
import Derived.Test.YtffemfglngikbaaRe
import Derived.Test.YtffemfglngikbaaRb
import Derived.Test.YtffemfglngikbaaRa
import Derived.Deep.Cut
import Derived.Test.YtffemfglngikbaaRc
import Derived.Test.YtffemfglngikbaaRd
import Derived.Maps.RangeWalk
namespace Go.Proofs.Ytffemfglngikbaa
open Go.RowKit Go.Shelf
theorem Blk.setAllC {w:World} {g:Nat} {t:TypeId} {cs:Array Value} {vs:List Value} (h:Blk w g t cs) (hl:cs.size=vs.length):Blk (w.setCells g 0 vs) g t vs.toArray:=by
 have hr:=World.rangeAt_setCells_same w g 0 vs (by have:=h.there;rwa [hl] at this)
 obtain ⟨cs',h1,h2⟩:=Blk.setCells_ vs 0 h
 have e:cs'=vs.toArray:=by
  apply Array.ext
  · rw [h2];simpa using hl
  · intro i hi hj
    have hj':i<vs.length:=by simpa using hj
    have h3:=hr i vs[i] (List.getElem?_eq_getElem hj')
    rw [show (0+i)=i by omega,h1.cell i,Array.getElem?_eq_getElem hi] at h3
    simpa using h3
 rw [← e];exact h1
def Ex (W1 wc:World) (g:Nat):Nat→Prop:=fun j=>W1.heap.size≤j∧j<wc.heap.size∧j≠g
def CH (n g:Nat) (x:CondT) (vi:ByteArray) (LA LV:List TestT) (L:List CondT) (W1:World) (BA:Option Addr) (dA:Nat) (BV:Option Addr) (dV:Nat) (k:Nat) (A:Option Addr) (c:Nat) (wr:World):Prop:=
 Blk wr g 50 #[.int .i64 x.kind,.bool x.goal,.string vi,.slice BA LA.length dA,.slice BV LV.length dV,.bool x.acc,.slice A k c]∧∃C:Nat→Prop,¬C g∧(∀j,C j→NewD W1.heap.size wr j)∧W1.heap.size≤g∧RowR repTestT C wr BA dA LA∧RowR repTestT C wr BV dV LV∧
  OwnC (repCondT n) 50 C wr (.slice A (L.take k).length c) (L.take k)∧AIn A (fun j=>NewD W1.heap.size wr j∧j≠g)∧Below W1.heap.size W1 wr
section
variable {n g:Nat} {x:CondT} {vi:ByteArray} {LA LV:List TestT} {L:List CondT} {W1 wr:World} {BA:Option Addr} {dA:Nat} {BV:Option Addr} {dV:Nat} {k:Nat} {A:Option Addr} {c:Nat} {C:Nat→Prop}
theorem CH.step {y:CondT} {W7 w8:World} {A':Option Addr} {c':Nat} (hG:Blk wr g 50 #[.int .i64 x.kind,.bool x.goal,.string vi,.slice BA LA.length dA,.slice BV LV.length dV,.bool x.acc,.slice A k c]) (hCg : ¬C g) (hC : ∀j,C j→NewD W1.heap.size wr j) (hg:W1.heap.size≤g) (t1:RowR repTestT C wr BA dA LA) (t2:RowR repTestT C wr BV dV LV)
 (hO:OwnC (repCondT n) 50 C wr (.slice A (L.take k).length c) (L.take k)) (hA:AIn A (fun j=>NewD W1.heap.size wr j∧j≠g)) (hB:Below W1.heap.size W1 wr) (hk1:k+1≤L.length) (hy:L.take k ++ [y]=L.take (k+1)) (h7:Below wr.heap.size wr W7)
 (ha:Appended (repCondT n) 50 (Plus C wr W7) W7 (.slice A (L.take k).length c) (L.take k ++ [y]) (.slice A' (k+1) c') w8):CH n g x vi LA LV L W1 BA dA BV dV (k+1) A' c' (w8.setCell ⟨g,6,none⟩ (.slice A' (k+1) c')):=by
 obtain ⟨a1,a2,a3⟩:=ha
 rw [hy] at a1
 have hz:=hB.size
 have hz7:=h7.size
 have hz8:=a2.size
 have hgl:=hG.lt
 have hnA : ∀j,(Value.slice A (L.take k).length c).ownBlock=some j→W1.heap.size≤j∧j<wr.heap.size∧j≠g:=fun j hj=>by
  rcases A with _ | a
  · simp [Value.ownBlock] at hj
  · simp only [Value.ownBlock,Option.some.injEq] at hj
    have:=hA a rfl
    exact ⟨by rw [← hj];exact this.1.1,by rw [← hj];exact this.1.2,by rw [← hj];exact this.2⟩
 have hlen:(L.take (k+1)).length=k+1:=take_len hk1
 have hG8:Blk w8 g 50 #[.int .i64 x.kind,.bool x.goal,.string vi,.slice BA LA.length dA,.slice BV LV.length dV,.bool x.acc,.slice A k c]:=(hG.new_ h7).grown a2 (fun e=>(hnA g e).2.2 rfl)
 have hne8 : ∀j,(Value.slice A' (k+1) c').ownBlock=some j→W1.heap.size≤j∧j≠g:=fun j hj=>by
  rcases a3 with a3 | a3
  · have:=hnA j (a3 ▸ hj);exact ⟨this.1,this.2.2⟩
  · rw [a3] at hj;injection hj with hj;subst hj;exact ⟨by omega,by omega⟩
 have hCP : ∀j,Plus C wr W7 j→NewD W1.heap.size W7 j:=fun j hj=>by
  rcases hj with hj | hj
  · have:=hC j hj;exact ⟨this.1,by have:=this.2;omega⟩
  · exact ⟨by omega,hj.2⟩
 have hgP : ¬Plus C wr W7 g:=fun h=>by
  rcases h with h | h
  · exact hCg h
  · omega
 have keep : ∀j,C j→j<wr.heap.size→Plus C wr W7 j∧(w8.setCell ⟨g,6,none⟩ (.slice A' (k+1) c')).heap[j]? = wr.heap[j]?:=fun j hj hl=>by
  refine ⟨.inl hj,?_⟩
  rw [Below.heap_setCell _ _ _ _ (by dsimp only;intro e;subst e;exact hCg hj),a2.block j (by omega) (fun e=>hO.off j e.symm hj)]
  exact h7.block j hl
 have hs9:wr.heap.size≤(w8.setCell ⟨g,6,none⟩ (.slice A' (k+1) c')).heap.size:=by simp;omega
 refine ⟨hG8.set_ 6 _,Plus C wr W7,hgP,fun j hj=>?_,hg,t1.keep hs9 keep,t2.keep hs9 keep,?_,?_,?_⟩
 · have:=hCP j hj;exact ⟨this.1,by have:=this.2;simp;omega⟩
 · rw [hlen]
   exact a1.fr (M:=(· = g)) ((Fr.refl (· = g) w8).setCell (p:=⟨g,6,none⟩) (.inl rfl) _) (fun j hj e=>by subst e;exact hgP hj) (fun j hj e=>by subst e;exact (hne8 _ hj).2 rfl)
 · intro a ha
   subst ha
   have hlt:=a1.lt a.block rfl
   exact ⟨⟨(hne8 _ rfl).1,by simpa using hlt⟩,(hne8 _ rfl).2⟩
 · exact ((hB.trans (h7.mono hz)).grown a2 (by omega) (fun j hj=>(hnA j hj).1)).setCell (by dsimp only;exact hg) _
end
def RenOk (f:Nat) (gf:Nat) (lb:Array Value) (w0:World) (Q:ByteArray→Prop) (t:ByteArray→ByteArray) (n:Nat):Prop:=∀(x:CondT) (A1:Option Addr) (c1:Nat) (A2:Option Addr) (c2:Nat) (A3:Option Addr) (c3:Nat) (D:Nat→Prop) (w:World),Below w0.heap.size w0 w→
 RowR repTestT D w A1 c1 x.attr→RowR repTestT D w A2 c2 x.value→RowR (repCondT n) D w A3 c3 x.conds→SmC (n+1) x→QC Q (n+1) x→Calls Try.prog f #[.func (.func gf) #[] lb,.agg #[.int .i64 x.kind,.bool x.goal,.string x.id,.slice A1 x.attr.length c1,.slice A2 x.value.length c2,.bool x.acc,.slice A3 x.conds.length c3]] w (FreshC n (condR t (n+1) x) w)
set_option maxRecDepth 100000 in
set_option maxHeartbeats 16000000 in
theorem ccond_body {gf:Nat} {lb:Array Value} {w0:World} {Q:ByteArray→Prop} {t:ByteArray→ByteArray} (hN:NamerOk gf lb w0 Q t) (n:Nat) (hrec : ∀m,n=m+1→RenOk 33 gf lb w0 Q t m):RenOk 33 gf lb w0 Q t n:=by
 intro x A1 c1 A2 c2 A3 c3 D w hw h1 h2 h3 hs hq
 obtain ⟨j0,hj0,hy0,hyy1,hyy2⟩:=infp inf_Cond
 obtain ⟨s1,s2,s3,s4⟩:=hs
 obtain ⟨q1,q2,q3,q4⟩:=hq
 have hcap1:=h1.cap
 have hcap2:=h2.cap
 have hcap3:=h3.cap
 obtain ⟨vi,hvi⟩ : ∃v,v=oneR t x.id:=⟨_,rfl⟩
 obtain ⟨LA,hLA⟩ : ∃l,l=x.attr.map (testR t):=⟨_,rfl⟩
 obtain ⟨LV,hLV⟩ : ∃l,l=x.value.map (testR t):=⟨_,rfl⟩
 obtain ⟨L,hL⟩ : ∃l,l=x.conds.map (condR t n):=⟨_,rfl⟩
 have HR:=Lib.hid (show condR t (n+1) x = .mk x.kind x.goal vi LA LV x.acc L by rw [hvi,hLA,hLV,hL];rfl)
 have HLL:=Lib.hid (show L.length=x.conds.length by rw [hL,List.length_map])
 have HLG:=Lib.hid (show ∀k,(h:k<x.conds.length)→∃h':k<L.length,L[k]=condR t n x.conds[k] from fun k h=>⟨by rw [hL,List.length_map];exact h,by simp [hL]⟩)
 have HTI:=Lib.hid (show ∀W,Below w.heap.size w W→Calls Try.prog 34 #[.func (.func gf) #[] lb,.string x.id] W fun e w'=>e = .returned (.string vi)∧Below W.heap.size W w' from fun W hW=>by rw [hvi];exact one_is hN x.id W (hw.trans (hW.mono hw.size)) q1)
 have HTA:=Lib.hid (show ∀W,Below w.heap.size w W→Calls Try.prog 58 #[.func (.func gf) #[] lb,.slice A1 x.attr.length c1] W (FreshR repTestT LA W) from fun W hW=>by rw [hLA];exact ctests_is hN A1 c1 x.attr W (hw.trans (hW.mono hw.size)) (h1.new_ hW) s1 q2)
 have HTV:=Lib.hid (show ∀W,Below w.heap.size w W→Calls Try.prog 58 #[.func (.func gf) #[] lb,.slice A2 x.value.length c2] W (FreshR repTestT LV W) from fun W hW=>by rw [hLV];exact ctests_is hN A2 c2 x.value W (hw.trans (hW.mono hw.size)) (h2.new_ hW) s2 q3)
 have HREC:=Lib.hid hrec
 have HS:=Lib.hid s4
 have HQ4:=Lib.hid q4
 have Q3:=Lib.hid h3
 have HW0:=Lib.hid hw
 have hl3:x.conds.length≤1000:=s3
 clear hvi hLA hLV hL h1 h2 h3 s1 s2 s3 s4 q1 q2 q3 q4 hrec hN hw
 go_enter Try.func33,Try.ntmps33
 go_upto_region 1 with fail
 obtain ⟨W1,hW1⟩ : ∃W1,W1=(w.alloc (.cells #[.int .i64 x.kind,.bool x.goal,.string x.id,.slice A1 x.attr.length c1,.slice A2 x.value.length c2,.bool x.acc,.slice A3 x.conds.length c3] 50)).alloc (.cells #[.int .i64 0,.bool false,.string ⟨#[]⟩,.slice none 0 0,.slice none 0 0,.bool false,.slice none 0 0] 50):=⟨_,rfl⟩
 have hB1:Below w.heap.size w W1:=by rw [hW1];exact ((Below.refl _ _).alloc (Nat.le_refl _) _).alloc (by simp) _
 have hX1:Blk W1 w.heap.size 50 #[.int .i64 x.kind,.bool x.goal,.string x.id,.slice A1 x.attr.length c1,.slice A2 x.value.length c2,.bool x.acc,.slice A3 x.conds.length c3]:=by rw [hW1];exact (Blk.new _ _ _).alloc _
 have hR1:Blk W1 (w.heap.size+1) 50 #[.int .i64 0,.bool false,.string ⟨#[]⟩,.slice none 0 0,.slice none 0 0,.bool false,.slice none 0 0]:=by rw [hW1];have:=Blk.new (w.alloc (.cells #[.int .i64 x.kind,.bool x.goal,.string x.id,.slice A1 x.attr.length c1,.slice A2 x.value.length c2,.bool x.acc,.slice A3 x.conds.length c3] 50)) 50 #[.int .i64 0,.bool false,.string ⟨#[]⟩,.slice none 0 0,.slice none 0 0,.bool false,.slice none 0 0];simpa using this
 have hz1:W1.heap.size=w.heap.size+2:=by rw [hW1];simp
 rw [← hW1]
 clear hW1
 obtain ⟨p0,p1,p2,p3,p4,p5,p6⟩:=hX1.c7
 have HB1:=Lib.hid hB1
 have HX1:=Lib.hid hX1
 have HR1:=Lib.hid hR1
 have HZ1:=Lib.hid hz1
 have hxl1:=hX1.lt
 have hwz:w.heap.size≤W1.heap.size:=by omega
 have HWZ:=Lib.hid hwz
 clear hB1 hX1 hR1 hz1 hwz
 go_cut [5] from 8 (fun p wc=>∃g BA dA BV dV,p = .pointer (some ⟨g,0,none⟩)∧W1.heap.size≤g∧Blk wc g 50 #[.int .i64 x.kind,.bool x.goal,.string vi,.slice BA LA.length dA,.slice BV LV.length dV,.bool x.acc,.slice none 0 0]∧Below W1.heap.size W1 wc∧RowR repTestT (Ex W1 wc g) wc BA dA LA∧RowR repTestT (Ex W1 wc g) wc BV dV LV)
 case first=>
  refine wp_region_Pl (fun w9=>Below W1.heap.size W1 w9) [0,1,2,3,4,5,6,7,8,10,11,12,14,15,16,18] [1,3,5,8,12,16] (.fork [(0,0),(1,1),(2,0),(3,1),(4,0),(5,1),(6,0),(7,0),(8,1),(10,0),(11,0),(12,1),(14,0),(15,0),(16,1)] 9 (.fork [] 13 (.fork [] 17 (.fin [(18,0),(19,2),(20,2)]) 19 (.fin [(17,2),(18,0),(20,2)])) 19 (.fin [(13,2),(17,2),(18,0),(20,2)])) 19 (.fin [(9,2),(13,2),(17,2),(18,0),(20,2)])) (by kernel_rfl) (by kernel_rfl) (by kernel_rfl) (fun KK hKK=>?_)
  simp only [wpPl,beside,List.filterMap_cons,List.filterMap_nil,List.getElem?_toArray,List.getElem?_cons_zero,List.getElem?_cons_succ,Option.map_some]
  repeat ((first | (refine wpY_w ?_ (Or.inl ⟨by rfl,fun w9=>?_⟩) ?_;rotate_left 1;go_simp;with_reducible rfl) | (refine wpY_l ?_ ((Below.refl _ _).drew) (Or.inl ⟨by rfl,fun w9 hw9=>?_⟩) ?_;rotate_left 1;obtain ⟨hc9,hf9⟩:=bcell hw9;go_simp;with_reducible rfl) | refine wpY_w undef (Or.inr ⟨by rfl,rfl⟩) ?_ | refine wpY_l undef ((Below.refl _ _).drew) (Or.inr ⟨by rfl,rfl⟩) ?_);go_frame)
  refine wpY_nil ⟨?_,?_⟩
  · refine wpOp_cs rfl (fun K9 hK9=>?_)
    go_simp
    refine (HTI.out _ (HB1.out.trans (((Below.refl W1.heap.size W1).drew).mono HWZ.out))).mono ?_
    rintro e wo ⟨rfl,hb⟩
    have HBo:=Lib.hid (((Below.refl W1.heap.size W1).drew).trans (hb.mono ((Below.refl W1.heap.size W1).drew).size))
    clear hb
    refine hK9 _ _ (fun _=>HBo.out) ?_
    clear hK9 K9
    try go_frame
    try simp only [beside,List.filterMap_nil]
    refine wpY_nil ⟨?_,?_⟩
    · refine wpOp_cs rfl (fun K9 hK9=>?_)
      go_simp
      refine (HTA.out _ (HB1.out.trans ((HBo.out).mono HWZ.out))).mono ?_
      rintro e wA ⟨BA,dA,rfl,hr,-,hb⟩
      obtain ⟨DA,hr2,hl2⟩ : ∃D:Nat→Prop,RowR repTestT D wA BA dA LA∧(∀j,D j→(wo).heap.size≤j∧j<wA.heap.size):=⟨_,hr,fun j hj=>hj⟩
      have RA:=Lib.hid hr2
      have MA:=Lib.hid (show ∀j,DA j→W1.heap.size≤j∧j<wA.heap.size from fun j hj=>⟨Nat.le_trans (HBo.out).size (hl2 j hj).1,(hl2 j hj).2⟩)
      have HBAx:=Lib.hid ((HBo.out).trans (hb.mono (HBo.out).size))
      clear hr hr2 hl2 hb
      refine hK9 _ _ (fun _=>HBAx.out) ?_
      clear hK9 K9
      try go_frame
      try simp only [beside,List.filterMap_nil]
      refine wpY_nil ⟨?_,?_⟩
      · refine wpOp_cs rfl (fun K9 hK9=>?_)
        go_simp
        refine (HTV.out _ (HB1.out.trans ((HBAx.out).mono HWZ.out))).mono ?_
        rintro e wV ⟨BV,dV,rfl,hr,-,hb⟩
        obtain ⟨DV,hr2,hl2⟩ : ∃D:Nat→Prop,RowR repTestT D wV BV dV LV∧(∀j,D j→(wA).heap.size≤j∧j<wV.heap.size):=⟨_,hr,fun j hj=>hj⟩
        have RA:=Lib.hid (RA.out.new_ hb)
        have MA:=Lib.hid (fun j hj=>And.intro (MA.out j hj).1 (Nat.lt_of_lt_of_le (MA.out j hj).2 (hb).size))
        have RV:=Lib.hid hr2
        have MV:=Lib.hid (show ∀j,DV j→W1.heap.size≤j∧j<wV.heap.size from fun j hj=>⟨Nat.le_trans (HBAx.out).size (hl2 j hj).1,(hl2 j hj).2⟩)
        have HBVx:=Lib.hid ((HBAx.out).trans (hb.mono (HBAx.out).size))
        clear hr hr2 hl2 hb
        refine hK9 _ _ (fun _=>HBVx.out) ?_
        clear hK9 K9
        try go_frame
        try simp only [beside,List.filterMap_nil]
        repeat ((first | (refine wpY_w ?_ (Or.inl ⟨by rfl,fun w9=>?_⟩) ?_;rotate_left 1;go_simp;with_reducible rfl) | (refine wpY_l ?_ (HBVx.out) (Or.inl ⟨by rfl,fun w9 hw9=>?_⟩) ?_;rotate_left 1;obtain ⟨hc9,hf9⟩:=bcell hw9;go_simp;with_reducible rfl) | refine wpY_w undef (Or.inr ⟨by rfl,rfl⟩) ?_ | refine wpY_l undef (HBVx.out) (Or.inr ⟨by rfl,rfl⟩) ?_);go_frame)
        refine wpY_es (fun K9 hK9=>?_)
        go_simp
        have hb:Below wV.heap.size wV (wV.alloc (.cells #[.int .i64 0,.bool false,.string ⟨#[]⟩,.slice none 0 0,.slice none 0 0,.bool false,.slice none 0 0] 50)):=(Below.refl _ _).alloc (Nat.le_refl _) _
        have NA:=Lib.hid (show ∀j,DA j→j≠wV.heap.size from fun j hj e=>by have h1:=(MA.out j hj).2;omega)
        have NV:=Lib.hid (show ∀j,DV j→j≠wV.heap.size from fun j hj e=>by have h1:=(MV.out j hj).2;omega)
        have RA:=Lib.hid (RA.out.new_ hb)
        have MA:=Lib.hid (fun j hj=>And.intro (MA.out j hj).1 (Nat.lt_of_lt_of_le (MA.out j hj).2 (hb).size))
        have RV:=Lib.hid (RV.out.new_ hb)
        have MV:=Lib.hid (fun j hj=>And.intro (MV.out j hj).1 (Nat.lt_of_lt_of_le (MV.out j hj).2 (hb).size))
        have HK:=Lib.hid (show Blk (wV.alloc (.cells #[.int .i64 0,.bool false,.string ⟨#[]⟩,.slice none 0 0,.slice none 0 0,.bool false,.slice none 0 0] 50)) wV.heap.size 50 #[.int .i64 0,.bool false,.string ⟨#[]⟩,.slice none 0 0,.slice none 0 0,.bool false,.slice none 0 0] from Blk.new _ _ _)
        have HGE:=Lib.hid (show W1.heap.size≤wV.heap.size from (HBVx.out).size)
        have HBg:=Lib.hid ((HBVx.out).trans (hb.mono (HBVx.out).size))
        clear hb
        refine hK9 _ _ (HBg.out) ?_
        clear hK9 K9
        try go_frame
        refine wpY_es (fun K9 hK9=>?_)
        refine step_store_el rfl 50 _ _ rfl wV.heap.size 0 #[Value.int IntKind.i64 x.kind,Value.bool x.goal,Value.string vi,Value.slice BA LA.length dA,Value.slice BV LV.length dV,Value.bool x.acc,Value.slice none 0 0] rfl rfl (show _ from HK.out.there) (by kernel_rfl) (by kernel_rfl) ?_
        refine hK9 _ _ (Below.setCells' _ _ (HBg.out) HGE.out) ?_
        clear hK9 K9
        try go_frame
        refine wpY_nil ?_
        simp only [OnlyN_normal]
        refine hKK _ _ ?_
        clear hKK KK
        go_wp2_with fail
        go_meet
        case rel=>exact ⟨wV.heap.size,BA,dA,BV,dV,rfl,HGE.out,HK.out.setAllC rfl,Below.setCells' _ _ (HBg.out) HGE.out,(RA.out.keep (by rw [size_setCells];omega) (fun j hj _=>⟨⟨(MA.out j hj).1,by rw [size_setCells];exact (MA.out j hj).2,NA.out j hj⟩,blk_setCells _ _ _ _ _ (NA.out j hj)⟩)),(RV.out.keep (by rw [size_setCells];omega) (fun j hj _=>⟨⟨(MV.out j hj).1,by rw [size_setCells];exact (MV.out j hj).2,NV.out j hj⟩,blk_setCells _ _ _ _ _ (NV.out j hj)⟩))⟩
      · refine wpOp_cs rfl (fun K9 hK9=>?_)
        go_simp
        have hb:Below wA.heap.size wA (wA.alloc (.cells #[.int .i64 0,.bool false,.string ⟨#[]⟩,.slice none 0 0,.slice none 0 0,.bool false,.slice none 0 0] 50)):=(Below.refl _ _).alloc (Nat.le_refl _) _
        have NA:=Lib.hid (show ∀j,DA j→j≠wA.heap.size from fun j hj e=>by have h1:=(MA.out j hj).2;omega)
        have RA:=Lib.hid (RA.out.new_ hb)
        have MA:=Lib.hid (fun j hj=>And.intro (MA.out j hj).1 (Nat.lt_of_lt_of_le (MA.out j hj).2 (hb).size))
        have HK:=Lib.hid (show Blk (wA.alloc (.cells #[.int .i64 0,.bool false,.string ⟨#[]⟩,.slice none 0 0,.slice none 0 0,.bool false,.slice none 0 0] 50)) wA.heap.size 50 #[.int .i64 0,.bool false,.string ⟨#[]⟩,.slice none 0 0,.slice none 0 0,.bool false,.slice none 0 0] from Blk.new _ _ _)
        have HGE:=Lib.hid (show W1.heap.size≤wA.heap.size from (HBAx.out).size)
        have HBg:=Lib.hid ((HBAx.out).trans (hb.mono (HBAx.out).size))
        clear hb
        refine hK9 _ _ (fun _=>HBg.out) ?_
        clear hK9 K9
        try go_frame
        try simp only [beside,List.filterMap_nil]
        refine wpY_es (fun K9 hK9=>?_)
        go_simp
        refine (HTV.out _ (HB1.out.trans ((HBg.out).mono HWZ.out))).mono ?_
        rintro e wV ⟨BV,dV,rfl,hr,-,hb⟩
        obtain ⟨DV,hr2,hl2⟩ : ∃D:Nat→Prop,RowR repTestT D wV BV dV LV∧(∀j,D j→((wA.alloc (.cells #[.int .i64 0,.bool false,.string ⟨#[]⟩,.slice none 0 0,.slice none 0 0,.bool false,.slice none 0 0] 50))).heap.size≤j∧j<wV.heap.size):=⟨_,hr,fun j hj=>hj⟩
        have NV:=Lib.hid (show ∀j,DV j→j≠wA.heap.size from fun j hj e=>by have h1:=(hl2 j hj).1;have h2:=HK.out.lt;omega)
        have RA:=Lib.hid (RA.out.new_ hb)
        have MA:=Lib.hid (fun j hj=>And.intro (MA.out j hj).1 (Nat.lt_of_lt_of_le (MA.out j hj).2 (hb).size))
        have HK:=Lib.hid (HK.out.new_ hb)
        have RV:=Lib.hid hr2
        have MV:=Lib.hid (show ∀j,DV j→W1.heap.size≤j∧j<wV.heap.size from fun j hj=>⟨Nat.le_trans (HBg.out).size (hl2 j hj).1,(hl2 j hj).2⟩)
        have HBVx:=Lib.hid ((HBg.out).trans (hb.mono (HBg.out).size))
        clear hr hr2 hl2 hb
        refine hK9 _ _ (HBVx.out) ?_
        clear hK9 K9
        try go_frame
        repeat ((first | (refine wpY_w ?_ (Or.inl ⟨by rfl,fun w9=>?_⟩) ?_;rotate_left 1;go_simp;with_reducible rfl) | (refine wpY_l ?_ (HBVx.out) (Or.inl ⟨by rfl,fun w9 hw9=>?_⟩) ?_;rotate_left 1;obtain ⟨hc9,hf9⟩:=bcell hw9;go_simp;with_reducible rfl) | refine wpY_w undef (Or.inr ⟨by rfl,rfl⟩) ?_ | refine wpY_l undef (HBVx.out) (Or.inr ⟨by rfl,rfl⟩) ?_);go_frame)
        refine wpY_es (fun K9 hK9=>?_)
        refine step_store_el rfl 50 _ _ rfl wA.heap.size 0 #[Value.int IntKind.i64 x.kind,Value.bool x.goal,Value.string vi,Value.slice BA LA.length dA,Value.slice BV LV.length dV,Value.bool x.acc,Value.slice none 0 0] rfl rfl (show _ from HK.out.there) (by kernel_rfl) (by kernel_rfl) ?_
        refine hK9 _ _ (Below.setCells' _ _ (HBVx.out) HGE.out) ?_
        clear hK9 K9
        try go_frame
        refine wpY_nil ?_
        simp only [OnlyN_normal]
        refine hKK _ _ ?_
        clear hKK KK
        go_wp2_with fail
        go_meet
        case rel=>exact ⟨wA.heap.size,BA,dA,BV,dV,rfl,HGE.out,HK.out.setAllC rfl,Below.setCells' _ _ (HBVx.out) HGE.out,(RA.out.keep (by rw [size_setCells];omega) (fun j hj _=>⟨⟨(MA.out j hj).1,by rw [size_setCells];exact (MA.out j hj).2,NA.out j hj⟩,blk_setCells _ _ _ _ _ (NA.out j hj)⟩)),(RV.out.keep (by rw [size_setCells];omega) (fun j hj _=>⟨⟨(MV.out j hj).1,by rw [size_setCells];exact (MV.out j hj).2,NV.out j hj⟩,blk_setCells _ _ _ _ _ (NV.out j hj)⟩))⟩
    · refine wpOp_cs rfl (fun K9 hK9=>?_)
      go_simp
      have hb:Below wo.heap.size wo (wo.alloc (.cells #[.int .i64 0,.bool false,.string ⟨#[]⟩,.slice none 0 0,.slice none 0 0,.bool false,.slice none 0 0] 50)):=(Below.refl _ _).alloc (Nat.le_refl _) _
      have HK:=Lib.hid (show Blk (wo.alloc (.cells #[.int .i64 0,.bool false,.string ⟨#[]⟩,.slice none 0 0,.slice none 0 0,.bool false,.slice none 0 0] 50)) wo.heap.size 50 #[.int .i64 0,.bool false,.string ⟨#[]⟩,.slice none 0 0,.slice none 0 0,.bool false,.slice none 0 0] from Blk.new _ _ _)
      have HGE:=Lib.hid (show W1.heap.size≤wo.heap.size from (HBo.out).size)
      have HBg:=Lib.hid ((HBo.out).trans (hb.mono (HBo.out).size))
      clear hb
      refine hK9 _ _ (fun _=>HBg.out) ?_
      clear hK9 K9
      try go_frame
      try simp only [beside,List.filterMap_nil]
      refine wpY_es (fun K9 hK9=>?_)
      go_simp
      refine (HTA.out _ (HB1.out.trans ((HBg.out).mono HWZ.out))).mono ?_
      rintro e wA ⟨BA,dA,rfl,hr,-,hb⟩
      obtain ⟨DA,hr2,hl2⟩ : ∃D:Nat→Prop,RowR repTestT D wA BA dA LA∧(∀j,D j→((wo.alloc (.cells #[.int .i64 0,.bool false,.string ⟨#[]⟩,.slice none 0 0,.slice none 0 0,.bool false,.slice none 0 0] 50))).heap.size≤j∧j<wA.heap.size):=⟨_,hr,fun j hj=>hj⟩
      have NA:=Lib.hid (show ∀j,DA j→j≠wo.heap.size from fun j hj e=>by have h1:=(hl2 j hj).1;have h2:=HK.out.lt;omega)
      have HK:=Lib.hid (HK.out.new_ hb)
      have RA:=Lib.hid hr2
      have MA:=Lib.hid (show ∀j,DA j→W1.heap.size≤j∧j<wA.heap.size from fun j hj=>⟨Nat.le_trans (HBg.out).size (hl2 j hj).1,(hl2 j hj).2⟩)
      have HBAx:=Lib.hid ((HBg.out).trans (hb.mono (HBg.out).size))
      clear hr hr2 hl2 hb
      refine hK9 _ _ (HBAx.out) ?_
      clear hK9 K9
      try go_frame
      refine wpY_es (fun K9 hK9=>?_)
      go_simp
      refine (HTV.out _ (HB1.out.trans ((HBAx.out).mono HWZ.out))).mono ?_
      rintro e wV ⟨BV,dV,rfl,hr,-,hb⟩
      obtain ⟨DV,hr2,hl2⟩ : ∃D:Nat→Prop,RowR repTestT D wV BV dV LV∧(∀j,D j→(wA).heap.size≤j∧j<wV.heap.size):=⟨_,hr,fun j hj=>hj⟩
      have NV:=Lib.hid (show ∀j,DV j→j≠wo.heap.size from fun j hj e=>by have h1:=(hl2 j hj).1;have h2:=HK.out.lt;omega)
      have RA:=Lib.hid (RA.out.new_ hb)
      have MA:=Lib.hid (fun j hj=>And.intro (MA.out j hj).1 (Nat.lt_of_lt_of_le (MA.out j hj).2 (hb).size))
      have HK:=Lib.hid (HK.out.new_ hb)
      have RV:=Lib.hid hr2
      have MV:=Lib.hid (show ∀j,DV j→W1.heap.size≤j∧j<wV.heap.size from fun j hj=>⟨Nat.le_trans (HBAx.out).size (hl2 j hj).1,(hl2 j hj).2⟩)
      have HBVx:=Lib.hid ((HBAx.out).trans (hb.mono (HBAx.out).size))
      clear hr hr2 hl2 hb
      refine hK9 _ _ (HBVx.out) ?_
      clear hK9 K9
      try go_frame
      repeat ((first | (refine wpY_w ?_ (Or.inl ⟨by rfl,fun w9=>?_⟩) ?_;rotate_left 1;go_simp;with_reducible rfl) | (refine wpY_l ?_ (HBVx.out) (Or.inl ⟨by rfl,fun w9 hw9=>?_⟩) ?_;rotate_left 1;obtain ⟨hc9,hf9⟩:=bcell hw9;go_simp;with_reducible rfl) | refine wpY_w undef (Or.inr ⟨by rfl,rfl⟩) ?_ | refine wpY_l undef (HBVx.out) (Or.inr ⟨by rfl,rfl⟩) ?_);go_frame)
      refine wpY_es (fun K9 hK9=>?_)
      refine step_store_el rfl 50 _ _ rfl wo.heap.size 0 #[Value.int IntKind.i64 x.kind,Value.bool x.goal,Value.string vi,Value.slice BA LA.length dA,Value.slice BV LV.length dV,Value.bool x.acc,Value.slice none 0 0] rfl rfl (show _ from HK.out.there) (by kernel_rfl) (by kernel_rfl) ?_
      refine hK9 _ _ (Below.setCells' _ _ (HBVx.out) HGE.out) ?_
      clear hK9 K9
      try go_frame
      refine wpY_nil ?_
      simp only [OnlyN_normal]
      refine hKK _ _ ?_
      clear hKK KK
      go_wp2_with fail
      go_meet
      case rel=>exact ⟨wo.heap.size,BA,dA,BV,dV,rfl,HGE.out,HK.out.setAllC rfl,Below.setCells' _ _ (HBVx.out) HGE.out,(RA.out.keep (by rw [size_setCells];omega) (fun j hj _=>⟨⟨(MA.out j hj).1,by rw [size_setCells];exact (MA.out j hj).2,NA.out j hj⟩,blk_setCells _ _ _ _ _ (NA.out j hj)⟩)),(RV.out.keep (by rw [size_setCells];omega) (fun j hj _=>⟨⟨(MV.out j hj).1,by rw [size_setCells];exact (MV.out j hj).2,NV.out j hj⟩,blk_setCells _ _ _ _ _ (NV.out j hj)⟩))⟩
  · refine wpOp_cs rfl (fun K9 hK9=>?_)
    go_simp
    have hb:Below W1.drew.heap.size W1.drew (W1.drew.alloc (.cells #[.int .i64 0,.bool false,.string ⟨#[]⟩,.slice none 0 0,.slice none 0 0,.bool false,.slice none 0 0] 50)):=(Below.refl _ _).alloc (Nat.le_refl _) _
    have HK:=Lib.hid (show Blk (W1.drew.alloc (.cells #[.int .i64 0,.bool false,.string ⟨#[]⟩,.slice none 0 0,.slice none 0 0,.bool false,.slice none 0 0] 50)) W1.heap.size 50 #[.int .i64 0,.bool false,.string ⟨#[]⟩,.slice none 0 0,.slice none 0 0,.bool false,.slice none 0 0] from Blk.new _ _ _)
    have HGE:=Lib.hid (show W1.heap.size≤W1.heap.size from ((Below.refl W1.heap.size W1).drew).size)
    have HBg:=Lib.hid (((Below.refl W1.heap.size W1).drew).trans (hb.mono ((Below.refl W1.heap.size W1).drew).size))
    clear hb
    refine hK9 _ _ (fun _=>HBg.out) ?_
    clear hK9 K9
    try go_frame
    try simp only [beside,List.filterMap_nil]
    refine wpY_es (fun K9 hK9=>?_)
    go_simp
    refine (HTI.out _ (HB1.out.trans ((HBg.out).mono HWZ.out))).mono ?_
    rintro e wo ⟨rfl,hb⟩
    have HK:=Lib.hid (HK.out.new_ hb)
    have HBo:=Lib.hid ((HBg.out).trans (hb.mono (HBg.out).size))
    clear hb
    refine hK9 _ _ (HBo.out) ?_
    clear hK9 K9
    try go_frame
    refine wpY_es (fun K9 hK9=>?_)
    go_simp
    refine (HTA.out _ (HB1.out.trans ((HBo.out).mono HWZ.out))).mono ?_
    rintro e wA ⟨BA,dA,rfl,hr,-,hb⟩
    obtain ⟨DA,hr2,hl2⟩ : ∃D:Nat→Prop,RowR repTestT D wA BA dA LA∧(∀j,D j→(wo).heap.size≤j∧j<wA.heap.size):=⟨_,hr,fun j hj=>hj⟩
    have NA:=Lib.hid (show ∀j,DA j→j≠W1.heap.size from fun j hj e=>by have h1:=(hl2 j hj).1;have h2:=HK.out.lt;omega)
    have HK:=Lib.hid (HK.out.new_ hb)
    have RA:=Lib.hid hr2
    have MA:=Lib.hid (show ∀j,DA j→W1.heap.size≤j∧j<wA.heap.size from fun j hj=>⟨Nat.le_trans (HBo.out).size (hl2 j hj).1,(hl2 j hj).2⟩)
    have HBAx:=Lib.hid ((HBo.out).trans (hb.mono (HBo.out).size))
    clear hr hr2 hl2 hb
    refine hK9 _ _ (HBAx.out) ?_
    clear hK9 K9
    try go_frame
    refine wpY_es (fun K9 hK9=>?_)
    go_simp
    refine (HTV.out _ (HB1.out.trans ((HBAx.out).mono HWZ.out))).mono ?_
    rintro e wV ⟨BV,dV,rfl,hr,-,hb⟩
    obtain ⟨DV,hr2,hl2⟩ : ∃D:Nat→Prop,RowR repTestT D wV BV dV LV∧(∀j,D j→(wA).heap.size≤j∧j<wV.heap.size):=⟨_,hr,fun j hj=>hj⟩
    have NV:=Lib.hid (show ∀j,DV j→j≠W1.heap.size from fun j hj e=>by have h1:=(hl2 j hj).1;have h2:=HK.out.lt;omega)
    have RA:=Lib.hid (RA.out.new_ hb)
    have MA:=Lib.hid (fun j hj=>And.intro (MA.out j hj).1 (Nat.lt_of_lt_of_le (MA.out j hj).2 (hb).size))
    have HK:=Lib.hid (HK.out.new_ hb)
    have RV:=Lib.hid hr2
    have MV:=Lib.hid (show ∀j,DV j→W1.heap.size≤j∧j<wV.heap.size from fun j hj=>⟨Nat.le_trans (HBAx.out).size (hl2 j hj).1,(hl2 j hj).2⟩)
    have HBVx:=Lib.hid ((HBAx.out).trans (hb.mono (HBAx.out).size))
    clear hr hr2 hl2 hb
    refine hK9 _ _ (HBVx.out) ?_
    clear hK9 K9
    try go_frame
    repeat ((first | (refine wpY_w ?_ (Or.inl ⟨by rfl,fun w9=>?_⟩) ?_;rotate_left 1;go_simp;with_reducible rfl) | (refine wpY_l ?_ (HBVx.out) (Or.inl ⟨by rfl,fun w9 hw9=>?_⟩) ?_;rotate_left 1;obtain ⟨hc9,hf9⟩:=bcell hw9;go_simp;with_reducible rfl) | refine wpY_w undef (Or.inr ⟨by rfl,rfl⟩) ?_ | refine wpY_l undef (HBVx.out) (Or.inr ⟨by rfl,rfl⟩) ?_);go_frame)
    refine wpY_es (fun K9 hK9=>?_)
    refine step_store_el rfl 50 _ _ rfl W1.heap.size 0 #[Value.int IntKind.i64 x.kind,Value.bool x.goal,Value.string vi,Value.slice BA LA.length dA,Value.slice BV LV.length dV,Value.bool x.acc,Value.slice none 0 0] rfl rfl (show _ from HK.out.there) (by kernel_rfl) (by kernel_rfl) ?_
    refine hK9 _ _ (Below.setCells' _ _ (HBVx.out) HGE.out) ?_
    clear hK9 K9
    try go_frame
    refine wpY_nil ?_
    simp only [OnlyN_normal]
    refine hKK _ _ ?_
    clear hKK KK
    go_wp2_with fail
    go_meet
    case rel=>exact ⟨W1.heap.size,BA,dA,BV,dV,rfl,HGE.out,HK.out.setAllC rfl,Below.setCells' _ _ (HBVx.out) HGE.out,(RA.out.keep (by rw [size_setCells];omega) (fun j hj _=>⟨⟨(MA.out j hj).1,by rw [size_setCells];exact (MA.out j hj).2,NA.out j hj⟩,blk_setCells _ _ _ _ _ (NA.out j hj)⟩)),(RV.out.keep (by rw [size_setCells];omega) (fun j hj _=>⟨⟨(MV.out j hj).1,by rw [size_setCells];exact (MV.out j hj).2,NV.out j hj⟩,blk_setCells _ _ _ _ _ (NV.out j hj)⟩))⟩
 case rest=>
  obtain ⟨g,BA,dA,BV,dV,rfl,hg,hG,hB,t1,t2⟩:=hcut
  have h0:CH n g x vi LA LV L W1 BA dA BV dV 0 none 0 wc:=⟨hG,Ex W1 wc g,fun h=>h.2.2 rfl,fun j hj=>⟨hj.1,hj.2.1⟩,hg,t1,t2,OwnC.nil _ _ _ _,AIn.none_ _,hB⟩
  have H0:=Lib.hid h0
  have hXc:=HX1.out.below hB (by have:=HZ1.out;omega)
  have p6:wc.cell? ⟨w.heap.size,6,none⟩=some (.slice A3 x.conds.length c3):=(hXc.cell 6).trans rfl
  have hxl1:=hXc.lt
  clear t1 t2 p0 p1 p2 p3 p4 p5 hG hB h0 hXc
  go_wp2_with fail
  go_loopw [30] (fun i wr=>∃(k:Nat) (A:Option Addr) (c:Nat),i = .int .i64 k∧k≤x.conds.length∧CH n g x vi LA LV L W1 BA dA BV dV k A c wr) (fun i wr=>x.conds.length - (intOf i).toNat)
  case atStart=>exact ⟨0,none,0,rfl,Nat.zero_le _,H0.out⟩
  case round=>
   obtain ⟨k,A,c,rfl,hk,hRH⟩:=hrel
   obtain ⟨hG,C,hCg,hC,_,t1,t2,hO,hA,hB⟩:=hRH
   have hzr:=hB.size
   clear p6 hxl1
   by_cases hlt:k<x.conds.length
   · have hrw:=(Q3.out.new_ HB1.out).keep (D':=D) hB.size (fun j hj hl=>⟨hj,hB.block j hl⟩)
     obtain ⟨m,hnm⟩ : ∃m,n=m+1:=by
      cases n with
      | zero=>rw [row0 hrw] at hlt;simp at hlt
      | succ m=>exact ⟨m,rfl⟩
     subst hnm
     obtain ⟨gh,oh,Ay1,cy1,Ay2,cy2,Ay3,cy3,hA0,hDg,hgh,r0,r1,r2,r3,r4,r5,r6,hy1,hy2,hy3⟩:=at_CondT hrw hlt
     subst hA0
     obtain ⟨y,hy⟩ : ∃y,y=x.conds[k]:=⟨_,rfl⟩
     obtain ⟨z,hz⟩ : ∃z,z=condR t (m+1) y:=⟨_,rfl⟩
     have hys:SmC (m+1) y:=by rw [hy];exact HS.out _ (List.getElem_mem hlt)
     have hyq:QC Q (m+1) y:=by rw [hy];exact HQ4.out _ (List.getElem_mem hlt)
     rw [← hy] at r0 r1 r2 r3 r4 r5 r6 hy1 hy2 hy3
     have b1:(0:Int)≤(k:Int):=by omega
     have b2:(k:Int)<(x.conds.length:Int):=by omega
     have HBW:=Lib.hid (HB1.out.trans (hB.mono HWZ.out))
     have HCALL:=Lib.hid (show ∀W,Below wr.heap.size wr W→Calls Try.prog 33 #[.func (.func gf) #[] lb,.agg #[.int .i64 y.kind,.bool y.goal,.string y.id,.slice Ay1 y.attr.length cy1,.slice Ay2 y.value.length cy2,.bool y.acc,.slice Ay3 y.conds.length cy3]] W (FreshC m z W) from fun W hW=>by
      rw [hz]
      exact HREC.out m rfl y Ay1 cy1 Ay2 cy2 Ay3 cy3 D W (HW0.out.trans ((HBW.out.trans (hW.mono HBW.out.size)).mono HW0.out.size)) (hy1.new_ hW) (hy2.new_ hW) (hy3.new_ hW) hys hyq)
     have hLz:L.take k ++ [z]=L.take (k+1):=by
      obtain ⟨h',e⟩:=HLG.out k hlt
      rw [hz,hy,← e]
      exact take_snoc h'
     have HG:=Lib.hid hG
     have HC:=Lib.hid hC
     have HO:=Lib.hid hO
     have HNE:=Lib.hid (show (Value.slice A (L.take k).length c).ownBlock≠some g from fun e=>by
      rcases A with _ | a
      · simp [Value.ownBlock] at e
      · simp only [Value.ownBlock,Option.some.injEq] at e
        exact (hA a rfl).2 e)
     have hkL:(L.take k).length=k:=take_len (by rw [HLL.out];exact hk)
     have HKL:=Lib.hid hkL
     have HST:=Lib.hid (show ∀W7 w8 A' c',Below wr.heap.size wr W7→Appended (repCondT (m+1)) 50 (Plus C wr W7) W7 (.slice A (L.take k).length c) (L.take k ++ [z]) (.slice A' (k+1) c') w8→CH (m+1) g x vi LA LV L W1 BA dA BV dV (k+1) A' c' (w8.setCell ⟨g,6,none⟩ (.slice A' (k+1) c')) from
      fun W7 w8 A' c' h7 ha=>CH.step hG hCg hC hg t1 t2 hO hA hB (by rw [HLL.out];omega) hLz h7 ha)
     have hgl:=hG.lt
     have hgw:wr.heap.size≠g:=by omega
     clear hy hrw hy1 hy2 hy3 hys hyq hG hCg hC t1 t2 hO hA hB hLz hkL hz
     go_upto_region 5 with fail
     obtain ⟨W5,hW5⟩ : ∃W5,W5=wr.alloc (.cells #[.int .i64 y.kind,.bool y.goal,.string y.id,.slice Ay1 y.attr.length cy1,.slice Ay2 y.value.length cy2,.bool y.acc,.slice Ay3 y.conds.length cy3] 50):=⟨_,rfl⟩
     have hB5:Below wr.heap.size wr W5:=by rw [hW5];exact (Below.refl _ _).alloc (Nat.le_refl _) _
     have hX5:Blk W5 wr.heap.size 50 #[.int .i64 y.kind,.bool y.goal,.string y.id,.slice Ay1 y.attr.length cy1,.slice Ay2 y.value.length cy2,.bool y.acc,.slice Ay3 y.conds.length cy3]:=by rw [hW5];exact Blk.new _ _ _
     rw [← hW5]
     clear hW5 r0 r1 r2 r3 r4 r5 r6
     have HB5:=Lib.hid hB5
     have HG:=Lib.hid (HG.out.new_ hB5)
     obtain ⟨m0,m1,m2,m3,m4,m5,m6⟩:=hX5.c7
     have n6:W5.cell? ⟨g,6,none⟩=some (.slice A k c):=(HG.out.cell 6).trans rfl
     have hgl:=HG.out.lt
     have hxl5:=hX5.lt
     clear hB5 hX5
     refine wp_region_E (fun w9=>Below W5.heap.size W5 w9) [(0,0),(1,1),(2,0),(3,1),(4,2),(5,2),(6,2),(7,0),(8,2)] (by kernel_rfl) (by kernel_rfl) (fun KK hKK=>?_)
     simp only [beside,List.filterMap_cons,List.filterMap_nil,List.getElem?_toArray,List.getElem?_cons_zero,List.getElem?_cons_succ,Option.map_some]
     repeat ((first | (refine wpX_w ?_ (Or.inl ⟨by rfl,fun w9=>?_⟩) ?_;rotate_left 1;go_simp;with_reducible rfl) | (refine wpX_l ?_ (((Below.refl _ _).drew)) (Or.inl ⟨by rfl,fun w9 hw9=>?_⟩) ?_;rotate_left 1;obtain ⟨hc9,hf9⟩:=bcell hw9;go_simp;with_reducible rfl) | refine wpX_w undef (Or.inr ⟨by rfl,rfl⟩) ?_ | refine wpX_l undef (((Below.refl _ _).drew)) (Or.inr ⟨by rfl,rfl⟩) ?_);go_frame)
     refine wpX_es (fun K9 hK9=>?_)
     go_simp
     refine (HCALL.out _ (HB5.out.drew)).mono ?_
     rintro e wa ⟨Az1,cz1,Az2,cz2,Az3,cz3,rfl,g1,g2,g3,hba⟩
     have HBa:=Lib.hid (show Below W5.heap.size W5 wa from ((Below.refl W5.heap.size W5).drew).trans hba)
     have G1:=Lib.hid g1
     have G2:=Lib.hid g2
     have G3:=Lib.hid g3
     clear g1 g2 g3 hba
     refine hK9 _ _ HBa.out ?_
     clear hK9 K9
     refine wpX_es (fun K9 hK9=>?_)
     go_simp
     have HB7x:=Lib.hid (HBa.out.alloc HBa.out.size (.cells #[.int .i64 z.kind,.bool z.goal,.string z.id,.slice Az1 z.attr.length cz1,.slice Az2 z.value.length cz2,.bool z.acc,.slice Az3 z.conds.length cz3] 50))
     refine hK9 _ _ HB7x.out ?_
     clear hK9 K9
     refine wpX_e (by kernel_rfl) (fun K9 hK9=>?_)
     have HB7:=Lib.hid (HB5.out.trans (HB7x.out.mono HB5.out.size))
     have h9:Below wa.heap.size wa (wa.alloc (.cells #[.int .i64 z.kind,.bool z.goal,.string z.id,.slice Az1 z.attr.length cz1,.slice Az2 z.value.length cz2,.bool z.acc,.slice Az3 z.conds.length cz3] 50)):=(Below.refl _ _).alloc (Nat.le_refl _) _
     have up : ∀j,NewD W5.heap.size wa j→j<wa.heap.size→(Plus C wr (wa.alloc (.cells #[.int .i64 z.kind,.bool z.goal,.string z.id,.slice Az1 z.attr.length cz1,.slice Az2 z.value.length cz2,.bool z.acc,.slice Az3 z.conds.length cz3] 50))) j∧((wa.alloc (.cells #[.int .i64 z.kind,.bool z.goal,.string z.id,.slice Az1 z.attr.length cz1,.slice Az2 z.value.length cz2,.bool z.acc,.slice Az3 z.conds.length cz3] 50))).heap[j]? = wa.heap[j]?:=fun j hj hl=>⟨.inr ⟨Nat.le_trans HB5.out.size hj.1,by simp;omega⟩,h9.block j hl⟩
     have hrep7:=rep_cond (n:=m) (y:=z) (G1.out.keep h9.size up) (G2.out.keep h9.size up) (G3.out.keep h9.size up)
     have hown7:=HO.out.plus HB7.out
     have hcl : ∀j,Plus C wr (wa.alloc (.cells #[.int .i64 z.kind,.bool z.goal,.string z.id,.slice Az1 z.attr.length cz1,.slice Az2 z.value.length cz2,.bool z.acc,.slice Az3 z.conds.length cz3] 50)) j→j<((wa.alloc (.cells #[.int .i64 z.kind,.bool z.goal,.string z.id,.slice Az1 z.attr.length cz1,.slice Az2 z.value.length cz2,.bool z.acc,.slice Az3 z.conds.length cz3] 50))).heap.size:=fun j hj=>by
      rcases hj with hj | hj
      · have:=(HC.out j hj).2;have:=HB7.out.size;omega
      · exact hj.2
     have h63:(L.take k).length+1≤maxLen:=by rw [HKL.out];unfold maxLen;omega
     have hby:((L.take k).length+1)*112≤140737488355328:=by rw [HKL.out];omega
     have hv:Value.slice A k c = .slice A (L.take k).length c:=by rw [HKL.out]
     refine step_append_C _ rfl _ _ 22 rfl 50 j0 _ 7 112 Try.underlying22 hj0 hy0 hyy1 hyy2 rfl rfl (by omega) (Plus C wr (wa.alloc (.cells #[.int .i64 z.kind,.bool z.goal,.string z.id,.slice Az1 z.attr.length cz1,.slice Az2 z.value.length cz2,.bool z.acc,.slice Az3 z.conds.length cz3] 50))) hcl (.slice A (L.take k).length c) (L.take k) hv hown7 ⟨wa.heap.size,0,none⟩ 1 z [.int .i64 z.kind,.bool z.goal,.string z.id,.slice Az1 z.attr.length cz1,.slice Az2 z.value.length cz2,.bool z.acc,.slice Az3 z.conds.length cz3] rfl (World.news_of_block (heap_alloc_new _ _)) (by intro u hu;simp only [List.mem_cons,List.not_mem_nil,or_false] at hu;rcases hu with rfl | rfl | rfl | rfl | rfl | rfl | rfl<;>rfl) hrep7 h63 hby ?_
     intro v' w8 hap
     obtain ⟨A',c',hv',-,-,-⟩:=hap.1.form
     have hlen1:(L.take k ++ [z]).length=k+1:=by rw [List.length_append,HKL.out];rfl
     rw [hlen1] at hv'
     subst hv'
     have hG8:=(HG.out.new_ HB7x.out).grown hap.2.1 HNE.out
     have HAP:=Lib.hid hap
     have u6:=(hG8.cell 6).trans rfl
     have f6:=hG8.frozen 6
     have hgl8:=hG8.lt
     clear h9 up hrep7 hown7 hcl h63 hby hv hlen1 hap hG8
     refine hK9 _ _ ?_
     clear hK9 K9
     repeat ((first | (refine wpX_w ?_ (Or.inl ⟨by rfl,fun w9=>?_⟩) ?_;rotate_left 1;go_simp;with_reducible rfl) | (refine wpX_l ?_ (HB7x.out) (Or.inl ⟨by rfl,fun w9 hw9=>?_⟩) ?_;rotate_left 1;obtain ⟨hc9,hf9⟩:=bcell hw9;go_simp;with_reducible rfl) | refine wpX_w undef (Or.inr ⟨by rfl,rfl⟩) ?_ | refine wpX_l undef (HB7x.out) (Or.inr ⟨by rfl,rfl⟩) ?_);go_frame)
     refine wpX_e (by kernel_rfl) (fun K9 hK9=>?_)
     go_simp
     refine hK9 _ _ ?_
     clear hK9 K9
     refine wpX_nil ?_
     simp only [OnlyN_normal]
     refine hKK _ _ ?_
     clear hKK KK
     go_wp2_with fail
     go_roundw
     case rel=>exact ⟨k+1,A',c',by go_num,by omega,HST.out _ _ _ _ HB7.out HAP.out⟩
     case measure=>simp [intOf];omega
   · obtain rfl:k=x.conds.length:=by omega
     rw [show x.conds.length=L.length from HLL.out.symm] at hG hO ⊢
     rw [List.take_length] at hO
     have hR:=HR1.out.below hB (by have:=HZ1.out;omega)
     have HB9:=Lib.hid (HB1.out.trans (hB.mono HWZ.out))
     have HT9:=Lib.hid (show wr.there (w.heap.size+1) 0 (#[Value.int IntKind.i64 x.kind,Value.bool x.goal,Value.string vi,Value.slice BA LA.length dA,Value.slice BV LV.length dV,Value.bool x.acc,Value.slice A L.length c]:Array Value).size from hR.there)
     have HRG:=Lib.hid (show wr.rangeAt g 0 [Value.int IntKind.i64 x.kind,Value.bool x.goal,Value.string vi,Value.slice BA LA.length dA,Value.slice BV LV.length dV,Value.bool x.acc,Value.slice A L.length c] from by have:=hG.range;exact this)
     have hrl:=hR.lt
     have hup : ∀j,NewD W1.heap.size wr j→j<wr.heap.size→NewD w.heap.size (wr.setCells (w.heap.size+1) 0 [Value.int IntKind.i64 x.kind,Value.bool x.goal,Value.string vi,Value.slice BA LA.length dA,Value.slice BV LV.length dV,Value.bool x.acc,Value.slice A L.length c]) j∧(wr.setCells (w.heap.size+1) 0 [Value.int IntKind.i64 x.kind,Value.bool x.goal,Value.string vi,Value.slice BA LA.length dA,Value.slice BV LV.length dV,Value.bool x.acc,Value.slice A L.length c]).heap[j]? = wr.heap[j]?:=fun j hj hl=>⟨⟨by have:=hj.1;have:=HZ1.out;omega,by rw [size_setCells];omega⟩,blk_setCells _ _ _ _ _ (by have:=hj.1;have:=HZ1.out;omega)⟩
     have L1:=Lib.hid ((t1.weaken hC).keep (w':=wr.setCells (w.heap.size+1) 0 [Value.int IntKind.i64 x.kind,Value.bool x.goal,Value.string vi,Value.slice BA LA.length dA,Value.slice BV LV.length dV,Value.bool x.acc,Value.slice A L.length c]) (by rw [size_setCells];omega) hup)
     have L2:=Lib.hid ((t2.weaken hC).keep (w':=wr.setCells (w.heap.size+1) 0 [Value.int IntKind.i64 x.kind,Value.bool x.goal,Value.string vi,Value.slice BA LA.length dA,Value.slice BV LV.length dV,Value.bool x.acc,Value.slice A L.length c]) (by rw [size_setCells];omega) hup)
     have L3:=Lib.hid ((hO.row hC (hA.mono (fun j hj=>hj.1))).keep (w':=wr.setCells (w.heap.size+1) 0 [Value.int IntKind.i64 x.kind,Value.bool x.goal,Value.string vi,Value.slice BA LA.length dA,Value.slice BV LV.length dV,Value.bool x.acc,Value.slice A L.length c]) (by rw [size_setCells];omega) hup)
     clear hR hG hCg hC t1 t2 hO hA hB hup
     go_upto_region 7 with fail
     go_wp2_with (first | (with_reducible refine wpList_load_mid rfl 50 _ rfl g 0 rfl [Value.int IntKind.i64 x.kind,Value.bool x.goal,Value.string vi,Value.slice BA LA.length dA,Value.slice BV LV.length dV,Value.bool x.acc,Value.slice A L.length c] _ HRG.out Try.underlying50 rfl (by kernel_rfl) ?_) | (with_reducible refine wpList_store_mid rfl 50 _ _ rfl (w.heap.size+1) 0 #[Value.int IntKind.i64 x.kind,Value.bool x.goal,Value.string vi,Value.slice BA LA.length dA,Value.slice BV LV.length dV,Value.bool x.acc,Value.slice A L.length c] rfl rfl HT9.out (by kernel_rfl) (by kernel_rfl) ?_))
     try simp only [Exit.inBlock,Exit.then]
     have hBe:Below w.heap.size w (wr.setCells (w.heap.size+1) 0 [Value.int IntKind.i64 x.kind,Value.bool x.goal,Value.string vi,Value.slice BA LA.length dA,Value.slice BV LV.length dV,Value.bool x.acc,Value.slice A L.length c]):=Below.setCells' _ _ HB9.out (by omega)
     refine bodyPost_ret (v:=.agg #[.int .i64 x.kind,.bool x.goal,.string vi,.slice BA LA.length dA,.slice BV LV.length dV,.bool x.acc,.slice A L.length c]) ?_ rfl (by rw [HR.out];exact ⟨BA,dA,BV,dV,A,c,rfl,L1.out,L2.out,L3.out,hBe⟩)
     exact results_cell (t:=4) (T:=50) rfl _ _ (w.heap.size+1) [Value.int IntKind.i64 x.kind,Value.bool x.goal,Value.string vi,Value.slice BA LA.length dA,Value.slice BV LV.length dV,Value.bool x.acc,Value.slice A L.length c] _ rfl (World.rangeAt_setCells_same wr (w.heap.size+1) 0 [Value.int IntKind.i64 x.kind,Value.bool x.goal,Value.string vi,Value.slice BA LA.length dA,Value.slice BV LV.length dV,Value.bool x.acc,Value.slice A L.length c] HT9.out) Try.underlying50 rfl (by kernel_rfl)
theorem ccond_is {gf:Nat} {lb:Array Value} {w0:World} {Q:ByteArray→Prop} {t:ByteArray→ByteArray} (hN:NamerOk gf lb w0 Q t) : ∀n,RenOk 33 gf lb w0 Q t n
 | 0=>ccond_body hN 0 (fun m h=>by omega)
 | n+1=>ccond_body hN (n+1) (fun m h=>by obtain rfl:m=n:=by omega
                                         exact ccond_is hN m)
end Go.Proofs.Ytffemfglngikbaa
namespace Go.Proofs.Ytffemfglngikbaa
open Go.RowKit Go.Shelf
attribute [local go_sem] Oper.semAt_some
set_option maxRecDepth 100000 in
set_option maxHeartbeats 16000000 in
theorem each_is {n lo:Nat} {xs:List ByteArray} {J Jx:(Nat→Prop)→List ByteArray→World→Prop} {D:Nat→Prop} {W:World} (hJ:Steady W.heap.size J) (hJx:Steady W.heap.size Jx) (hY:RoundsO Try.prog lo encStr xs J Jx) (hD : ∀k,D k→k<W.heap.size) (h0:J D [] W)
 (p:ProdT) (A1:Option Addr) (c1:Nat) (A2:Option Addr) (c2:Nat) (h1:RowR (repCondT n) D W A1 c1 p.conds) (h2:RowR repActT D W A2 c2 p.acts) (hxs:xs=varsP n p) :
 CallsIn Fence.wide 0 Try.prog 30 #[.agg #[.string p.name,.slice A1 p.conds.length c1,.slice A2 p.acts.length c2],.func (.yield lo) #[] #[]] W fun e X'=>(∃v,e = .returned v)∧ToldO xs J Jx X':=by
 have HJ:=Lib.hid hJ
 have HJx:=Lib.hid hJx
 have HY:=Lib.hid hY
 have HD:=Lib.hid hD
 have H1:=Lib.hid h1
 have H2:=Lib.hid h2
 have HXS:=Lib.hid hxs
 have hc1:=h1.cap
 have hc2:=h2.cap
 obtain ⟨W0,hW0⟩ : ∃W0,W0=(W.alloc (.cells #[.string p.name,.slice A1 p.conds.length c1,.slice A2 p.acts.length c2] 25)).alloc (.cells #[.func (.yield lo) #[] #[]] 67):=⟨_,rfl⟩
 have hb0:Below W.heap.size W W0:=by rw [hW0];exact ((Below.refl _ _).alloc (Nat.le_refl _) _).alloc (by simp) _
 have hz0:W0.heap.size=W.heap.size+2:=by rw [hW0];simp
 have hkp:Blk W0 W.heap.size 25 #[.string p.name,.slice A1 p.conds.length c1,.slice A2 p.acts.length c2]:=by rw [hW0];exact (Blk.new _ _ _).alloc _
 have hky:Blk W0 (W.heap.size+1) 67 #[.func (.yield lo) #[] #[]]:=by rw [hW0];have:=Blk.new (W.alloc (.cells #[.string p.name,.slice A1 p.conds.length c1,.slice A2 p.acts.length c2] 25)) 67 #[.func (.yield lo) #[] #[]];simpa using this
 have HI0:=Lib.hid ((ItSt.start h0).new_ hJ hb0)
 have HKP:=Lib.hid hkp
 have HKY:=Lib.hid hky
 have HB0:=Lib.hid hb0
 have HZ0:=Lib.hid hz0
 have HW0:=Lib.hid hW0
 clear hW0 hJ hJx hY hD h0 h1 h2 hxs hb0 hkp hky hz0
 refine callsIn_of_wp_marks Try.func30 rfl trivial ?_
 simp only [Try.ntmps30,List.size_toArray,List.length_cons,List.length_nil,Nat.reduceAdd,Nat.reduceSub,Array.replicate_succ,Array.replicate_zero,List.push_toArray,List.append_toArray,List.nil_append,List.cons_append]
 gi_wp2_with fail
 rw [← HW0.out]
 clear HW0
 obtain ⟨ra,hra⟩ : ∃ra,ra=p.acts.flatMap varsA:=⟨_,rfl⟩
 have HRA:=Lib.hid hra
 have HX0:=Lib.hid (show xs = []++((p.conds.drop 0).flatMap (namesN n)++ra) by rw [HXS.out,hra];rfl)
 have E0:=Lib.hid (show Plus (fun _=>False) W W0 W.heap.size∧Plus (fun _=>False) W W0 (W.heap.size+1) from ⟨.inr ⟨Nat.le_refl _,by rw [HZ0.out];omega⟩,.inr ⟨by omega,by rw [HZ0.out];omega⟩⟩)
 clear hra
 obtain ⟨I,hI⟩ : ∃I:Act→World→Prop,I=fun a w=>∃(k:Nat) (ds:List Deferred) (E:Nat→Prop) (pre:List ByteArray) (u5 u6 u15 u16 u17 u18 u19 u20 u21 u22 u23 u24 u25:Value),k≤p.conds.length∧xs=pre++((p.conds.drop k).flatMap (namesN n)++ra)∧ItSt J D E W pre w∧(E W.heap.size∧E (W.heap.size+1))∧Blk w W.heap.size 25 #[.string p.name,.slice A1 p.conds.length c1,.slice A2 p.acts.length c2]∧Blk w (W.heap.size+1) 67 #[.func (.yield lo) #[] #[]]∧Marks E ds w∧a=⟨#[.agg #[.string p.name,.slice A1 p.conds.length c1,.slice A2 p.acts.length c2],.func (.yield lo) #[] #[],.pointer (some ⟨W.heap.size,0,none⟩),.pointer (some ⟨W.heap.size+1,0,none⟩),undef,u5,u6,undef,undef,undef,undef,.pointer (some ⟨W.heap.size,1,none⟩),.slice A1 p.conds.length c1,.int .i64 (p.conds.length:Int),.int .i64 (k:Int),u15,u16,u17,u18,u19,u20,u21,u22,u23,u24,u25,undef,undef,undef,undef,undef,undef,undef,undef,undef,undef,undef,undef,undef,undef,undef,undef,undef,undef,undef,undef,undef,undef,undef,undef,undef,undef,undef,undef,undef,undef,undef,undef,undef,undef,undef,undef,undef],ds⟩:=⟨_,rfl⟩
 refine wpIn_loop I (fun a _=>p.conds.length - (intOf (a.tmps.getD 14 undef)).toNat) ?_ ?_
 · rw [hI]
   exact ⟨0,[],_,[],undef,undef,undef,undef,undef,undef,undef,undef,undef,undef,undef,undef,undef,Nat.zero_le _,HX0.out,HI0.out,E0.out,HKP.out,HKY.out,trivial,rfl⟩
 intro a wr hIa
 have HII:=Lib.hid hI
 rw [hI] at hIa
 obtain ⟨k,ds,E,pre,u5,u6,u15,u16,u17,u18,u19,u20,u21,u22,u23,u24,u25,hk,hx,hit,hE,hkp,hky,hm,rfl⟩:=hIa
 have HX:=Lib.hid hx
 have HI:=Lib.hid hit
 have HE:=Lib.hid hE
 have HKP:=Lib.hid hkp
 have HKY:=Lib.hid hky
 have HM:=Lib.hid hm
 have hwr:=hit.fr.size
 have hkpl:=hkp.lt
 have hkyl:=hky.lt
 clear hI hx hit hE hkp hky hm HI0 HX0 E0
 by_cases hlt:k<p.conds.length
 · obtain ⟨m,hnm⟩ : ∃m,n=m+1:=by
    cases n with
    | zero=>have:=row_zero H1.out;rw [this] at hlt;simp at hlt
    | succ m=>exact ⟨m,rfl⟩
   subst hnm
   obtain ⟨y,hy0⟩ : ∃y,y=p.conds[k]:=⟨_,rfl⟩
   have hcr:=H1.out.fr HI.out.fr (fun k hk hn=>hn hk)
   obtain ⟨gt,ot,B1,b1_,B2,b2_,B3,b3_,hA,_,hgt,q0,q1,q2,q3,q4,q5,q6,r1,r2,r3⟩:=at_CondT hcr hlt
   have HDC:=Lib.hid (show (p.conds.drop k).flatMap (namesN (m+1))=namesN (m+1) y++(p.conds.drop (k+1)).flatMap (namesN (m+1)) by rw [hy0,List.drop_eq_getElem_cons hlt,List.flatMap_cons])
   subst hA
   rw [← hy0] at q0 q1 q2 q3 q4 q5 q6 r1 r2 r3
   have j1:(0:Int)≤(k:Int):=by omega
   have j2:(k:Int)<(p.conds.length:Int):=by omega
   obtain ⟨W5,hW5⟩ : ∃W5,W5=wr.alloc (.cells #[.int .i64 y.kind,.bool y.goal,.string y.id,.slice B1 y.attr.length b1_,.slice B2 y.value.length b2_,.bool y.acc,.slice B3 y.conds.length b3_] 50):=⟨_,rfl⟩
   have hb5:Below wr.heap.size wr W5:=by rw [hW5];exact (Below.refl _ _).alloc (Nat.le_refl _) _
   have HW5:=Lib.hid hW5
   have HB5:=Lib.hid hb5
   have R1:=Lib.hid (r1.new_ hb5)
   have R2:=Lib.hid (r2.new_ hb5)
   have R3:=Lib.hid (r3.new_ hb5)
   clear hy0 hcr r1 r2 r3 hW5 hb5
   gi_wp2_with fail
   rw [← HW5.out]
   refine ⟨trivial,rfl,?_⟩
   refine (callsIn_wide.2 (mknames_is y B1 B2 B3 b1_ b2_ b3_ W5)).mono ?_
   rintro e w3 ⟨rfl,hkb,hb3⟩
   have hz5:=HB5.out.size
   have hz3:=hb3.size
   have hkbl:=hkb.lt
   obtain ⟨kb,hkbe⟩ : ∃kb,kb=W5.heap.size:=⟨_,rfl⟩
   rw [← hkbe] at hkb hkbl ⊢
   have HB3:=Lib.hid (HB5.out.trans (hb3.mono hz5))
   have R1:=Lib.hid (R1.out.new_ hb3)
   have R2:=Lib.hid (R2.out.new_ hb3)
   have R3:=Lib.hid (R3.out.new_ hb3)
   have HKB:=Lib.hid hkb
   have HE5:=Lib.hid (show Plus E wr w3 kb from .inr ⟨by omega,hkbl⟩)
   have HI3:=Lib.hid (HI.out.new_ HJ.out HB3.out)
   have HKP3:=Lib.hid (HKP.out.new_ HB3.out)
   have HKY3:=Lib.hid (HKY.out.new_ HB3.out)
   have HM3:=Lib.hid (show Marks (fun k=>E k∧k<wr.heap.size) ds w3 from (HM.out.of).fr (Fr.of_below HB3.out) (fun k hk hn=>by have:=hk.2;omega))
   have HDW:=Lib.hid (show ∀k,D k→k<W.heap.size from HD.out)
   have hw3:wr.heap.size≤w3.heap.size:=by omega
   clear hkb hb3 q0 q1 q2 q3 q4 q5 q6 hkbe
   gi_wp2_with fail
   obtain ⟨I2,hI2⟩ : ∃I2:(Nat→Prop)→List ByteArray→World→Prop,I2=fun D' q X=>∃E',ItSt J D E' W (pre++q) X∧(∀k,D' k→D k∨E' k)∧(∀k,E k→E' k)∧Blk X W.heap.size 25 #[.string p.name,.slice (some ⟨gt,ot,none⟩) p.conds.length c1,.slice A2 p.acts.length c2]∧Blk X (W.heap.size+1) 67 #[.func (.yield lo) #[] #[]]∧Marks (fun k=>E k∧k<wr.heap.size) ds X:=⟨_,rfl⟩
   obtain ⟨Ix,hIx⟩ : ∃Ix:Code→(Nat→Prop)→List ByteArray→World→Prop,Ix=fun cd D' q X=>cd = .ret∧∃E',StopSt Jx D E' W xs X∧(∀k,D' k→D k∨E' k)∧(∀k,E k→E' k)∧Marks (fun k=>E k∧k<wr.heap.size) ds X:=⟨_,rfl⟩
   have hup : ∀(D' E':Nat→Prop),(∀k,D' k→D k∨E' k)→∀k,FromB w3.heap.size D' k→E' k:=fun D' E' h k hk=>by
    rcases h k hk.1 with h1 | h1
    · have:=HDW.out k h1;have:=hk.2;omega
    · exact h1
   have HUP:=Lib.hid hup
   have hst:Steady w3.heap.size I2:=by
    subst hI2
    rintro D' q X Y ⟨E',g1,g2,g3,g4,g5,g6⟩ hF
    exact ⟨Plus E' X Y,g1.step HJ.out (hF.mono (fun k _ hk=>HUP.out D' E' g2 k hk)),fun k hk=>hk.elim (fun h=>(g2 k h).imp id .inl) (fun h=>.inr (.inr h)),fun k hk=>.inl (g3 k hk),g4.fr hF (fun h=>by have:=h.2;omega),g5.fr hF (fun h=>by have:=h.2;omega),g6.fr hF (fun k hk h=>by have:=hk.2;have:=h.2;omega)⟩
   have hstx : ∀cd,Steady w3.heap.size (Ix cd):=by
    subst hIx
    rintro cd D' q X Y ⟨g0,E',g1,g2,g3,g6⟩ hF
    exact ⟨g0,Plus E' X Y,g1.step HJx.out (hF.mono (fun k _ hk=>HUP.out D' E' g2 k hk)),fun k hk=>hk.elim (fun h=>(g2 k h).imp id .inl) (fun h=>.inr (.inr h)),fun k hk=>.inl (g3 k hk),g6.fr hF (fun k hk h=>by have:=hk.2;have:=h.2;omega)⟩
   have HST:=Lib.hid hst
   have HSTX:=Lib.hid hstx
   refine wpIn_rangeO (w:=w3) (D:=fun j=>D j∨j=kb) (by rfl) (by intro args w;kernel_rfl) (fun k hk=>hk.elim (fun h=>by have:=HDW.out k h;omega) (fun h=>by omega))
    (fun V hV=>namesI_is m y kb B1 B2 B3 b1_ b2_ b3_ V (HKB.out.new_ hV) (.inr rfl) ((R1.out.new_ hV).weaken (fun k hk=>.inl hk)) ((R2.out.new_ hV).weaken (fun k hk=>.inl hk)) ((R3.out.new_ hV).weaken (fun k hk=>.inl hk)))
    (fun x=>by rfl) I2 Ix hst hstx ?_ ?_ ?_ ?_
   · subst hI2
     exact ⟨Plus E wr w3,by rw [List.append_nil];exact HI3.out,fun k hk=>hk.imp id (fun h=>by rw [h];exact HE5.out),fun k hk=>.inl hk,HKP3.out,HKY3.out,HM3.out⟩
   · intro D' l q x post X hx2 hl hDl hIX
     have HX2:=Lib.hid (show xs=(pre++q)++x :: (post++((p.conds.drop (k+1)).flatMap (namesN (m+1))++ra)) by rw [HX.out,HDC.out,hx2];simp)
     simp only [encStr,Array.zip]
     gi_wp2_with fail
     refine ⟨Fr.refl _ _,fun X2 hF2 hz2 _=>?_⟩
     have hI3:=hst.same hIX (hF2.mono (fun k _ e=>by rw [e];exact ⟨hDl,hl⟩)) hz2
     have HI2:=Lib.hid hI2
     have HIX:=Lib.hid hIx
     rw [hI2] at hI3
     clear hI2 hIx hst hstx hIX hF2 hz2 hx2 hup
     obtain ⟨E',g1,g2,g3,g4,g5,g6⟩:=hI3
     have y0:X2.cell? ⟨W.heap.size+1,0,none⟩=some (.func (.yield lo) #[] #[]):=(g5.cell 0).trans rfl
     have yz:=g5.lt
     have G1:=Lib.hid g1
     have G2:=Lib.hid g2
     have G3:=Lib.hid g3
     have G4:=Lib.hid g4
     have G5:=Lib.hid g5
     have G6:=Lib.hid g6
     have hEW:=Lib.hid (show E' W.heap.size∧E' (W.heap.size+1) from ⟨g3 _ HE.out.1,g3 _ HE.out.2⟩)
     obtain ⟨fy,ty,ay,by_,hyy,hR⟩:=g1.roundS HY.out HX2.out
     dsimp only [encStr] at hyy
     have HRR:=Lib.hid hR
     clear hR g1 g2 g3 g4 g5 g6
     gi_wp2_with fail
     refine ⟨rfl,HRR.out.mono ?_⟩
     rintro e W3 (⟨rfl,hi3,hk3⟩ | ⟨rfl,hs3,hk3⟩)
     · have HI3:=Lib.hid hi3
       have HK3:=Lib.hid hk3
       clear hi3 hk3 hyy y0 yz
       gi_wp2
       rw [HI2.out]
       exact ⟨HK3.out.mono (fun k _ hk hd=>hk (G2.out k hd)),E',by rw [← List.append_assoc];exact HI3.out,G2.out,G3.out,G4.out.fr HK3.out (fun h=>h (.inr hEW.out.1)),G5.out.fr HK3.out (fun h=>h (.inr hEW.out.2)),G6.out.fr HK3.out (fun k hk h=>h (.inr (G3.out k hk.1)))⟩
     · have HS3:=Lib.hid hs3
       have HK3:=Lib.hid hk3
       clear hs3 hk3 hyy y0 yz
       gi_wp2
       rw [HIX.out]
       exact ⟨HK3.out.mono (fun k _ hk hd=>hk (G2.out k hd)),rfl,E',HS3.out,G2.out,G3.out,G6.out.fr HK3.out (fun k hk h=>h (.inr (G3.out k hk.1)))⟩
   · intro D' d X hd hDd hIX hK
     rw [hI2] at hIX
     obtain ⟨E',g1,g2,g3,g4,g5,g6⟩:=hIX
     have hE'd:E' d:=HUP.out D' E' g2 d ⟨hDd,hd⟩
     have HMX:=Lib.hid (show Marks E' ({ target:=.collected d,args:=#[] } :: ds) X from g6.cons (fun k hk=>g3 k hk.1) hE'd hK (fun h=>by have:=h.2;omega))
     have G1:=Lib.hid g1
     have G3:=Lib.hid g3
     have G4:=Lib.hid g4
     have G5:=Lib.hid g5
     have HXE:=Lib.hid (show xs=(pre++namesN (m+1) y)++((p.conds.drop (k+1)).flatMap (namesN (m+1))++ra) by rw [HX.out,HDC.out];simp)
     clear hI2 hIx hst hstx g1 g2 g3 g4 g5 g6 hK hup
     gi_wp2_with fail
     refine ⟨?_,by simp [intOf];omega⟩
     rw [HII.out]
     exact ⟨k+1,_,E',_,_,_,_,_,_,_,_,_,_,_,_,_,_,by omega,HXE.out,G1.out,⟨G3.out _ HE.out.1,G3.out _ HE.out.2⟩,G4.out,G5.out,HMX.out,by go_num⟩
   · intro D' d cd q post X hd hDd hx2 hIX hK
     rw [hIx] at hIX
     obtain ⟨rfl,E',g1,g2,g3,g6⟩:=hIX
     have hE'd:E' d:=HUP.out D' E' g2 d ⟨hDd,hd⟩
     have HMX:=Lib.hid (show Marks E' ({ target:=.collected d,args:=#[] } :: ds) X from g6.cons (fun k hk=>g3 k hk.1) hE'd hK (fun h=>by have:=h.2;omega))
     have G1:=Lib.hid g1
     clear hI2 hIx hst hstx g1 g2 g3 g6 hK hup hx2
     gi_wp2_with fail
     refine leaves_marks _ _ HMX.out (fun w' hF hz=>?_)
     exact ⟨_,results_none rfl _ _ _,⟨_,rfl⟩,(G1.out.same HJx.out hF hz).told⟩
 · obtain rfl:k=p.conds.length:=by omega
   have HXA:=Lib.hid (show xs=pre++(p.acts.drop 0).flatMap varsA by rw [HX.out,List.drop_length,HRA.out];simp)
   have p2:wr.cell? ⟨W.heap.size,2,none⟩=some (.slice A2 p.acts.length c2):=(HKP.out.cell 2).trans rfl
   clear HX
   gi_wp2_with fail
   clear p2
   gi_loopw [29] (fun s wr=>∃(i:Nat) (E1:Nat→Prop) (p1:List ByteArray),s = .int .i64 i∧i≤p.acts.length∧xs=p1++(p.acts.drop i).flatMap varsA∧ItSt J D E1 W p1 wr∧(∀k,E k→E1 k)∧Blk wr (W.heap.size+1) 67 #[.func (.yield lo) #[] #[]]∧Marks E1 ds wr) (fun s wr=>p.acts.length - (intOf s).toNat)
   case atStart=>exact ⟨0,E,pre,rfl,Nat.zero_le _,HXA.out,HI.out,fun _ h=>h,HKY.out,HM.out⟩
   case round=>
    obtain ⟨i,E1,p1,rfl,hi,hx1,hit1,hee,hky1,hm1⟩:=hrel
    have HX1:=Lib.hid hx1
    have HI1:=Lib.hid hit1
    have HEE:=Lib.hid hee
    have HKY1:=Lib.hid hky1
    have HM1:=Lib.hid hm1
    have hyl:=hky1.lt
    clear hx1 hit1 hee hky1 hm1 HXA HI HKY HM hkpl hkyl
    by_cases hlt:i<p.acts.length
    · obtain ⟨y,hy⟩ : ∃y,y=p.acts[i]:=⟨_,rfl⟩
      have h2r:=H2.out.fr HI1.out.fr (fun k hk hn=>hn hk)
      obtain ⟨gg,oo,hAA,_,hgg,_⟩:=at_ActT h2r hlt
      have HRG:=Lib.hid (show wr.rangeAt gg (oo+i*19) [.string y.id,.string y.attr.var,.int .i64 y.attr.sym.kind,.string y.attr.sym.text,.int .i64 y.attr.sym.n,.int .i64 y.value.op,.string y.value.a.var,.int .i64 y.value.a.sym.kind,.string y.value.a.sym.text,.int .i64 y.value.a.sym.n,.string y.value.b.var,.int .i64 y.value.b.sym.kind,.string y.value.b.sym.text,.int .i64 y.value.b.sym.n,.int .i64 y.pref,.string y.other.var,.int .i64 y.other.sym.kind,.string y.other.sym.text,.int .i64 y.other.sym.n] from fun j v hv=>by
       obtain ⟨g',off',cs,e1,_,_,hr,hc⟩:=h2r.at_ hlt
       rw [hAA] at e1
       cases e1
       have hr2:cs=ActT.cells p.acts[i]:=hr
       subst hr2
       rw [← hy] at hc
       exact hc j v hv)
      have HDR:=Lib.hid (show (p.acts.drop i).flatMap varsA=varsA y++(p.acts.drop (i+1)).flatMap varsA by rw [List.drop_eq_getElem_cons hlt,List.flatMap_cons,← hy])
      subst hAA
      have b1:(0:Int)≤(i:Int):=by omega
      have b2:(i:Int)<(p.acts.length:Int):=by omega
      obtain ⟨W6,hW6,hth,hrg,hb6,hz6⟩:=kept_new (w:=wr) (t:=58) [.string ⟨#[]⟩,.string ⟨#[]⟩,.int .i64 0,.string ⟨#[]⟩,.int .i64 0,.int .i64 0,.string ⟨#[]⟩,.int .i64 0,.string ⟨#[]⟩,.int .i64 0,.string ⟨#[]⟩,.int .i64 0,.string ⟨#[]⟩,.int .i64 0,.int .i64 0,.string ⟨#[]⟩,.int .i64 0,.string ⟨#[]⟩,.int .i64 0] [.string y.id,.string y.attr.var,.int .i64 y.attr.sym.kind,.string y.attr.sym.text,.int .i64 y.attr.sym.n,.int .i64 y.value.op,.string y.value.a.var,.int .i64 y.value.a.sym.kind,.string y.value.a.sym.text,.int .i64 y.value.a.sym.n,.string y.value.b.var,.int .i64 y.value.b.sym.kind,.string y.value.b.sym.text,.int .i64 y.value.b.sym.n,.int .i64 y.pref,.string y.other.var,.int .i64 y.other.sym.kind,.string y.other.sym.text,.int .i64 y.other.sym.n] rfl
      have HW6:=Lib.hid hW6
      have HTH:=Lib.hid hth
      have e0:W6.cell? ⟨wr.heap.size,0,none⟩=some (.string y.id):=hrg 0 _ rfl
      have e1:W6.cell? ⟨wr.heap.size,1,none⟩=some (.string y.attr.var):=hrg 1 _ rfl
      have e6:W6.cell? ⟨wr.heap.size,6,none⟩=some (.string y.value.a.var):=hrg 6 _ rfl
      have e10:W6.cell? ⟨wr.heap.size,10,none⟩=some (.string y.value.b.var):=hrg 10 _ rfl
      have e15:W6.cell? ⟨wr.heap.size,15,none⟩=some (.string y.other.var):=hrg 15 _ rfl
      have hlo6:wr.heap.size<W6.heap.size:=by omega
      have HI6:=Lib.hid (HI1.out.new_ HJ.out hb6)
      have HKY6:=Lib.hid (HKY1.out.new_ hb6)
      have HM6:=Lib.hid ((HM1.out.of.fr (Fr.of_below hb6) (fun k hk hn=>by have:=hk.2;omega)).mono (fun k hk=>(.inl hk.1:Plus E1 wr W6 k)))
      have HE6:=Lib.hid (show ∀k,E k→Plus E1 wr W6 k from fun k hk=>.inl (HEE.out k hk))
      have HX6:=Lib.hid (show xs=p1++(((fives y).drop 0).flatMap oneN++(p.acts.drop (i+1)).flatMap varsA) by rw [HX1.out,HDR.out];rfl)
      clear hy h2r hW6 hth hrg hb6 hz6
      gi_wp2_with (first
       | (with_reducible refine wpListIn_load_mid rfl 58 _ rfl gg (oo+i*19) rfl [.string y.id,.string y.attr.var,.int .i64 y.attr.sym.kind,.string y.attr.sym.text,.int .i64 y.attr.sym.n,.int .i64 y.value.op,.string y.value.a.var,.int .i64 y.value.a.sym.kind,.string y.value.a.sym.text,.int .i64 y.value.a.sym.n,.string y.value.b.var,.int .i64 y.value.b.sym.kind,.string y.value.b.sym.text,.int .i64 y.value.b.sym.n,.int .i64 y.pref,.string y.other.var,.int .i64 y.other.sym.kind,.string y.other.sym.text,.int .i64 y.other.sym.n] _ HRG.out Try.underlying58 rfl (by kernel_rfl) ?_)
       | ((with_reducible refine wpListIn_store_mid rfl 58 _ _ rfl wr.heap.size 0 #[.string y.id,.string y.attr.var,.int .i64 y.attr.sym.kind,.string y.attr.sym.text,.int .i64 y.attr.sym.n,.int .i64 y.value.op,.string y.value.a.var,.int .i64 y.value.a.sym.kind,.string y.value.a.sym.text,.int .i64 y.value.a.sym.n,.string y.value.b.var,.int .i64 y.value.b.sym.kind,.string y.value.b.sym.text,.int .i64 y.value.b.sym.n,.int .i64 y.pref,.string y.other.var,.int .i64 y.other.sym.kind,.string y.other.sym.text,.int .i64 y.other.sym.n] rfl rfl HTH.out (by kernel_rfl) (by kernel_rfl) ?_);rw [← HW6.out]))
      clear e0 e1 e6 e10 e15 hlo6
      gi_loopw [50] (fun s wr=>∃(j:Nat) (E1:Nat→Prop) (p1:List ByteArray),s = .int .i64 j∧j≤5∧xs=p1++(((fives y).drop j).flatMap oneN++(p.acts.drop (i+1)).flatMap varsA)∧ItSt J D E1 W p1 wr∧(∀k,E k→E1 k)∧Blk wr (W.heap.size+1) 67 #[.func (.yield lo) #[] #[]]∧Marks E1 ds wr) (fun s wr=>5 - (intOf s).toNat)
      case atStart=>exact ⟨0,_,_,rfl,by omega,HX6.out,HI6.out,HE6.out,HKY6.out,HM6.out⟩
      case round=>
       clear HX1 HI1 HEE HKY1 HM1 HRG HW6 HTH HI6 HKY6 HM6 HE6 HX6
       obtain ⟨j,E1,p1,rfl,hj,hx1,hit1,hee,hky1,hm1⟩:=hrel
       have HX1:=Lib.hid hx1
       have HI1:=Lib.hid hit1
       have HEE:=Lib.hid hee
       have HKY1:=Lib.hid hky1
       have HM1:=Lib.hid hm1
       have y0:wr.cell? ⟨W.heap.size+1,0,none⟩=some (.func (.yield lo) #[] #[]):=(hky1.cell 0).trans rfl
       have yz:=hky1.lt
       clear hx1 hit1 hee hky1 hm1
       by_cases hj5:j<5
       · obtain ⟨v,hix,hv⟩ : ∃v:ByteArray,(∀V,(Instr.index 97 (.agg #[.string y.id,.string y.attr.var,.string y.value.a.var,.string y.value.b.var,.string y.other.var]) (.int .i64 (j:Int))).run Try.prog V = .ok (.string v) V)∧((fives y).drop j).flatMap oneN=oneN v++((fives y).drop (j+1)).flatMap oneN:=by
          match j,hj5 with
          | 0,_=>exact ⟨y.id,fun V=>by rfl,rfl⟩
          | 1,_=>exact ⟨y.attr.var,fun V=>by rfl,rfl⟩
          | 2,_=>exact ⟨y.value.a.var,fun V=>by rfl,rfl⟩
          | 3,_=>exact ⟨y.value.b.var,fun V=>by rfl,rfl⟩
          | 4,_=>exact ⟨y.other.var,fun V=>by rfl,rfl⟩
         have HV:=Lib.hid hv
         have jj1:(0:Int)≤(j:Int):=by omega
         have jj2:(j:Int)<5:=by omega
         clear hv
         by_cases hve:v.toList = []
         · have va:(v.toList == [])=true:=by simp [hve]
           have vb:v.toList.isEmpty=true:=by simp [hve]
           have vc:decide (v.toList = [])=true:=by simp [hve]
           have HXN:=Lib.hid (show xs=p1++(((fives y).drop (j+1)).flatMap oneN++(p.acts.drop (i+1)).flatMap varsA) by rw [HX1.out,HV.out,oneN_no hve,List.nil_append])
           clear hve
           gi_wp2_with fail
           refine ⟨(fun f h=>by cases h),?_⟩
           gi_wp2_with fail
           go_roundw
           case rel=>exact ⟨j+1,E1,p1,by go_num,by omega,HXN.out,HI1.out,HEE.out,HKY1.out,HM1.out⟩
           case measure=>simp [intOf]<;>omega
         · have va:(v.toList == [])=false:=by simp [hve]
           have vb:v.toList.isEmpty=false:=by simp [hve]
           have vc:decide (v.toList = [])=false:=by simp [hve]
           have HXV:=Lib.hid (show xs=p1++v :: (((fives y).drop (j+1)).flatMap oneN++(p.acts.drop (i+1)).flatMap varsA) by rw [HX1.out,HV.out,oneN_yes hve];simp)
           clear hve
           obtain ⟨fy,ty,ay,by_,hyy,hR⟩:=HI1.out.roundS HY.out HXV.out
           dsimp only [encStr] at hyy
           have HRR:=Lib.hid hR
           clear hR
           gi_wp2_with fail
           refine ⟨rfl,HRR.out.mono ?_⟩
           rintro e W3 (⟨rfl,hi3,hk3⟩ | ⟨rfl,hs3,hk3⟩)
           · have HI3:=Lib.hid hi3
             have HK3:=Lib.hid hk3
             have HXN:=Lib.hid (show xs=(p1 ++ [v])++(((fives y).drop (j+1)).flatMap oneN++(p.acts.drop (i+1)).flatMap varsA) by rw [HXV.out];simp)
             clear hi3 hk3 hyy y0 yz
             gi_wp2_with fail
             go_roundw
             case rel=>exact ⟨j+1,E1,_,by go_num,by omega,HXN.out,HI3.out,HEE.out,HKY1.out.fr HK3.out (fun h=>h (.inr (HEE.out _ HE.out.2))),HM1.out.fr HK3.out (fun k hk h=>h (.inr hk))⟩
             case measure=>simp [intOf]<;>omega
           · have HS3:=Lib.hid hs3
             have HMX:=Lib.hid (HM1.out.fr hk3 (fun k hk h=>h (.inr hk)))
             clear hs3 hk3 hyy y0 yz
             gi_wp2_with fail
             refine leaves_marks _ _ HMX.out (fun w' hF hz=>?_)
             exact ⟨_,results_none rfl _ _ _,⟨_,rfl⟩,(HS3.out.same HJx.out hF hz).told⟩
       · obtain rfl:j=5:=by omega
         have HXN:=Lib.hid (show xs=p1++(p.acts.drop (i+1)).flatMap varsA by rw [HX1.out];rfl)
         clear y0 yz
         gi_wp2_with fail
         go_roundw
         case rel=>exact ⟨i+1,E1,p1,by go_num,by omega,HXN.out,HI1.out,HEE.out,HKY1.out,HM1.out⟩
         case measure=>simp [intOf]<;>omega
    · obtain rfl:i=p.acts.length:=by omega
      have HXN:=Lib.hid (show p1=xs by have:=HX1.out;rw [List.drop_length,List.flatMap_nil,List.append_nil] at this;exact this.symm)
      gi_wp2_with fail
      refine leaves_marks _ _ HM1.out (fun w' hF hz=>?_)
      have h9:=HI1.out.same HJ.out hF hz
      rw [HXN.out] at h9
      exact ⟨_,results_none rfl _ _ _,⟨_,rfl⟩,h9.told⟩
end Go.Proofs.Ytffemfglngikbaa
namespace Go.Proofs.Ytffemfglngikbaa
open Go.RowKit Go.Shelf
attribute [local go_sem] Oper.semAt_some
set_option maxRecDepth 100000 in
set_option maxHeartbeats 4000000 in
theorem varsI_is {D:Nat→Prop} (n:Nat) (p:ProdT) (kb:Nat) (A1 A2:Option Addr) (c1 c2:Nat) (W:World) (hkb:Blk W kb 25 #[.string p.name,.slice A1 p.conds.length c1,.slice A2 p.acts.length c2]) (hD : ∀k,D k→k<W.heap.size) (h1:RowR (repCondT n) D W A1 c1 p.conds) (h2:RowR repActT D W A2 c2 p.acts) :
 IterO Try.prog 29 #[.pointer (some ⟨kb,0,none⟩)] encStr (varsP n p) W D:=by
 intro lo J Jx hJ hJx h0 hY
 have HC:=Lib.hid (each_is hJ hJx hY hD h0 p A1 c1 A2 c2 h1 h2 rfl)
 obtain ⟨vs,hvs⟩ : ∃vs,vs=varsP n p:=⟨_,rfl⟩
 rw [← hvs] at HC ⊢
 obtain ⟨q0,q1,q2⟩:=hkb.c3
 have hkl:=hkb.lt
 clear hvs h0 hJ hJx hY h1 h2 hkb hD
 refine callsIn_of_wp Try.func29 rfl trivial ?_
 simp only [Try.ntmps29,List.size_toArray,List.length_cons,List.length_nil,Nat.reduceAdd,Nat.reduceSub,Array.replicate_succ,Array.replicate_zero,List.push_toArray,List.append_toArray,List.nil_append,List.cons_append]
 gi_wp2_with fail
 refine ⟨trivial,rfl,?_⟩
 refine HC.out.mono ?_
 rintro e w5 ⟨⟨v,rfl⟩,hT⟩
 have HT:=Lib.hid hT
 clear hT q0 q1 q2
 gi_wp2_with fail
 go_end0
 exact ⟨⟨_,rfl⟩,HT.out⟩
set_option maxHeartbeats 400000 in
theorem mkvars_is (p:ProdT) (A1 A2:Option Addr) (c1 c2:Nat) (w:World) :
 Calls Try.prog 11 #[.agg #[.string p.name,.slice A1 p.conds.length c1,.slice A2 p.acts.length c2]] w fun e w'=>e = .returned (.func (.func 29) #[] #[.pointer (some ⟨w.heap.size,0,none⟩)])∧Blk w' w.heap.size 25 #[.string p.name,.slice A1 p.conds.length c1,.slice A2 p.acts.length c2]∧Below w.heap.size w w':=by
 go_enter Try.func11,Try.ntmps11
 go_wp2_with fail
 go_ret
 exact ⟨rfl,Blk.new _ _ _,(Below.refl _ _).alloc (Nat.le_refl _) _⟩
def MapAt (bm bp:Nat) (us:List ByteArray) (S:Nat→Prop) (X:World):Prop:=
 ∃sn A cc mm,Blk X bm 106 #[.pointer (some ⟨bp,0,none⟩)]∧PgWSet X bp sn A cc mm∧MapOk mm us∧AIn A S
theorem MapAt.new_ {bm bp:Nat} {us:List ByteArray} {S:Nat→Prop} {X Y:World} (h:MapAt bm bp us S X) (hb:Below X.heap.size X Y):MapAt bm bp us S Y:=by
 obtain ⟨sn,A,cc,mm,h1,h2,h3,h4⟩:=h
 exact ⟨sn,A,cc,mm,h1.new_ hb,h2.new_ hb,h3,h4⟩
theorem MapAt.fr {bm bp:Nat} {us:List ByteArray} {S M:Nat→Prop} {X Y:World} (h:MapAt bm bp us S X) (hF:Fr M X Y) (hm : ¬M bm) (hp : ¬M bp) (hS : ∀k,S k→¬M k):MapAt bm bp us S Y:=by
 obtain ⟨sn,A,cc,mm,h1,h2,h3,h4⟩:=h
 exact ⟨sn,A,cc,mm,h1.fr hF hm,h2.fr hF hp (h4.mono hS),h3,h4⟩
theorem mget_is {bm bp:Nat} {us:List ByteArray} {S:Nat→Prop} (v:ByteArray) (w:World) (h:MapAt bm bp us S w) (hl:us.length≤1000000) :
 Calls Try.prog 43 #[.pointer (some ⟨bm,0,none⟩),.string v] w fun e w'=>e = .returned (.tuple #[.string (numT us v),.bool (decide (v∈us))])∧Below w.heap.size w w':=by
 obtain ⟨sn,A,cc,mm,h1,h2,h3,h4⟩:=h
 have hlm:(mm.length:Int)≤1000000:=by rw [h3.len];omega
 by_cases hv:v∈us
 · obtain ⟨y,g1,g2⟩:=h3.get (z:=⟨#[]⟩) hv
   have:=wmapget_is bm bp cc sn A mm v y w h1 h2 h3.srt hlm (by rw [h3.has,decide_eq_true hv]) g1
   rw [g2] at this
   rw [decide_eq_true hv]
   exact this
 · have:=wmapget_no bm bp cc sn A mm v w h1 h2 h3.srt hlm (by rw [h3.has,decide_eq_false hv])
   rw [decide_eq_false hv,numT,if_neg hv]
   exact this
set_option maxRecDepth 100000 in
set_option maxHeartbeats 4000000 in
theorem pnamer_is {bt bm bp:Nat} {us:List ByteArray} {S:Nat→Prop} (w:World) (hb:Blk w bt 81 #[.pointer (some ⟨bm,0,none⟩)]) (h:MapAt bm bp us S w) (hl:us.length≤1000000) :
 NamerOk 47 #[.pointer (some ⟨bt,0,none⟩)] w (fun _=>True) (numT us):=by
 refine ⟨fun args w=>by kernel_rfl,fun v W hW _=>?_⟩
 have HC:=Lib.hid (mget_is v W (h.new_ hW) hl)
 have hB:=hb.new_ hW
 have b0:=hB.c1
 have bz:=hB.lt
 clear h hb hB hW
 show Calls Try.prog 47 #[.string v,.pointer (some ⟨bt,0,none⟩)] W _
 obtain ⟨t,ht⟩ : ∃t,t=numT us v:=⟨_,rfl⟩
 obtain ⟨b,hbb⟩ : ∃b,b=decide (v∈us):=⟨_,rfl⟩
 rw [← ht,← hbb] at HC
 rw [← ht]
 clear ht hbb
 go_enter Try.func47,Try.ntmps47
 go_wp2_with fail
 refine HC.out.mono ?_
 rintro e w5 ⟨rfl,hb5⟩
 have HB5:=Lib.hid hb5
 clear hb5 b0
 go_wp2_with fail
 go_ret
 exact ⟨rfl,HB5.out⟩
def PlI (w:World) (bt bm bp:Nat) (cp:Array Value) (D:Nat→Prop) (q:List ByteArray) (X:World):Prop:=
 Blk X bt 81 #[.pointer (some ⟨bm,0,none⟩)]∧MapAt bm bp (uq q) (fun k=>w.heap.size+2≤k∧¬D k) X∧Blk X w.heap.size 25 cp∧Blk X (w.heap.size+1) 25 #[.string ⟨#[]⟩,.slice none 0 0,.slice none 0 0]∧
  (¬D bt∧¬D bm∧¬D bp∧¬D w.heap.size∧¬D (w.heap.size+1))∧(w.heap.size+2≤bt∧w.heap.size+2≤bm∧w.heap.size+2≤bp)∧Below w.heap.size w X∧∀k,D k→k<X.heap.size
theorem PlI.step {w:World} {bt bm bp B:Nat} {cp:Array Value} {D:Nat→Prop} {q:List ByteArray} {X Y:World} (h:PlI w bt bm bp cp D q X) (hB:w.heap.size≤B) (hF:Fr (FromB B D) X Y):PlI w bt bm bp cp (Plus D X Y) q Y:=by
 obtain ⟨h1,h2,h3,h4,⟨n1,n2,n3,n4,n5⟩,h6,h7,h8⟩:=h
 have hl1:=h1.lt
 have hl3:=h3.lt
 have hl4:=h4.lt
 have hl2:bm<X.heap.size∧bp<X.heap.size:=by obtain ⟨_,_,_,_,g1,g2,_⟩:=h2;exact ⟨g1.lt,g2.lt⟩
 have np : ∀k,k<X.heap.size→¬D k→¬Plus D X Y k:=fun k hk hn hp=>hp.elim hn (fun h=>by omega)
 refine ⟨h1.fr hF (fun h=>n1 h.1),?_,h3.fr hF (fun h=>n4 h.1),h4.fr hF (fun h=>n5 h.1),⟨np _ hl1 n1,np _ hl2.1 n2,np _ hl2.2 n3,np _ hl3 n4,np _ hl4 n5⟩,h6,h7.trans (hF.below h7.size (fun k hk hn=>by have:=hn.2;omega)),fun k hk=>hk.elim (fun hk=>Nat.lt_of_lt_of_le (h8 k hk) hF.size) (·.2)⟩
 obtain ⟨sn,A,cc,mm,g1,g2,g3,g4⟩:=h2
 have hA:=g2.row_lt
 exact ⟨sn,A,cc,mm,g1.fr hF (fun h=>n2 h.1),g2.fr hF (fun h=>n3 h.1) (g4.mono (fun k hk h=>hk.2 h.1)),g3,fun a ha=>⟨(g4 a ha).1,np _ (hA a ha) (g4 a ha).2⟩⟩
theorem PlI.new_ {w:World} {bt bm bp:Nat} {cp:Array Value} {D:Nat→Prop} {q:List ByteArray} {X Y:World} (h:PlI w bt bm bp cp D q X) (hb:Below X.heap.size X Y):PlI w bt bm bp cp D q Y:=by
 obtain ⟨h1,h2,h3,h4,h5,h6,h7,h8⟩:=h
 exact ⟨h1.new_ hb,h2.new_ hb,h3.new_ hb,h4.new_ hb,h5,h6,h7.trans (hb.mono h7.size),fun k hk=>Nat.lt_of_lt_of_le (h8 k hk) hb.size⟩
theorem PlI.put {w:World} {bt bm bp cc:Nat} {sn:Bool} {A:Option Addr} {mm:List PgW} {cp:Array Value} {D:Nat→Prop} {q:List ByteArray} {v:ByteArray} {X X' Y:World} {sn':Bool} {A':Option Addr} {c':Nat} (h:PlI w bt bm bp cp D q X) (hb:Below X.heap.size X X') (hne:bt≠bp)
 (hM:Blk X' bm 106 #[.pointer (some ⟨bp,0,none⟩)]) (hS:PgWSet X' bp sn A cc mm) (hO:MapOk mm (uq q)) (hA:AIn A (fun k=>w.heap.size+2≤k∧¬D k)) (hv : ¬v∈uq q)
 (g1:PgWSet Y bp sn' A' c' (put cmpPgW mm ⟨v,nameW (mm.length+1)⟩)) (g2:Fr (SetMod bp sn A) X' Y) (g3:Moved X' sn A sn' A') (hAt:AIn A (fun k=>k≠bt∧k≠bm∧k≠w.heap.size∧k≠w.heap.size+1)) (hpm:bm≠bp) :
 PlI w bt bm bp cp D (q ++ [v]) Y∧Fr (fun k=>¬D k) X Y:=by
 obtain ⟨h1,h2,h3,h4,⟨n1,n2,n3,n4,n5⟩,h6,h7,h8⟩:=h
 have hz:=hb.size
 have hn : ∀k,k=bt∨k=bm∨k=w.heap.size∨k=w.heap.size+1→¬SetMod bp sn A k:=fun k hk hm=>by
  rcases hm with rfl | ⟨_,a,ha,hk2⟩
  · rcases hk with e | e | e | e
    · exact hne e.symm
    · exact hpm e.symm
    · omega
    · omega
  · have:=hAt a ha
    rw [hk2] at this
    rcases hk with e | e | e | e
    · exact this.1 e
    · exact this.2.1 e
    · exact this.2.2.1 e
    · exact this.2.2.2 e
 have hF:Fr (fun k=>¬D k) X Y:=(Fr.of_new hb).trans (g2.mono (fun k hk hm=>by
  rcases hm with rfl | ⟨_,a,ha,hk2⟩
  · exact n3
  · rw [← hk2];exact (hA a ha).2))
 refine ⟨⟨(h1.new_ hb).fr g2 (hn _ (.inl rfl)),?_,(h3.new_ hb).fr g2 (hn _ (.inr (.inr (.inl rfl)))),(h4.new_ hb).fr g2 (hn _ (.inr (.inr (.inr rfl)))),⟨n1,n2,n3,n4,n5⟩,h6,?_,fun k hk=>Nat.lt_of_lt_of_le (h8 k hk) hF.size⟩,hF⟩
 · refine ⟨sn',A',c',_,hM.fr g2 (hn _ (.inr (.inl rfl))),g1,by rw [uq_snoc,uqStep,if_neg hv];exact hO.put hv,fun a ha=>?_⟩
   rcases g3 with ⟨_,e⟩ | ⟨_,g,hg,e⟩
   · exact hA a (by rw [← e];exact ha)
   · rw [e] at ha
     injection ha with ha
     subst ha
     have:=h7.size
     exact ⟨by dsimp only;have:=h3.lt;have:=h4.lt;omega,fun hd=>by have:=h8 _ hd;dsimp only at this;omega⟩
 · exact (h7.trans (hb.mono h7.size)).trans (g2.below (by have:=h7.size;omega) (fun k hk hm=>by
    rcases hm with rfl | ⟨_,a,ha,hk2⟩
    · omega
    · have:=(hA a ha).1;rw [hk2] at this;omega))
end Go.Proofs.Ytffemfglngikbaa
