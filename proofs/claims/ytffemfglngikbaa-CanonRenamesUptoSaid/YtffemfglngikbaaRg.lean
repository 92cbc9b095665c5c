/-
  Texts put together: Canon4, Canon7, ShowPlain, Show1, Show2, Show3.
-/
import Derived.Test.YtffemfglngikbaaRf
import Derived.Test.YtffemfglngikbaaRb
import Derived.Test.YtffemfglngikbaaRe
import Derived.Maps.RangeWalk
namespace Go.Proofs.Ytffemfglngikbaa
open Go.RowKit Go.Shelf
def FreshP (n:Nat) (p:ProdT) (w:World) (en:Ending) (w':World):Prop:=
 ∃A1 c1 A2 c2,en = .returned (.agg #[.string p.name,.slice A1 p.conds.length c1,.slice A2 p.acts.length c2])∧RowR (repCondT n) (NewD w.heap.size w') w' A1 c1 p.conds∧RowR repActT (NewD w.heap.size w') w' A2 c2 p.acts∧Below w.heap.size w w'
def PH (n g:Nat) (p:ProdT) (L:List CondT) (W1:World) (k:Nat) (A:Option Addr) (c:Nat) (wr:World):Prop:=
 Blk wr g 25 #[.string p.name,.slice A k c,.slice none 0 0]∧∃C:Nat→Prop,¬C g∧(∀j,C j→NewD W1.heap.size wr j)∧W1.heap.size≤g∧OwnC (repCondT n) 50 C wr (.slice A (L.take k).length c) (L.take k)∧AIn A (fun j=>NewD W1.heap.size wr j∧j≠g)∧Below W1.heap.size W1 wr
section
variable {n g:Nat} {p:ProdT} {L:List CondT} {W1 wr:World} {k:Nat} {A:Option Addr} {c:Nat} {C:Nat→Prop}
theorem PH.step {y:CondT} {W7 w8:World} {A':Option Addr} {c':Nat} (hG:Blk wr g 25 #[.string p.name,.slice A k c,.slice none 0 0]) (hCg : ¬C g) (hC : ∀j,C j→NewD W1.heap.size wr j) (hg:W1.heap.size≤g)
 (hO:OwnC (repCondT n) 50 C wr (.slice A (L.take k).length c) (L.take k)) (hA:AIn A (fun j=>NewD W1.heap.size wr j∧j≠g)) (hB:Below W1.heap.size W1 wr) (hk1:k+1≤L.length) (hy:L.take k ++ [y]=L.take (k+1)) (h7:Below wr.heap.size wr W7)
 (ha:Appended (repCondT n) 50 (Plus C wr W7) W7 (.slice A (L.take k).length c) (L.take k ++ [y]) (.slice A' (k+1) c') w8):PH n g p L W1 (k+1) A' c' (w8.setCell ⟨g,1,none⟩ (.slice A' (k+1) c')):=by
 obtain ⟨a1,a2,a3⟩:=ha
 rw [hy] at a1
 have hz:=hB.size
 have hz7:=h7.size
 have hz8:=a2.size
 have hgl:=hG.lt
 have hnA : ∀j,(Value.slice A (L.take k).length c).ownBlock=some j→W1.heap.size≤j∧j<wr.heap.size∧j≠g:=fun j hj=>by
  rcases A with _ | a
  · simp [Value.ownBlock] at hj
  · simp only [Value.ownBlock,Option.some.injEq] at hj
    have:=hA a rfl
    exact ⟨by rw [← hj];exact this.1.1,by rw [← hj];exact this.1.2,by rw [← hj];exact this.2⟩
 have hlen:(L.take (k+1)).length=k+1:=take_len hk1
 have hG8:Blk w8 g 25 #[.string p.name,.slice A k c,.slice none 0 0]:=(hG.new_ h7).grown a2 (fun e=>(hnA g e).2.2 rfl)
 have hne8 : ∀j,(Value.slice A' (k+1) c').ownBlock=some j→W1.heap.size≤j∧j≠g:=fun j hj=>by
  rcases a3 with a3 | a3
  · have:=hnA j (a3 ▸ hj);exact ⟨this.1,this.2.2⟩
  · rw [a3] at hj;injection hj with hj;subst hj;exact ⟨by omega,by omega⟩
 have hCP : ∀j,Plus C wr W7 j→NewD W1.heap.size W7 j:=fun j hj=>by
  rcases hj with hj | hj
  · have:=hC j hj;exact ⟨this.1,by have:=this.2;omega⟩
  · exact ⟨by omega,hj.2⟩
 have hgP : ¬Plus C wr W7 g:=fun h=>by
  rcases h with h | h
  · exact hCg h
  · omega
 refine ⟨hG8.set_ 1 _,Plus C wr W7,hgP,fun j hj=>?_,hg,?_,?_,?_⟩
 · have:=hCP j hj;exact ⟨this.1,by have:=this.2;simp;omega⟩
 · rw [hlen]
   exact a1.fr (M:=(· = g)) ((Fr.refl (· = g) w8).setCell (p:=⟨g,1,none⟩) (.inl rfl) _) (fun j hj e=>by subst e;exact hgP hj) (fun j hj e=>by subst e;exact (hne8 _ hj).2 rfl)
 · intro a ha
   subst ha
   have hlt:=a1.lt a.block rfl
   exact ⟨⟨(hne8 _ rfl).1,by simpa using hlt⟩,(hne8 _ rfl).2⟩
 · exact ((hB.trans (h7.mono hz)).grown a2 (by omega) (fun j hj=>(hnA j hj).1)).setCell (by dsimp only;exact hg) _
end
def PA (g:Nat) (p:ProdT) (L:List CondT) (M:List ActT) (wm:World) (E1:Option Addr) (d1:Nat) (k:Nat) (A:Option Addr) (c:Nat) (wr:World):Prop:=
 Blk wr g 25 #[.string p.name,.slice E1 L.length d1,.slice A k c]∧Fr (· = g) wm wr∧wr.ownsRow 0 58 19 (.slice A k c) k ((M.take k).flatMap ActT.cells)∧AIn A (NewD wm.heap.size wr)
theorem PA.step {g:Nat} {p:ProdT} {L:List CondT} {M:List ActT} {wm wr W8 w9:World} {E1:Option Addr} {d1 k:Nat} {A:Option Addr} {c:Nat} {A':Option Addr} {c':Nat} {z:ActT} (h:PA g p L M wm E1 d1 k A c wr) (hgm:g<wm.heap.size) (hb:Below wr.heap.size wr W8) (hz:M.take k ++ [z]=M.take (k+1))
 (hown:w9.ownsRow 0 58 19 (.slice A' (k+1) c') (k+1) ((M.take k).flatMap ActT.cells++z.cells)) (hg:W8.grownBy w9 (Value.slice A k c).ownBlock) (hat:(Value.slice A' (k+1) c').ownBlock=(Value.slice A k c).ownBlock∨(Value.slice A' (k+1) c').ownBlock=some W8.heap.size) :
 PA g p L M wm E1 d1 (k+1) A' c' (w9.setCell ⟨g,2,none⟩ (.slice A' (k+1) c')):=by
 obtain ⟨h1,h2,h3,h4⟩:=h
 have hs:=h2.size
 have hs8:=hb.size
 have hs9:=hg.size
 have hA : ∀j,(Value.slice A k c).ownBlock=some j→wm.heap.size≤j∧j<wr.heap.size:=fun j hj=>by
  rcases A with _ | a
  · simp [Value.ownBlock] at hj
  · simp only [Value.ownBlock,Option.some.injEq] at hj
    rw [← hj];exact h4 a rfl
 have hG9:Blk w9 g 25 #[.string p.name,.slice E1 L.length d1,.slice A k c]:=(h1.new_ hb).grown hg (fun e=>by have:=(hA g e).1;omega)
 have hne:=own_blk_ne hown hG9 (by decide)
 refine ⟨hG9.set_ 2 _,?_,?_,?_⟩
 · exact (((h2.trans (Fr.of_new hb)).grown hg (fun j hj=>.inr (hA j hj).1))).setCell (p:=⟨g,2,none⟩) (.inl rfl) _
 · rw [← hz,List.flatMap_append]
   have:=ownsRow_setCell_other (a:=⟨g,2,none⟩) hown hne (.slice A' (k+1) c')
   simpa using this
 · intro a ha
   subst ha
   have hlt:=own_lt hown a.block rfl
   refine ⟨?_,by simpa using hlt⟩
   rcases hat with h | h
   · exact (hA a.block (h ▸ rfl)).1
   · simp only [Value.ownBlock,Option.some.injEq] at h
     omega
theorem there_of {w:World} {g:Nat} {t:TypeId} {cs:Array Value} {o n:Nat} (h:Blk w g t cs) (hn:o+n≤cs.size):w.there g o n:=by
 have h1:=h.there
 intro i hi
 have:=h1 (o+i) (by omega)
 simpa [Nat.add_assoc] using this
set_option maxRecDepth 100000 in
set_option maxHeartbeats 32000000 in
theorem crename_is {gf:Nat} {lb:Array Value} {w0:World} {Q:ByteArray→Prop} {t:ByteArray→ByteArray} (hN:NamerOk gf lb w0 Q t) (n:Nat) (p:ProdT) (A1:Option Addr) (c1:Nat) (A2:Option Addr) (c2:Nat) {D:Nat→Prop} (w:World) (hw:Below w0.heap.size w0 w)
 (h1:RowR (repCondT n) D w A1 c1 p.conds) (h2:RowR repActT D w A2 c2 p.acts) (hl1:p.conds.length≤1000) (hl2:p.acts.length≤1000) (hs : ∀x∈p.conds,SmC n x) (hq : ∀x∈p.conds,QC Q n x) (hqa : ∀a∈p.acts,QA Q a) :
 Calls Try.prog 17 #[.agg #[.string p.name,.slice A1 p.conds.length c1,.slice A2 p.acts.length c2],.func (.func gf) #[] lb] w (FreshP n (prodR t n p) w):=by
 obtain ⟨i0,hi0,hz0,hz1,hz2⟩:=infp inf_Act
 obtain ⟨j0,hj0,hy0,hyy1,hyy2⟩:=infp inf_Cond
 obtain ⟨L,hL⟩ : ∃l,l=p.conds.map (condR t n):=⟨_,rfl⟩
 obtain ⟨M,hM⟩ : ∃l,l=p.acts.map (actR t):=⟨_,rfl⟩
 have HR:=Lib.hid (show prodR t n p=⟨p.name,L,M⟩ by rw [hL,hM];rfl)
 have HLL:=Lib.hid (show L.length=p.conds.length by rw [hL,List.length_map])
 have HML:=Lib.hid (show M.length=p.acts.length by rw [hM,List.length_map])
 have HLG:=Lib.hid (show ∀k,(h:k<p.conds.length)→∃h':k<L.length,L[k]=condR t n p.conds[k] from fun k h=>⟨by rw [hL,List.length_map];exact h,by simp [hL]⟩)
 have HMG:=Lib.hid (show ∀k,(h:k<p.acts.length)→∃h':k<M.length,M[k]=actR t p.acts[k] from fun k h=>⟨by rw [hM,List.length_map];exact h,by simp [hM]⟩)
 have HREC:=Lib.hid (ccond_is hN)
 have HN:=Lib.hid hN
 have HS:=Lib.hid hs
 have HQ:=Lib.hid hq
 have HQA:=Lib.hid hqa
 have H1:=Lib.hid h1
 have H2:=Lib.hid h2
 have HW0:=Lib.hid hw
 clear hL hM hN hs hq hqa h1 h2 hw
 go_enter Try.func17,Try.ntmps17
 go_upto_region 2 with fail
 obtain ⟨W1,hW1⟩ : ∃W1,W1=(w.alloc (.cells #[.string p.name,.slice A1 p.conds.length c1,.slice A2 p.acts.length c2] 25)).alloc (.cells #[.string ⟨#[]⟩,.slice none 0 0,.slice none 0 0] 25):=⟨_,rfl⟩
 have hB1:Below w.heap.size w W1:=by rw [hW1];exact ((Below.refl _ _).alloc (Nat.le_refl _) _).alloc (by simp) _
 have hX1:Blk W1 w.heap.size 25 #[.string p.name,.slice A1 p.conds.length c1,.slice A2 p.acts.length c2]:=by rw [hW1];exact (Blk.new _ _ _).alloc _
 have hR1:Blk W1 (w.heap.size+1) 25 #[.string ⟨#[]⟩,.slice none 0 0,.slice none 0 0]:=by rw [hW1];have:=Blk.new (w.alloc (.cells #[.string p.name,.slice A1 p.conds.length c1,.slice A2 p.acts.length c2] 25)) 25 #[.string ⟨#[]⟩,.slice none 0 0,.slice none 0 0];simpa using this
 have hz1w:W1.heap.size=w.heap.size+2:=by rw [hW1];simp
 rw [← hW1]
 clear hW1
 obtain ⟨p0,p1,p2⟩:=hX1.c3
 have HB1:=Lib.hid hB1
 have HX1:=Lib.hid hX1
 have HR1:=Lib.hid hR1
 have HZ1:=Lib.hid hz1w
 have HWZ:=Lib.hid (show w.heap.size≤W1.heap.size by omega)
 have hxl1:=hX1.lt
 clear hB1 hX1 hR1 hz1w
 go_upto_region 3 with fail
 obtain ⟨W2,hW2⟩ : ∃W2,W2=W1.alloc (.cells #[.string p.name,.slice none 0 0,.slice none 0 0] 25):=⟨_,rfl⟩
 have hB2:Below W1.heap.size W1 W2:=by rw [hW2];exact (Below.refl _ _).alloc (Nat.le_refl _) _
 have hG2:Blk W2 W1.heap.size 25 #[.string p.name,.slice none 0 0,.slice none 0 0]:=by rw [hW2];exact Blk.new _ _ _
 rw [← hW2]
 clear hW2
 have HX2:=Lib.hid (HX1.out.new_ hB2)
 obtain ⟨g,hg⟩ : ∃g,g=W1.heap.size:=⟨_,rfl⟩
 rw [← hg] at hG2 ⊢
 have H0:=Lib.hid (show PH n g p L W1 0 none 0 W2 from ⟨hG2,fun _=>False,fun h=>h,fun j h=>h.elim,by omega,OwnC.nil _ _ _ _,AIn.none_ _,hB2⟩)
 have hgw:=hg
 have HGW:=Lib.hid hgw
 clear hB2 hG2 p0 p1 p2 hxl1 hg hgw
 obtain ⟨p0,p1,p2⟩:=HX2.out.c3
 have hxl1:=HX2.out.lt
 go_wp2_with fail
 go_loopw [18] (fun i wr=>∃(k:Nat) (A:Option Addr) (c:Nat),i = .int .i64 k∧k≤p.conds.length∧PH n g p L W1 k A c wr) (fun i wr=>p.conds.length - (intOf i).toNat)
 case atStart=>exact ⟨0,none,0,rfl,Nat.zero_le _,H0.out⟩
 case round=>
  obtain ⟨k,A,c,rfl,hk,hRH⟩:=hrel
  obtain ⟨hG,C,hCg,hC,hgg,hO,hA,hB⟩:=hRH
  have hzr:=hB.size
  clear p0 p1 p2 hxl1
  by_cases hlt:k<p.conds.length
  · have hrw:=(H1.out.new_ HB1.out).keep (D':=D) hB.size (fun j hj hl=>⟨hj,hB.block j hl⟩)
    obtain ⟨m,hnm⟩ : ∃m,n=m+1:=by
     cases n with
     | zero=>rw [row0 hrw] at hlt;simp at hlt
     | succ m=>exact ⟨m,rfl⟩
    subst hnm
    obtain ⟨gh,oh,Ay1,cy1,Ay2,cy2,Ay3,cy3,hA0,hDg,hgh,r0,r1,r2,r3,r4,r5,r6,hy1,hy2,hy3⟩:=at_CondT hrw hlt
    subst hA0
    obtain ⟨y,hy⟩ : ∃y,y=p.conds[k]:=⟨_,rfl⟩
    obtain ⟨z,hz⟩ : ∃z,z=condR t (m+1) y:=⟨_,rfl⟩
    have hys:SmC (m+1) y:=by rw [hy];exact HS.out _ (List.getElem_mem hlt)
    have hyq:QC Q (m+1) y:=by rw [hy];exact HQ.out _ (List.getElem_mem hlt)
    rw [← hy] at r0 r1 r2 r3 r4 r5 r6 hy1 hy2 hy3
    have b1:(0:Int)≤(k:Int):=by omega
    have b2:(k:Int)<(p.conds.length:Int):=by omega
    have HBW:=Lib.hid (HB1.out.trans (hB.mono HWZ.out))
    have HCALL:=Lib.hid (show ∀W,Below wr.heap.size wr W→Calls Try.prog 33 #[.func (.func gf) #[] lb,.agg #[.int .i64 y.kind,.bool y.goal,.string y.id,.slice Ay1 y.attr.length cy1,.slice Ay2 y.value.length cy2,.bool y.acc,.slice Ay3 y.conds.length cy3]] W (FreshC m z W) from fun W hW=>by
     rw [hz]
     exact HREC.out m y Ay1 cy1 Ay2 cy2 Ay3 cy3 D W (HW0.out.trans ((HBW.out.trans (hW.mono HBW.out.size)).mono HW0.out.size)) (hy1.new_ hW) (hy2.new_ hW) (hy3.new_ hW) hys hyq)
    have hLz:L.take k ++ [z]=L.take (k+1):=by
     obtain ⟨h',e⟩:=HLG.out k hlt
     rw [hz,hy,← e]
     exact take_snoc h'
    have HG:=Lib.hid hG
    have HC:=Lib.hid hC
    have HO:=Lib.hid hO
    have HNE:=Lib.hid (show (Value.slice A (L.take k).length c).ownBlock≠some g from fun e=>by
     rcases A with _ | a
     · simp [Value.ownBlock] at e
     · simp only [Value.ownBlock,Option.some.injEq] at e
       exact (hA a rfl).2 e)
    have hkL:(L.take k).length=k:=take_len (by rw [HLL.out];exact hk)
    have HKL:=Lib.hid hkL
    have HST:=Lib.hid (show ∀W7 w8 A' c',Below wr.heap.size wr W7→Appended (repCondT (m+1)) 50 (Plus C wr W7) W7 (.slice A (L.take k).length c) (L.take k ++ [z]) (.slice A' (k+1) c') w8→PH (m+1) g p L W1 (k+1) A' c' (w8.setCell ⟨g,1,none⟩ (.slice A' (k+1) c')) from
     fun W7 w8 A' c' h7 ha=>PH.step hG hCg hC hgg hO hA hB (by rw [HLL.out];omega) hLz h7 ha)
    clear hy hrw hy1 hy2 hy3 hys hyq hG hCg hC hO hA hB hLz hkL hz
    go_upto_region 6 with fail
    obtain ⟨W5,hW5⟩ : ∃W5,W5=wr.alloc (.cells #[.int .i64 y.kind,.bool y.goal,.string y.id,.slice Ay1 y.attr.length cy1,.slice Ay2 y.value.length cy2,.bool y.acc,.slice Ay3 y.conds.length cy3] 50):=⟨_,rfl⟩
    have hB5:Below wr.heap.size wr W5:=by rw [hW5];exact (Below.refl _ _).alloc (Nat.le_refl _) _
    have hX5:Blk W5 wr.heap.size 50 #[.int .i64 y.kind,.bool y.goal,.string y.id,.slice Ay1 y.attr.length cy1,.slice Ay2 y.value.length cy2,.bool y.acc,.slice Ay3 y.conds.length cy3]:=by rw [hW5];exact Blk.new _ _ _
    rw [← hW5]
    clear hW5 r0 r1 r2 r3 r4 r5 r6
    have HB5:=Lib.hid hB5
    have HG:=Lib.hid (HG.out.new_ hB5)
    obtain ⟨m0,m1,m2,m3,m4,m5,m6⟩:=hX5.c7
    have n1:W5.cell? ⟨g,1,none⟩=some (.slice A k c):=(HG.out.cell 1).trans rfl
    have hgl:=HG.out.lt
    have hxl5:=hX5.lt
    clear hB5 hX5
    refine wp_region_E (fun w9=>Below W5.heap.size W5 w9) [(0,0),(1,1),(2,0),(3,1),(4,2),(5,2),(6,2),(7,0),(8,2)] (by kernel_rfl) (by kernel_rfl) (fun KK hKK=>?_)
    simp only [beside,List.filterMap_cons,List.filterMap_nil,List.getElem?_toArray,List.getElem?_cons_zero,List.getElem?_cons_succ,Option.map_some]
    repeat ((first | (refine wpX_w ?_ (Or.inl ⟨by rfl,fun w9=>?_⟩) ?_;rotate_left 1;go_simp;with_reducible rfl) | (refine wpX_l ?_ (((Below.refl _ _).drew)) (Or.inl ⟨by rfl,fun w9 hw9=>?_⟩) ?_;rotate_left 1;obtain ⟨hc9,hf9⟩:=bcell hw9;go_simp;with_reducible rfl) | refine wpX_w undef (Or.inr ⟨by rfl,rfl⟩) ?_ | refine wpX_l undef (((Below.refl _ _).drew)) (Or.inr ⟨by rfl,rfl⟩) ?_);go_frame)
    refine wpX_es (fun K9 hK9=>?_)
    go_simp
    refine (HCALL.out _ (HB5.out.drew)).mono ?_
    rintro e wa ⟨Az1,cz1,Az2,cz2,Az3,cz3,rfl,g1,g2,g3,hba⟩
    have HBa:=Lib.hid (show Below W5.heap.size W5 wa from ((Below.refl W5.heap.size W5).drew).trans hba)
    have G1:=Lib.hid g1
    have G2:=Lib.hid g2
    have G3:=Lib.hid g3
    clear g1 g2 g3 hba
    refine hK9 _ _ HBa.out ?_
    clear hK9 K9
    refine wpX_es (fun K9 hK9=>?_)
    go_simp
    have HB7x:=Lib.hid (HBa.out.alloc HBa.out.size (.cells #[.int .i64 z.kind,.bool z.goal,.string z.id,.slice Az1 z.attr.length cz1,.slice Az2 z.value.length cz2,.bool z.acc,.slice Az3 z.conds.length cz3] 50))
    refine hK9 _ _ HB7x.out ?_
    clear hK9 K9
    refine wpX_e (by kernel_rfl) (fun K9 hK9=>?_)
    have HB7:=Lib.hid (HB5.out.trans (HB7x.out.mono HB5.out.size))
    have h9:Below wa.heap.size wa (wa.alloc (.cells #[.int .i64 z.kind,.bool z.goal,.string z.id,.slice Az1 z.attr.length cz1,.slice Az2 z.value.length cz2,.bool z.acc,.slice Az3 z.conds.length cz3] 50)):=(Below.refl _ _).alloc (Nat.le_refl _) _
    have up : ∀j,NewD W5.heap.size wa j→j<wa.heap.size→(Plus C wr (wa.alloc (.cells #[.int .i64 z.kind,.bool z.goal,.string z.id,.slice Az1 z.attr.length cz1,.slice Az2 z.value.length cz2,.bool z.acc,.slice Az3 z.conds.length cz3] 50))) j∧((wa.alloc (.cells #[.int .i64 z.kind,.bool z.goal,.string z.id,.slice Az1 z.attr.length cz1,.slice Az2 z.value.length cz2,.bool z.acc,.slice Az3 z.conds.length cz3] 50))).heap[j]? = wa.heap[j]?:=fun j hj hl=>⟨.inr ⟨Nat.le_trans HB5.out.size hj.1,by simp;omega⟩,h9.block j hl⟩
    have hrep7:=rep_cond (n:=m) (y:=z) (G1.out.keep h9.size up) (G2.out.keep h9.size up) (G3.out.keep h9.size up)
    have hown7:=HO.out.plus HB7.out
    have hcl : ∀j,Plus C wr (wa.alloc (.cells #[.int .i64 z.kind,.bool z.goal,.string z.id,.slice Az1 z.attr.length cz1,.slice Az2 z.value.length cz2,.bool z.acc,.slice Az3 z.conds.length cz3] 50)) j→j<((wa.alloc (.cells #[.int .i64 z.kind,.bool z.goal,.string z.id,.slice Az1 z.attr.length cz1,.slice Az2 z.value.length cz2,.bool z.acc,.slice Az3 z.conds.length cz3] 50))).heap.size:=fun j hj=>by
     rcases hj with hj | hj
     · have:=(HC.out j hj).2;have:=HB7.out.size;omega
     · exact hj.2
    have h63:(L.take k).length+1≤maxLen:=by rw [HKL.out];unfold maxLen;omega
    have hby:((L.take k).length+1)*112≤140737488355328:=by rw [HKL.out];omega
    have hv:Value.slice A k c = .slice A (L.take k).length c:=by rw [HKL.out]
    refine step_append_C _ rfl _ _ 22 rfl 50 j0 _ 7 112 Try.underlying22 hj0 hy0 hyy1 hyy2 rfl rfl (by omega) (Plus C wr (wa.alloc (.cells #[.int .i64 z.kind,.bool z.goal,.string z.id,.slice Az1 z.attr.length cz1,.slice Az2 z.value.length cz2,.bool z.acc,.slice Az3 z.conds.length cz3] 50))) hcl (.slice A (L.take k).length c) (L.take k) hv hown7 ⟨wa.heap.size,0,none⟩ 1 z [.int .i64 z.kind,.bool z.goal,.string z.id,.slice Az1 z.attr.length cz1,.slice Az2 z.value.length cz2,.bool z.acc,.slice Az3 z.conds.length cz3] rfl (World.news_of_block (heap_alloc_new _ _)) (by intro u hu;simp only [List.mem_cons,List.not_mem_nil,or_false] at hu;rcases hu with rfl | rfl | rfl | rfl | rfl | rfl | rfl<;>rfl) hrep7 h63 hby ?_
    intro v' w8 hap
    obtain ⟨A',c',hv',-,-,-⟩:=hap.1.form
    have hlen1:(L.take k ++ [z]).length=k+1:=by rw [List.length_append,HKL.out];rfl
    rw [hlen1] at hv'
    subst hv'
    have hG8:=(HG.out.new_ HB7x.out).grown hap.2.1 HNE.out
    have HAP:=Lib.hid hap
    have u1:=(hG8.cell 1).trans rfl
    have f1:=hG8.frozen 1
    have hgl8:=hG8.lt
    clear h9 up hrep7 hown7 hcl h63 hby hv hlen1 hap hG8
    refine hK9 _ _ ?_
    clear hK9 K9
    repeat ((first | (refine wpX_w ?_ (Or.inl ⟨by rfl,fun w9=>?_⟩) ?_;rotate_left 1;go_simp;with_reducible rfl) | (refine wpX_l ?_ (HB7x.out) (Or.inl ⟨by rfl,fun w9 hw9=>?_⟩) ?_;rotate_left 1;obtain ⟨hc9,hf9⟩:=bcell hw9;go_simp;with_reducible rfl) | refine wpX_w undef (Or.inr ⟨by rfl,rfl⟩) ?_ | refine wpX_l undef (HB7x.out) (Or.inr ⟨by rfl,rfl⟩) ?_);go_frame)
    refine wpX_e (by kernel_rfl) (fun K9 hK9=>?_)
    go_simp
    refine hK9 _ _ ?_
    clear hK9 K9
    refine wpX_nil ?_
    simp only [OnlyN_normal]
    refine hKK _ _ ?_
    clear hKK KK
    go_wp2_with fail
    go_roundw
    case rel=>exact ⟨k+1,A',c',by go_num,by omega,HST.out _ _ _ _ HB7.out HAP.out⟩
    case measure=>simp [intOf];omega
  · obtain rfl:k=p.conds.length:=by omega
    rw [show p.conds.length=L.length from HLL.out.symm] at hG hO
    rw [List.take_length] at hO
    have HBW:=Lib.hid (HB1.out.trans (hB.mono HWZ.out))
    have HROW:=Lib.hid (show RowR (repCondT n) (Ex W1 wr g) wr A c L from hO.row (fun j hj=>⟨(hC j hj).1,(hC j hj).2,fun e=>hCg (e ▸ hj)⟩) (hA.mono (fun j hj=>⟨hj.1.1,hj.1.2,hj.2⟩)))
    have hX:=HX1.out.below hB (by have:=HZ1.out;omega)
    have p2:wr.cell? ⟨w.heap.size,2,none⟩=some (.slice A2 p.acts.length c2):=(hX.cell 2).trans rfl
    have hxl:=hX.lt
    have HRB:=Lib.hid (HR1.out.below hB (by have:=HZ1.out;omega))
    have HGB:=Lib.hid hG
    have HGM:=Lib.hid hG.lt
    have HGG:=Lib.hid hgg
    have hac:=H2.out.cap
    clear hG hCg hC hO hA hB hX
    obtain ⟨E1,hE1⟩ : ∃E,E=A:=⟨_,rfl⟩
    obtain ⟨d1,hd1⟩ : ∃d,d=c:=⟨_,rfl⟩
    obtain ⟨wm,hwm⟩ : ∃wm,wm=wr:=⟨_,rfl⟩
    rw [← hwm,← hE1,← hd1] at HROW HGB
    rw [← hwm] at HBW p2 hxl HRB HGM ⊢
    clear hwm hE1 hd1 hzr
    have H0A:=Lib.hid (show PA g p L M wm E1 d1 0 none 0 wm from ⟨HGB.out,Fr.refl _ _,owns_nilC _ _ _,AIn.none_ _⟩)
    go_wp2_with fail
    clear p2 hxl
    go_loopw [34] (fun s wr=>∃(i:Nat) (A:Option Addr) (c:Nat),s = .int .i64 i∧i≤p.acts.length∧PA g p L M wm E1 d1 i A c wr) (fun s wr=>p.acts.length - (intOf s).toNat)
    case atStart=>exact ⟨0,none,0,rfl,Nat.zero_le _,H0A.out⟩
    case round=>
     obtain ⟨i,A,c,rfl,hi,hPA⟩:=hrel
     have HPA:=Lib.hid hPA
     have HFR:=Lib.hid (show Below w.heap.size w wr from HBW.out.trans (hPA.2.1.below HBW.out.size (fun j hj e=>by subst e;have:=HGG.out;have:=HZ1.out;omega)))
     clear hPA
     by_cases hlt:i<p.acts.length
     · skip
       obtain ⟨y,hy⟩ : ∃y,y=p.acts[i]:=⟨_,rfl⟩
       obtain ⟨ga,off,hAA,_,hga,_⟩:=at_ActT (H2.out.new_ HFR.out) hlt
       subst hAA
       have HY:=Lib.hid hy
       have b1:(0:Int)≤(i:Int):=by omega
       have b2:(i:Int)<(p.acts.length:Int):=by omega
       have HRG:=Lib.hid (show wr.rangeAt ga (off+i*19) [.string y.id,.string y.attr.var,.int .i64 y.attr.sym.kind,.string y.attr.sym.text,.int .i64 y.attr.sym.n,.int .i64 y.value.op,.string y.value.a.var,.int .i64 y.value.a.sym.kind,.string y.value.a.sym.text,.int .i64 y.value.a.sym.n,.string y.value.b.var,.int .i64 y.value.b.sym.kind,.string y.value.b.sym.text,.int .i64 y.value.b.sym.n,.int .i64 y.pref,.string y.other.var,.int .i64 y.other.sym.kind,.string y.other.sym.text,.int .i64 y.other.sym.n] from fun j v hv=>by
        obtain ⟨g',off',cs,e1,_,_,hr,hc⟩:=(H2.out.new_ HFR.out).at_ hlt
        cases e1
        have hr2:cs=ActT.cells p.acts[i]:=hr
        subst hr2
        rw [← HY.out] at hc
        exact hc j v hv)
       have HTH:=Lib.hid (show (wr.alloc (.cells #[.string ⟨#[]⟩,.string ⟨#[]⟩,.int .i64 0,.string ⟨#[]⟩,.int .i64 0,.int .i64 0,.string ⟨#[]⟩,.int .i64 0,.string ⟨#[]⟩,.int .i64 0,.string ⟨#[]⟩,.int .i64 0,.string ⟨#[]⟩,.int .i64 0,.int .i64 0,.string ⟨#[]⟩,.int .i64 0,.string ⟨#[]⟩,.int .i64 0] 58)).there wr.heap.size 0 (#[.string y.id,.string y.attr.var,.int .i64 y.attr.sym.kind,.string y.attr.sym.text,.int .i64 y.attr.sym.n,.int .i64 y.value.op,.string y.value.a.var,.int .i64 y.value.a.sym.kind,.string y.value.a.sym.text,.int .i64 y.value.a.sym.n,.string y.value.b.var,.int .i64 y.value.b.sym.kind,.string y.value.b.sym.text,.int .i64 y.value.b.sym.n,.int .i64 y.pref,.string y.other.var,.int .i64 y.other.sym.kind,.string y.other.sym.text,.int .i64 y.other.sym.n]:Array Value).size from (Blk.new wr 58 #[.string ⟨#[]⟩,.string ⟨#[]⟩,.int .i64 0,.string ⟨#[]⟩,.int .i64 0,.int .i64 0,.string ⟨#[]⟩,.int .i64 0,.string ⟨#[]⟩,.int .i64 0,.string ⟨#[]⟩,.int .i64 0,.string ⟨#[]⟩,.int .i64 0,.int .i64 0,.string ⟨#[]⟩,.int .i64 0,.string ⟨#[]⟩,.int .i64 0]).there)
       obtain ⟨W5,hW5⟩ : ∃W5,W5=(wr.alloc (.cells #[.string ⟨#[]⟩,.string ⟨#[]⟩,.int .i64 0,.string ⟨#[]⟩,.int .i64 0,.int .i64 0,.string ⟨#[]⟩,.int .i64 0,.string ⟨#[]⟩,.int .i64 0,.string ⟨#[]⟩,.int .i64 0,.string ⟨#[]⟩,.int .i64 0,.int .i64 0,.string ⟨#[]⟩,.int .i64 0,.string ⟨#[]⟩,.int .i64 0] 58)).setCells wr.heap.size 0 [.string y.id,.string y.attr.var,.int .i64 y.attr.sym.kind,.string y.attr.sym.text,.int .i64 y.attr.sym.n,.int .i64 y.value.op,.string y.value.a.var,.int .i64 y.value.a.sym.kind,.string y.value.a.sym.text,.int .i64 y.value.a.sym.n,.string y.value.b.var,.int .i64 y.value.b.sym.kind,.string y.value.b.sym.text,.int .i64 y.value.b.sym.n,.int .i64 y.pref,.string y.other.var,.int .i64 y.other.sym.kind,.string y.other.sym.text,.int .i64 y.other.sym.n]:=⟨_,rfl⟩
       have HW5:=Lib.hid hW5
       have KB:=Lib.hid (show Blk W5 wr.heap.size 58 #[.string y.id,.string y.attr.var,.int .i64 y.attr.sym.kind,.string y.attr.sym.text,.int .i64 y.attr.sym.n,.int .i64 y.value.op,.string y.value.a.var,.int .i64 y.value.a.sym.kind,.string y.value.a.sym.text,.int .i64 y.value.a.sym.n,.string y.value.b.var,.int .i64 y.value.b.sym.kind,.string y.value.b.sym.text,.int .i64 y.value.b.sym.n,.int .i64 y.pref,.string y.other.var,.int .i64 y.other.sym.kind,.string y.other.sym.text,.int .i64 y.other.sym.n] by rw [hW5];exact (Blk.new wr 58 #[.string ⟨#[]⟩,.string ⟨#[]⟩,.int .i64 0,.string ⟨#[]⟩,.int .i64 0,.int .i64 0,.string ⟨#[]⟩,.int .i64 0,.string ⟨#[]⟩,.int .i64 0,.string ⟨#[]⟩,.int .i64 0,.string ⟨#[]⟩,.int .i64 0,.int .i64 0,.string ⟨#[]⟩,.int .i64 0,.string ⟨#[]⟩,.int .i64 0]).setAllC rfl)
       have HBV:=Lib.hid (show Below wr.heap.size wr W5 by rw [hW5];exact Below.setCells' _ _ ((Below.refl _ _).alloc (Nat.le_refl _) _) (Nat.le_refl _))
       have HQY:=Lib.hid (show QA Q y by rw [hy];exact HQA.out _ (List.getElem_mem hlt))
       have HZZ:=Lib.hid (show M.take i ++ [actR t y]=M.take (i+1) by
        obtain ⟨h',e⟩:=HMG.out i hlt
        rw [hy,← e]
        exact take_snoc h')
       have HW0R:=Lib.hid (HW0.out.trans (HFR.out.mono HW0.out.size))
       have HON:=Lib.hid (show ∀v W,Below wr.heap.size wr W→QV Q v→_ from fun v W hW hv=>one_is HN.out v W (HW0R.out.trans (hW.mono HW0R.out.size)) hv)
       have HAT:=Lib.hid (show ∀a W,Below wr.heap.size wr W→QV Q a.var→_ from fun a W hW hv=>catom_is HN.out a W (HW0R.out.trans (hW.mono HW0R.out.size)) hv)
       clear hy hW5
       go_upto_region 11 with (first
        | (with_reducible refine wpList_load_mid rfl 58 _ rfl ga (off+i*19) rfl [.string y.id,.string y.attr.var,.int .i64 y.attr.sym.kind,.string y.attr.sym.text,.int .i64 y.attr.sym.n,.int .i64 y.value.op,.string y.value.a.var,.int .i64 y.value.a.sym.kind,.string y.value.a.sym.text,.int .i64 y.value.a.sym.n,.string y.value.b.var,.int .i64 y.value.b.sym.kind,.string y.value.b.sym.text,.int .i64 y.value.b.sym.n,.int .i64 y.pref,.string y.other.var,.int .i64 y.other.sym.kind,.string y.other.sym.text,.int .i64 y.other.sym.n] _ HRG.out Try.underlying58 rfl (by kernel_rfl) ?_)
        | ((with_reducible refine wpList_store_mid rfl 58 _ _ rfl wr.heap.size 0 #[.string y.id,.string y.attr.var,.int .i64 y.attr.sym.kind,.string y.attr.sym.text,.int .i64 y.attr.sym.n,.int .i64 y.value.op,.string y.value.a.var,.int .i64 y.value.a.sym.kind,.string y.value.a.sym.text,.int .i64 y.value.a.sym.n,.string y.value.b.var,.int .i64 y.value.b.sym.kind,.string y.value.b.sym.text,.int .i64 y.value.b.sym.n,.int .i64 y.pref,.string y.other.var,.int .i64 y.other.sym.kind,.string y.other.sym.text,.int .i64 y.other.sym.n] rfl rfl HTH.out (by kernel_rfl) (by kernel_rfl) ?_);rw [← HW5.out]))
       clear HRG HTH HW5
       have e0:W5.cell? ⟨wr.heap.size,0,none⟩=some (.string y.id):=(KB.out.cell 0).trans rfl
       have ez:=KB.out.lt
       go_wp2_with fail
       refine (HON.out y.id W5 (HBV.out) HQY.out.1).mono ?_
       rintro e v0 ⟨rfl,hb⟩
       clear ez e0
       have KB:=Lib.hid (KB.out.new_ hb)
       have HBV:=Lib.hid (HBV.out.trans (hb.mono HBV.out.size))
       obtain ⟨V0,hV0⟩ : ∃W,W=v0.setCell ⟨wr.heap.size,0,none⟩ (.string (oneR t y.id)):=⟨_,rfl⟩
       have HTH:=Lib.hid KB.out.lt
       have u0:v0.cell? ⟨wr.heap.size,0,none⟩=some (.string y.id):=(KB.out.cell 0).trans rfl
       have uf:=KB.out.frozen 0
       have uz:=KB.out.lt
       have HV0:=Lib.hid hV0
       have KB:=Lib.hid (show Blk V0 wr.heap.size 58 #[.string (oneR t y.id),.string y.attr.var,.int .i64 y.attr.sym.kind,.string y.attr.sym.text,.int .i64 y.attr.sym.n,.int .i64 y.value.op,.string y.value.a.var,.int .i64 y.value.a.sym.kind,.string y.value.a.sym.text,.int .i64 y.value.a.sym.n,.string y.value.b.var,.int .i64 y.value.b.sym.kind,.string y.value.b.sym.text,.int .i64 y.value.b.sym.n,.int .i64 y.pref,.string y.other.var,.int .i64 y.other.sym.kind,.string y.other.sym.text,.int .i64 y.other.sym.n] by rw [hV0];exact (KB.out).set_ 0 (.string (oneR t y.id)))
       have HBV:=Lib.hid (show Below wr.heap.size wr V0 by rw [hV0];exact HBV.out.setCell (Nat.le_refl _) _)
       clear hV0 hb
       go_upto_region 12 with fail
       rw [← HV0.out]
       clear u0 uf uz
       clear HTH HV0
       have e1:V0.cell? ⟨wr.heap.size,1,none⟩=some (.string y.attr.var):=(KB.out.cell 1).trans rfl
       have e2:V0.cell? ⟨wr.heap.size,2,none⟩=some (.int .i64 y.attr.sym.kind):=(KB.out.cell 2).trans rfl
       have e3:V0.cell? ⟨wr.heap.size,3,none⟩=some (.string y.attr.sym.text):=(KB.out.cell 3).trans rfl
       have e4:V0.cell? ⟨wr.heap.size,4,none⟩=some (.int .i64 y.attr.sym.n):=(KB.out.cell 4).trans rfl
       have ez:=KB.out.lt
       go_wp2_with fail
       refine (HAT.out y.attr V0 (HBV.out) HQY.out.2.1).mono ?_
       rintro e v1 ⟨rfl,hb⟩
       clear ez e1 e2 e3 e4
       have KB:=Lib.hid (KB.out.new_ hb)
       have HBV:=Lib.hid (HBV.out.trans (hb.mono HBV.out.size))
       obtain ⟨V1,hV1⟩ : ∃W,W=v1.setCells wr.heap.size 1 [Value.string (oneR t y.attr.var),Value.int IntKind.i64 y.attr.sym.kind,Value.string y.attr.sym.text,Value.int IntKind.i64 y.attr.sym.n]:=⟨_,rfl⟩
       have HTH:=Lib.hid (show v1.there wr.heap.size 1 (#[.string (oneR t y.attr.var),.int .i64 y.attr.sym.kind,.string y.attr.sym.text,.int .i64 y.attr.sym.n]:Array Value).size from there_of KB.out (by simp))
       have HV1:=Lib.hid hV1
       have KB:=Lib.hid (show Blk V1 wr.heap.size 58 #[.string (oneR t y.id),.string (oneR t y.attr.var),.int .i64 y.attr.sym.kind,.string y.attr.sym.text,.int .i64 y.attr.sym.n,.int .i64 y.value.op,.string y.value.a.var,.int .i64 y.value.a.sym.kind,.string y.value.a.sym.text,.int .i64 y.value.a.sym.n,.string y.value.b.var,.int .i64 y.value.b.sym.kind,.string y.value.b.sym.text,.int .i64 y.value.b.sym.n,.int .i64 y.pref,.string y.other.var,.int .i64 y.other.sym.kind,.string y.other.sym.text,.int .i64 y.other.sym.n] by rw [hV1];exact ((((KB.out).set_ 1 (.string (oneR t y.attr.var))).set_ 2 (.int .i64 y.attr.sym.kind)).set_ 3 (.string y.attr.sym.text)).set_ 4 (.int .i64 y.attr.sym.n))
       have HBV:=Lib.hid (show Below wr.heap.size wr V1 by rw [hV1];exact Below.setCells' _ _ HBV.out (Nat.le_refl _))
       clear hV1 hb
       go_upto_region 13 with ((with_reducible refine wpList_store_mid rfl 54 _ _ rfl wr.heap.size 1 #[.string (oneR t y.attr.var),.int .i64 y.attr.sym.kind,.string y.attr.sym.text,.int .i64 y.attr.sym.n] rfl rfl HTH.out (by kernel_rfl) (by kernel_rfl) ?_);rw [← HV1.out])
       clear HTH HV1
       have e6:V1.cell? ⟨wr.heap.size,6,none⟩=some (.string y.value.a.var):=(KB.out.cell 6).trans rfl
       have e7:V1.cell? ⟨wr.heap.size,7,none⟩=some (.int .i64 y.value.a.sym.kind):=(KB.out.cell 7).trans rfl
       have e8:V1.cell? ⟨wr.heap.size,8,none⟩=some (.string y.value.a.sym.text):=(KB.out.cell 8).trans rfl
       have e9:V1.cell? ⟨wr.heap.size,9,none⟩=some (.int .i64 y.value.a.sym.n):=(KB.out.cell 9).trans rfl
       have ez:=KB.out.lt
       go_wp2_with fail
       refine (HAT.out y.value.a V1 (HBV.out) HQY.out.2.2.1).mono ?_
       rintro e v2 ⟨rfl,hb⟩
       clear ez e6 e7 e8 e9
       have KB:=Lib.hid (KB.out.new_ hb)
       have HBV:=Lib.hid (HBV.out.trans (hb.mono HBV.out.size))
       obtain ⟨V2,hV2⟩ : ∃W,W=v2.setCells wr.heap.size 6 [Value.string (oneR t y.value.a.var),Value.int IntKind.i64 y.value.a.sym.kind,Value.string y.value.a.sym.text,Value.int IntKind.i64 y.value.a.sym.n]:=⟨_,rfl⟩
       have HTH:=Lib.hid (show v2.there wr.heap.size 6 (#[.string (oneR t y.value.a.var),.int .i64 y.value.a.sym.kind,.string y.value.a.sym.text,.int .i64 y.value.a.sym.n]:Array Value).size from there_of KB.out (by simp))
       have HV2:=Lib.hid hV2
       have KB:=Lib.hid (show Blk V2 wr.heap.size 58 #[.string (oneR t y.id),.string (oneR t y.attr.var),.int .i64 y.attr.sym.kind,.string y.attr.sym.text,.int .i64 y.attr.sym.n,.int .i64 y.value.op,.string (oneR t y.value.a.var),.int .i64 y.value.a.sym.kind,.string y.value.a.sym.text,.int .i64 y.value.a.sym.n,.string y.value.b.var,.int .i64 y.value.b.sym.kind,.string y.value.b.sym.text,.int .i64 y.value.b.sym.n,.int .i64 y.pref,.string y.other.var,.int .i64 y.other.sym.kind,.string y.other.sym.text,.int .i64 y.other.sym.n] by rw [hV2];exact ((((KB.out).set_ 6 (.string (oneR t y.value.a.var))).set_ 7 (.int .i64 y.value.a.sym.kind)).set_ 8 (.string y.value.a.sym.text)).set_ 9 (.int .i64 y.value.a.sym.n))
       have HBV:=Lib.hid (show Below wr.heap.size wr V2 by rw [hV2];exact Below.setCells' _ _ HBV.out (Nat.le_refl _))
       clear hV2 hb
       go_upto_region 14 with ((with_reducible refine wpList_store_mid rfl 54 _ _ rfl wr.heap.size 6 #[.string (oneR t y.value.a.var),.int .i64 y.value.a.sym.kind,.string y.value.a.sym.text,.int .i64 y.value.a.sym.n] rfl rfl HTH.out (by kernel_rfl) (by kernel_rfl) ?_);rw [← HV2.out])
       clear HTH HV2
       have e10:V2.cell? ⟨wr.heap.size,10,none⟩=some (.string y.value.b.var):=(KB.out.cell 10).trans rfl
       have e11:V2.cell? ⟨wr.heap.size,11,none⟩=some (.int .i64 y.value.b.sym.kind):=(KB.out.cell 11).trans rfl
       have e12:V2.cell? ⟨wr.heap.size,12,none⟩=some (.string y.value.b.sym.text):=(KB.out.cell 12).trans rfl
       have e13:V2.cell? ⟨wr.heap.size,13,none⟩=some (.int .i64 y.value.b.sym.n):=(KB.out.cell 13).trans rfl
       have ez:=KB.out.lt
       go_wp2_with fail
       refine (HAT.out y.value.b V2 (HBV.out) HQY.out.2.2.2.1).mono ?_
       rintro e v3 ⟨rfl,hb⟩
       clear ez e10 e11 e12 e13
       have KB:=Lib.hid (KB.out.new_ hb)
       have HBV:=Lib.hid (HBV.out.trans (hb.mono HBV.out.size))
       obtain ⟨V3,hV3⟩ : ∃W,W=v3.setCells wr.heap.size 10 [Value.string (oneR t y.value.b.var),Value.int IntKind.i64 y.value.b.sym.kind,Value.string y.value.b.sym.text,Value.int IntKind.i64 y.value.b.sym.n]:=⟨_,rfl⟩
       have HTH:=Lib.hid (show v3.there wr.heap.size 10 (#[.string (oneR t y.value.b.var),.int .i64 y.value.b.sym.kind,.string y.value.b.sym.text,.int .i64 y.value.b.sym.n]:Array Value).size from there_of KB.out (by simp))
       have HV3:=Lib.hid hV3
       have KB:=Lib.hid (show Blk V3 wr.heap.size 58 #[.string (oneR t y.id),.string (oneR t y.attr.var),.int .i64 y.attr.sym.kind,.string y.attr.sym.text,.int .i64 y.attr.sym.n,.int .i64 y.value.op,.string (oneR t y.value.a.var),.int .i64 y.value.a.sym.kind,.string y.value.a.sym.text,.int .i64 y.value.a.sym.n,.string (oneR t y.value.b.var),.int .i64 y.value.b.sym.kind,.string y.value.b.sym.text,.int .i64 y.value.b.sym.n,.int .i64 y.pref,.string y.other.var,.int .i64 y.other.sym.kind,.string y.other.sym.text,.int .i64 y.other.sym.n] by rw [hV3];exact ((((KB.out).set_ 10 (.string (oneR t y.value.b.var))).set_ 11 (.int .i64 y.value.b.sym.kind)).set_ 12 (.string y.value.b.sym.text)).set_ 13 (.int .i64 y.value.b.sym.n))
       have HBV:=Lib.hid (show Below wr.heap.size wr V3 by rw [hV3];exact Below.setCells' _ _ HBV.out (Nat.le_refl _))
       clear hV3 hb
       go_upto_region 15 with ((with_reducible refine wpList_store_mid rfl 54 _ _ rfl wr.heap.size 10 #[.string (oneR t y.value.b.var),.int .i64 y.value.b.sym.kind,.string y.value.b.sym.text,.int .i64 y.value.b.sym.n] rfl rfl HTH.out (by kernel_rfl) (by kernel_rfl) ?_);rw [← HV3.out])
       clear HTH HV3
       have e15:V3.cell? ⟨wr.heap.size,15,none⟩=some (.string y.other.var):=(KB.out.cell 15).trans rfl
       have e16:V3.cell? ⟨wr.heap.size,16,none⟩=some (.int .i64 y.other.sym.kind):=(KB.out.cell 16).trans rfl
       have e17:V3.cell? ⟨wr.heap.size,17,none⟩=some (.string y.other.sym.text):=(KB.out.cell 17).trans rfl
       have e18:V3.cell? ⟨wr.heap.size,18,none⟩=some (.int .i64 y.other.sym.n):=(KB.out.cell 18).trans rfl
       have ez:=KB.out.lt
       go_wp2_with fail
       refine (HAT.out y.other V3 (HBV.out) HQY.out.2.2.2.2).mono ?_
       rintro e v4 ⟨rfl,hb⟩
       clear ez e15 e16 e17 e18
       have KB:=Lib.hid (KB.out.new_ hb)
       have HBV:=Lib.hid (HBV.out.trans (hb.mono HBV.out.size))
       obtain ⟨V4,hV4⟩ : ∃W,W=v4.setCells wr.heap.size 15 [Value.string (oneR t y.other.var),Value.int IntKind.i64 y.other.sym.kind,Value.string y.other.sym.text,Value.int IntKind.i64 y.other.sym.n]:=⟨_,rfl⟩
       have HTH:=Lib.hid (show v4.there wr.heap.size 15 (#[.string (oneR t y.other.var),.int .i64 y.other.sym.kind,.string y.other.sym.text,.int .i64 y.other.sym.n]:Array Value).size from there_of KB.out (by simp))
       have HV4:=Lib.hid hV4
       have KB:=Lib.hid (show Blk V4 wr.heap.size 58 #[.string (oneR t y.id),.string (oneR t y.attr.var),.int .i64 y.attr.sym.kind,.string y.attr.sym.text,.int .i64 y.attr.sym.n,.int .i64 y.value.op,.string (oneR t y.value.a.var),.int .i64 y.value.a.sym.kind,.string y.value.a.sym.text,.int .i64 y.value.a.sym.n,.string (oneR t y.value.b.var),.int .i64 y.value.b.sym.kind,.string y.value.b.sym.text,.int .i64 y.value.b.sym.n,.int .i64 y.pref,.string (oneR t y.other.var),.int .i64 y.other.sym.kind,.string y.other.sym.text,.int .i64 y.other.sym.n] by rw [hV4];exact ((((KB.out).set_ 15 (.string (oneR t y.other.var))).set_ 16 (.int .i64 y.other.sym.kind)).set_ 17 (.string y.other.sym.text)).set_ 18 (.int .i64 y.other.sym.n))
       have HBV:=Lib.hid (show Below wr.heap.size wr V4 by rw [hV4];exact Below.setCells' _ _ HBV.out (Nat.le_refl _))
       clear hV4 hb
       go_upto_region 16 with ((with_reducible refine wpList_store_mid rfl 54 _ _ rfl wr.heap.size 15 #[.string (oneR t y.other.var),.int .i64 y.other.sym.kind,.string y.other.sym.text,.int .i64 y.other.sym.n] rfl rfl HTH.out (by kernel_rfl) (by kernel_rfl) ?_);rw [← HV4.out])
       clear HTH HV4
       have HRG9:=Lib.hid (show V4.rangeAt wr.heap.size 0 [Value.string (oneR t y.id),Value.string (oneR t y.attr.var),Value.int IntKind.i64 y.attr.sym.kind,Value.string y.attr.sym.text,Value.int IntKind.i64 y.attr.sym.n,Value.int IntKind.i64 y.value.op,Value.string (oneR t y.value.a.var),Value.int IntKind.i64 y.value.a.sym.kind,Value.string y.value.a.sym.text,Value.int IntKind.i64 y.value.a.sym.n,Value.string (oneR t y.value.b.var),Value.int IntKind.i64 y.value.b.sym.kind,Value.string y.value.b.sym.text,Value.int IntKind.i64 y.value.b.sym.n,Value.int IntKind.i64 y.pref,Value.string (oneR t y.other.var),Value.int IntKind.i64 y.other.sym.kind,Value.string y.other.sym.text,Value.int IntKind.i64 y.other.sym.n] from KB.out.range)
       have HGV:=Lib.hid (HPA.out.1.new_ HBV.out)
       have g2:V4.cell? ⟨g,2,none⟩=some (.slice A i c):=(HGV.out.cell 2).trans rfl
       have gz:=HGV.out.lt
       have HX:=Lib.hid (show Below V4.heap.size V4 (V4.alloc (.cells #[.string (oneR t y.id),.string (oneR t y.attr.var),.int .i64 y.attr.sym.kind,.string y.attr.sym.text,.int .i64 y.attr.sym.n,.int .i64 y.value.op,.string (oneR t y.value.a.var),.int .i64 y.value.a.sym.kind,.string y.value.a.sym.text,.int .i64 y.value.a.sym.n,.string (oneR t y.value.b.var),.int .i64 y.value.b.sym.kind,.string y.value.b.sym.text,.int .i64 y.value.b.sym.n,.int .i64 y.pref,.string (oneR t y.other.var),.int .i64 y.other.sym.kind,.string y.other.sym.text,.int .i64 y.other.sym.n] 58)) from (Below.refl _ _).alloc (Nat.le_refl _) _)
       have HBX:=Lib.hid (HBV.out.trans (HX.out.mono HBV.out.size))
       have HOX:=Lib.hid (ownsRow_new (ownsRow_new HPA.out.2.2.1 HBV.out) HX.out)
       have HNX:=Lib.hid (show ∀(j:Nat) (u:Value),(([.string (oneR t y.id),.string (oneR t y.attr.var),.int .i64 y.attr.sym.kind,.string y.attr.sym.text,.int .i64 y.attr.sym.n,.int .i64 y.value.op,.string (oneR t y.value.a.var),.int .i64 y.value.a.sym.kind,.string y.value.a.sym.text,.int .i64 y.value.a.sym.n,.string (oneR t y.value.b.var),.int .i64 y.value.b.sym.kind,.string y.value.b.sym.text,.int .i64 y.value.b.sym.n,.int .i64 y.pref,.string (oneR t y.other.var),.int .i64 y.other.sym.kind,.string y.other.sym.text,.int .i64 y.other.sym.n]:List Value))[j]? = some u→((V4.alloc (.cells #[.string (oneR t y.id),.string (oneR t y.attr.var),.int .i64 y.attr.sym.kind,.string y.attr.sym.text,.int .i64 y.attr.sym.n,.int .i64 y.value.op,.string (oneR t y.value.a.var),.int .i64 y.value.a.sym.kind,.string y.value.a.sym.text,.int .i64 y.value.a.sym.n,.string (oneR t y.value.b.var),.int .i64 y.value.b.sym.kind,.string y.value.b.sym.text,.int .i64 y.value.b.sym.n,.int .i64 y.pref,.string (oneR t y.other.var),.int .i64 y.other.sym.kind,.string y.other.sym.text,.int .i64 y.other.sym.n] 58))).cell? ((⟨V4.heap.size,0,none⟩:Addr).add j)=some u from World.news_of_block (heap_alloc_new _ _))
       have HGX:=Lib.hid (HGV.out.new_ HX.out)
       have hile:i≤1000:=by omega
       go_wp2_with (first
        | (with_reducible refine wpList_load_mid rfl 58 _ rfl wr.heap.size 0 rfl [Value.string (oneR t y.id),Value.string (oneR t y.attr.var),Value.int IntKind.i64 y.attr.sym.kind,Value.string y.attr.sym.text,Value.int IntKind.i64 y.attr.sym.n,Value.int IntKind.i64 y.value.op,Value.string (oneR t y.value.a.var),Value.int IntKind.i64 y.value.a.sym.kind,Value.string y.value.a.sym.text,Value.int IntKind.i64 y.value.a.sym.n,Value.string (oneR t y.value.b.var),Value.int IntKind.i64 y.value.b.sym.kind,Value.string y.value.b.sym.text,Value.int IntKind.i64 y.value.b.sym.n,Value.int IntKind.i64 y.pref,Value.string (oneR t y.other.var),Value.int IntKind.i64 y.other.sym.kind,Value.string y.other.sym.text,Value.int IntKind.i64 y.other.sym.n] _ HRG9.out Try.underlying58 rfl (by kernel_rfl) ?_)
        | (at_builtin;refine wpList_append_src (V4.alloc (.cells #[.string (oneR t y.id),.string (oneR t y.attr.var),.int .i64 y.attr.sym.kind,.string y.attr.sym.text,.int .i64 y.attr.sym.n,.int .i64 y.value.op,.string (oneR t y.value.a.var),.int .i64 y.value.a.sym.kind,.string y.value.a.sym.text,.int .i64 y.value.a.sym.n,.string (oneR t y.value.b.var),.int .i64 y.value.b.sym.kind,.string y.value.b.sym.text,.int .i64 y.value.b.sym.n,.int .i64 y.pref,.string (oneR t y.other.var),.int .i64 y.other.sym.kind,.string y.other.sym.text,.int .i64 y.other.sym.n] 58)) rfl (.tmp 68) (.tmp 70) 23 rfl 58 i0 _ 19 224 Try.underlying23 hi0 hz0 hz1 hz2 rfl (by omega) (.slice A i c) i ((M.take i).flatMap ActT.cells) rfl HOX.out (some ⟨V4.heap.size,0,none⟩) 1 1 [.string (oneR t y.id),.string (oneR t y.attr.var),.int .i64 y.attr.sym.kind,.string y.attr.sym.text,.int .i64 y.attr.sym.n,.int .i64 y.value.op,.string (oneR t y.value.a.var),.int .i64 y.value.a.sym.kind,.string y.value.a.sym.text,.int .i64 y.value.a.sym.n,.string (oneR t y.value.b.var),.int .i64 y.value.b.sym.kind,.string y.value.b.sym.text,.int .i64 y.value.b.sym.n,.int .i64 y.pref,.string (oneR t y.other.var),.int .i64 y.other.sym.kind,.string y.other.sym.text,.int .i64 y.other.sym.n] rfl rfl (fun _=>⟨_,rfl,HNX.out⟩) (by intro u hu;simp only [List.mem_cons,List.not_mem_nil,or_false] at hu;rcases hu with rfl | rfl | rfl | rfl | rfl | rfl | rfl | rfl | rfl | rfl | rfl | rfl | rfl | rfl | rfl | rfl | rfl | rfl | rfl<;>rfl) (by unfold maxLen;omega) (by omega) ?_;intro v1 w9 hown1 hg1 hnil1 hat1;obtain ⟨A',c',rfl,_⟩:=own_form2 hown1;have hne1:=own_blk_ne HOX.out HGX.out (by decide);have hgb:=HGX.out.grown hg1 hne1;have u2:=(hgb.cell 2).trans rfl;have f2:=hgb.frozen 2;have uz:=hgb.lt;have HOWN:=Lib.hid hown1;have HG1:=Lib.hid hg1;have HAT1:=Lib.hid hat1;clear hown1 hg1 hnil1 hat1 hne1 hgb))
       go_roundw
       case rel=>exact ⟨i+1,A',c',by go_num,by omega,HPA.out.step HGM.out HBX.out HZZ.out (by have h:=HOWN.out;exact h) HG1.out HAT1.out⟩
       case measure=>simp [intOf];omega
     · obtain rfl:i=p.acts.length:=by omega
       have hPA:=HPA.out
       obtain ⟨hG,hF,hO,hA⟩:=hPA
       rw [show p.acts.length=M.length from HML.out.symm] at hG hO
       rw [List.take_length] at hO
       have hR:=HRB.out.fr hF (fun e=>by have:=HGG.out;have:=HZ1.out;omega)
       have HT9:=Lib.hid (show wr.there (w.heap.size+1) 0 (#[Value.string p.name,Value.slice E1 L.length d1,Value.slice A M.length c]:Array Value).size from hR.there)
       have HRG:=Lib.hid (show wr.rangeAt g 0 [Value.string p.name,Value.slice E1 L.length d1,Value.slice A M.length c] from by have:=hG.range;exact this)
       have hrl:=hR.lt
       have hgl:=hG.lt
       have hsz:=hF.size
       have L1:=Lib.hid ((HROW.out.keep (w':=wr) (D':=Ex W1 wm g) hsz (fun j hj hl=>⟨hj,hF.block j hl (fun e=>hj.2.2 e)⟩)).keep (w':=wr.setCells (w.heap.size+1) 0 [Value.string p.name,Value.slice E1 L.length d1,Value.slice A M.length c]) (D':=NewD w.heap.size (wr.setCells (w.heap.size+1) 0 [Value.string p.name,Value.slice E1 L.length d1,Value.slice A M.length c])) (by rw [size_setCells];omega) (fun j hj hl=>⟨⟨by have:=hj.1;have:=HZ1.out;omega,by rw [size_setCells];omega⟩,blk_setCells _ _ _ _ _ (by have:=hj.1;have:=HZ1.out;omega)⟩))
       have hOR:RowR repActT (NewD wm.heap.size wr) wr A c M:=RowR.of_rd (hs:=ActT.cells_length) (ownsRow_rd ActT.cells_length hO) hA
       have L2:=Lib.hid (hOR.keep (w':=wr.setCells (w.heap.size+1) 0 [Value.string p.name,Value.slice E1 L.length d1,Value.slice A M.length c]) (D':=NewD w.heap.size (wr.setCells (w.heap.size+1) 0 [Value.string p.name,Value.slice E1 L.length d1,Value.slice A M.length c])) (by rw [size_setCells];omega) (fun j hj hl=>⟨⟨by have:=hj.1;have:=HBW.out.size;omega,by rw [size_setCells];omega⟩,blk_setCells _ _ _ _ _ (by have:=hj.1;have:=HGM.out;have:=HGG.out;have:=HZ1.out;omega)⟩))
       clear hR hG hF hO hA hOR
       go_upto_region 18 with fail
       go_wp2_with (first | (with_reducible refine wpList_load_mid rfl 25 _ rfl g 0 rfl [Value.string p.name,Value.slice E1 L.length d1,Value.slice A M.length c] _ HRG.out Try.underlying25 rfl (by kernel_rfl) ?_) | (with_reducible refine wpList_store_mid rfl 25 _ _ rfl (w.heap.size+1) 0 #[Value.string p.name,Value.slice E1 L.length d1,Value.slice A M.length c] rfl rfl HT9.out (by kernel_rfl) (by kernel_rfl) ?_))
       try simp only [Exit.inBlock,Exit.then]
       have hBe:Below w.heap.size w (wr.setCells (w.heap.size+1) 0 [Value.string p.name,Value.slice E1 L.length d1,Value.slice A M.length c]):=Below.setCells' _ _ HFR.out (by omega)
       refine bodyPost_ret (v:=.agg #[.string p.name,.slice E1 L.length d1,.slice A M.length c]) ?_ rfl (by rw [HR.out];exact ⟨E1,d1,A,c,rfl,L1.out,L2.out,hBe⟩)
       exact results_cell (t:=4) (T:=25) rfl _ _ (w.heap.size+1) [Value.string p.name,Value.slice E1 L.length d1,Value.slice A M.length c] _ rfl (World.rangeAt_setCells_same wr (w.heap.size+1) 0 [Value.string p.name,Value.slice E1 L.length d1,Value.slice A M.length c] HT9.out) Try.underlying25 rfl (by kernel_rfl)
end Go.Proofs.Ytffemfglngikbaa
namespace Go.Proofs.Ytffemfglngikbaa
open Go.RowKit Go.Shelf
attribute [local go_sem] Oper.semAt_some
theorem qc_true : ∀(n:Nat) (x:CondT),QC (fun _=>True) n x
 | 0,_=>trivial
 | n+1,_=>⟨fun _=>trivial,fun _ _ _=>trivial,fun _ _ _=>trivial,fun y _=>qc_true n y⟩
theorem qa_true (a:ActT):QA (fun _=>True) a:=⟨fun _=>trivial,fun _=>trivial,fun _=>trivial,fun _=>trivial,fun _=>trivial⟩
set_option maxRecDepth 100000 in
set_option maxHeartbeats 16000000 in
theorem cplain_is {D:Nat→Prop} (n:Nat) (p:ProdT) (A1:Option Addr) (c1:Nat) (A2:Option Addr) (c2:Nat) (w:World) (hD : ∀k,D k→k<w.heap.size)
 (h1:RowR (repCondT n) D w A1 c1 p.conds) (h2:RowR repActT D w A2 c2 p.acts) (hl1:p.conds.length≤1000) (hl2:p.acts.length≤1000) (hs : ∀x∈p.conds,SmC n x) (hlen:(varsP n p).length≤100000) :
 Calls Try.prog 21 #[.agg #[.string p.name,.slice A1 p.conds.length c1,.slice A2 p.acts.length c2]] w (FreshP n (plainP n p) w):=by
 have H1:=Lib.hid h1
 have H2:=Lib.hid h2
 have HD:=Lib.hid hD
 have HS:=Lib.hid hs
 obtain ⟨vs,hvs⟩ : ∃vs,vs=varsP n p:=⟨_,rfl⟩
 rw [← hvs] at hlen
 have HVS:=Lib.hid hvs
 have HV:=Lib.hid (show ∀kb W,Blk W kb 25 #[.string p.name,.slice A1 p.conds.length c1,.slice A2 p.acts.length c2]→Below w.heap.size w W→IterO Try.prog 29 #[.pointer (some ⟨kb,0,none⟩)] encStr vs W D from fun kb W hk hW=>by
  rw [hvs];exact varsI_is n p kb A1 A2 c1 c2 W hk (fun k hd=>Nat.lt_of_lt_of_le (hD k hd) hW.size) (h1.new_ hW) (h2.new_ hW))
 have HUL:=Lib.hid (show (uq vs).length≤100000 by have:=uq_len vs;omega)
 clear hvs h1 h2 hD hs
 refine (callsIn_wide (n:=0)).1 ?_
 refine callsIn_of_wp_marks Try.func21 rfl trivial ?_
 refine wpIn_wide.2 ?_
 simp only [Try.ntmps21,List.size_toArray,List.length_cons,List.length_nil,Nat.reduceAdd,Nat.reduceSub,Array.replicate_succ,Array.replicate_zero,List.push_toArray,List.append_toArray,List.nil_append,List.cons_append]
 go_upto_region 1 with fail
 obtain ⟨w1,hw1⟩ : ∃w1,w1=((w.alloc (.cells #[.string p.name,.slice A1 p.conds.length c1,.slice A2 p.acts.length c2] 25)).alloc (.cells #[.string ⟨#[]⟩,.slice none 0 0,.slice none 0 0] 25)):=⟨_,rfl⟩
 rw [← hw1]
 have HB:=Lib.hid (show Below w.heap.size w w1 by rw [hw1];exact (by repeat (first | exact Below.refl _ _ | refine Below.drew ?_ | refine Below.al ?_ _ | refine Below.sc ?_ _)))
 have Kp:=Lib.hid (show Blk w1 (w.heap.size) 25 #[.string p.name,.slice A1 p.conds.length c1,.slice A2 p.acts.length c2] by rw [hw1];exact ((Blk.new w 25 #[.string p.name,.slice A1 p.conds.length c1,.slice A2 p.acts.length c2]).alloc (.cells #[.string ⟨#[]⟩,.slice none 0 0,.slice none 0 0] 25)))
 have Kr:=Lib.hid (show Blk w1 (w.heap.size+1) 25 #[.string ⟨#[]⟩,.slice none 0 0,.slice none 0 0] by rw [hw1];have hh:=(Blk.new (w.alloc (.cells #[.string p.name,.slice A1 p.conds.length c1,.slice A2 p.acts.length c2] 25)) 25 #[.string ⟨#[]⟩,.slice none 0 0,.slice none 0 0]);simp only [World.size_alloc] at hh;exact hh)
 have W1Z:=Lib.hid (show w1.heap.size=w.heap.size+2 by rw [hw1];simp)
 clear hw1
 obtain ⟨p0,p1,p2⟩:=Kp.out.c3
 have pz:=Kp.out.lt
 obtain ⟨r0,r1,r2⟩:=Kr.out.c3
 have rf0:=Kr.out.frozen 0
 have rf1:=Kr.out.frozen 1
 have rf2:=Kr.out.frozen 2
 have rz:=Kr.out.lt
 go_wp2_with fail
 refine (bknew_PgW _).mono ?_
 rintro e w2 ⟨bm,bp,sn,A,cc,rfl,hbm,hbp,hA,hM,hS,hb⟩
 obtain ⟨w3,hw3⟩ : ∃W,W=w2.alloc (.cells #[.pointer (some ⟨bm,0,none⟩)] 81):=⟨_,rfl⟩
 have hb3:Below w2.heap.size w2 w3:=by rw [hw3];exact (Below.refl _ _).alloc (Nat.le_refl _) _
 have hz1:w1.heap.size=w.heap.size+2:=by have:=Kr.out.lt;have:=HB.out.size;have h9:=W1Z.out;omega
 have hbz:=hb.size
 have hb13:Below w1.heap.size w1 w3:=hb.trans (hb3.mono hbz)
 obtain ⟨bt,hbt⟩ : ∃bt,bt=w2.heap.size:=⟨_,rfl⟩
 have hBT:Blk w3 bt 81 #[.pointer (some ⟨bm,0,none⟩)]:=by rw [hw3,hbt];exact Blk.new _ _ _
 have hM3:=hM.new_ hb3
 have hS3:=hS.new_ hb3
 have hne:bt≠bp:=by have:=hS.lt;omega
 have nD : ∀k,w.heap.size≤k→¬D k:=fun k hk hd=>by have:=HD.out k hd;omega
 have hPL:PlI w bt bm bp #[.string p.name,.slice A1 p.conds.length c1,.slice A2 p.acts.length c2] D [] w3:=⟨hBT,⟨sn,A,cc,[],hM3,hS3,MapOk.nil,hA.mono (fun k hk=>⟨by omega,nD k (by omega)⟩)⟩,Kp.out.new_ hb13,Kr.out.new_ hb13,⟨nD _ (by omega),nD _ (by omega),nD _ (by omega),nD _ (Nat.le_refl _),nD _ (by omega)⟩,⟨by omega,by omega,by omega⟩,HB.out.trans (hb13.mono HB.out.size),fun k hk=>by have:=HD.out k hk;have:=hb13.size;omega⟩
 have HPL:=Lib.hid hPL
 have HNE:=Lib.hid hne
 have HPM:=Lib.hid (show bm≠bp from hM3.ne_ hS3.blk (by decide))
 have hBTl:=hBT.lt
 obtain ⟨q0,q1,q2⟩:=hPL.2.2.1.c3
 have hpl:=hPL.2.2.1.lt
 have HW3:=Lib.hid hw3
 have HB3:=Lib.hid (HB.out.trans (hb13.mono HB.out.size))
 clear p0 p1 p2 pz r0 r1 r2 rf0 rf1 rf2 rz hM hS hA hb hb3 hBT hM3 hS3 hb13 hPL hw3 hbm hbp hne nD hbz
 go_upto_region 2 with fail
 rw [← HW3.out,← hbt]
 clear hbt HW3
 go_wp2_with fail
 refine (mkvars_is p A1 A2 c1 c2 w3).mono ?_
 rintro e w4 ⟨rfl,hkb,hb4⟩
 obtain ⟨kv,hkv⟩ : ∃kv,kv=w3.heap.size:=⟨_,rfl⟩
 rw [← hkv] at hkb ⊢
 have HPL:=Lib.hid (HPL.out.new_ hb4)
 have HB4:=Lib.hid (HB3.out.trans (hb4.mono HB3.out.size))
 have HKB:=Lib.hid hkb
 have h4z:=HB4.out.size
 have h4r:=Lib.hid (show w.heap.size+2≤w4.heap.size from by have:=HPL.out.2.2.2.1.lt;have:=HPL.out.2.2.2.2.2.1.1;have:=HPL.out.1.lt;omega)
 clear hkb hb4 hkv q0 q1 q2 hpl HB3
 go_wp2_with fail
 obtain ⟨I,hI⟩ : ∃I:(Nat→Prop)→List ByteArray→World→Prop,I=fun D' q X=>PlI w bt bm bp #[.string p.name,.slice A1 p.conds.length c1,.slice A2 p.acts.length c2] D' q X:=⟨_,rfl⟩
 obtain ⟨Ix,hIx⟩ : ∃Ix:Code→(Nat→Prop)→List ByteArray→World→Prop,Ix=fun _ _ _ _=>False:=⟨_,rfl⟩
 have hst:Steady w4.heap.size I:=by
  subst hI
  intro D' q X Y h hF
  exact h.step h4z hF
 have hstx : ∀cd,Steady w4.heap.size (Ix cd):=by
  subst hIx
  intro cd D' q X Y h hF
  exact h.elim
 have HST:=Lib.hid hst
 refine (wpIn_wide (n:=0)).1 ?_
 refine wpIn_rangeO (w:=w4) (D:=D) (by rfl) (by intro args w;kernel_rfl) (fun k hk=>Nat.lt_of_lt_of_le (HD.out k hk) h4z) (fun W hW=>HV.out kv W (HKB.out.new_ hW) (HB4.out.trans (hW.mono h4z))) (fun x=>by rfl) I Ix hst hstx ?_ ?_ ?_ ?_
 · subst hI
   exact HPL.out
 · intro D' lo q x post X hx hlo hDl hIX
   have hql:q.length+1≤100000:=by
    have:=congrArg List.length hx
    simp at this
    omega
   have hul:(uq q).length≤99999:=by have:=uq_len q;omega
   have HX:=Lib.hid hx
   simp only [encStr,Array.zip]
   gi_wp2_with fail
   refine ⟨Fr.refl _ _,fun X2 hF2 hz2 _=>?_⟩
   have hI2:=hst.same hIX (hF2.mono (fun k _ e=>by rw [e];exact ⟨hDl,hlo⟩)) hz2
   have HI:=Lib.hid hI
   rw [hI] at hI2
   clear hI hIx hst hstx hIX hF2 hz2 hx HST
   have HP:=Lib.hid hI2
   have t0:X2.cell? ⟨bt,0,none⟩=some (.pointer (some ⟨bm,0,none⟩)):=(hI2.1.cell 0).trans rfl
   have tz:=hI2.1.lt
   have HGET:=Lib.hid (mget_is x X2 hI2.2.1 (by omega))
   obtain ⟨nx,hnx⟩ : ∃t,t=numT (uq q) x:=⟨_,rfl⟩
   obtain ⟨b,hbb⟩ : ∃b,b=decide (x∈uq q):=⟨_,rfl⟩
   rw [← hnx,← hbb] at HGET
   have HBB:=Lib.hid hbb
   clear hI2 hnx hbb
   gi_wp2_with fail
   refine ⟨trivial,rfl,?_⟩
   refine (callsIn_wide.2 HGET.out).mono ?_
   rintro e w5 ⟨rfl,hb5⟩
   have HB5:=Lib.hid hb5
   have HP5:=Lib.hid (HP.out.new_ hb5)
   clear hb5 t0 tz
   cases b with
   | true=>
     have hin:x∈uq q:=of_decide_eq_true HBB.out.symm
     have HQ:=Lib.hid (show uq (q ++ [x])=uq q by rw [uq_snoc,uqStep,if_pos hin])
     clear hin
     gi_wp2
     rw [HI.out]
     refine ⟨Fr.of_new HB5.out,?_⟩
     have h:=HP5.out
     exact ⟨h.1,by rw [HQ.out];exact h.2.1,h.2.2⟩
   | false=>
     have HNI:=Lib.hid (show ¬x∈uq q from of_decide_eq_false HBB.out.symm)
     have hPC:=HP5.out.2.1
     obtain ⟨sn,A,cc,mm,g1,g2,g3,g4⟩:=hPC
     have t0:w5.cell? ⟨bt,0,none⟩=some (.pointer (some ⟨bm,0,none⟩)):=(HP5.out.1.cell 0).trans rfl
     have tz:=HP5.out.1.lt
     obtain ⟨nn,hnn⟩ : ∃nn,nn=mm.length+1:=⟨_,rfl⟩
     have hne1:((mm.length:Int)+1)=(nn:Int):=by omega
     have hnb:nn≤100000:=by have:=g3.len;omega
     have vw:IntKind.i64.wrap (nn:Int)=(nn:Int):=IntWalk.i64_in _ (by omega)
     have hds:=decB_size nn
     have hcz : ¬9223372036854775807<1+(decB nn).size:=by omega
     have HPUT:=Lib.hid (show ∀Y,Below w5.heap.size w5 Y→Calls Try.prog 44 #[.pointer (some ⟨bm,0,none⟩),.string x,.string (nameW nn)] Y _ from fun Y hY=>bkput_PgW bm bp cc sn A mm ⟨x,nameW nn⟩ Y (g1.new_ hY) (g2.new_ hY) g3.srt (by have:=g3.len;omega) (by rw [g3.has];exact decide_eq_false HNI.out))
     have HLEN:=Lib.hid (show ∀Y,Below w5.heap.size w5 Y→_ from fun Y hY=>bklen_PgW bm bp cc sn A mm Y (g1.new_ hY) (g2.new_ hY))
     have HAT:=Lib.hid (show AIn A (fun k=>k≠bt∧k≠bm∧k≠w.heap.size∧k≠w.heap.size+1) from fun a ha=>by
      have k1:=own_blk_ne g2.row HP5.out.1 (by decide)
      have k2:=own_blk_ne g2.row g1 (by decide)
      have k3:=own_blk_ne g2.row HP5.out.2.2.1 (by decide)
      have k4:=own_blk_ne g2.row HP5.out.2.2.2.1 (by decide)
      subst ha
      exact ⟨fun e=>k1 (by simp [Value.ownBlock,e]),fun e=>k2 (by simp [Value.ownBlock,e]),fun e=>k3 (by simp [Value.ownBlock,e]),fun e=>k4 (by simp [Value.ownBlock,e])⟩)
     have HG1:=Lib.hid g1
     have HG2:=Lib.hid g2
     have HG3:=Lib.hid g3
     have HG4:=Lib.hid g4
     have HNN:=Lib.hid hnn
     clear g1 g2 g3 g4 hds hnn
     gi_wp2_with fail
     refine wpIn_region_E (fun w9=>Below w5.heap.size w5 w9) [(0,1),(1,0),(2,1),(3,2),(4,0),(5,2),(6,0),(7,2)] (by kernel_rfl) (by kernel_rfl) (by rfl) (fun KK hKK=>?_)
     simp only [beside,List.filterMap_cons,List.filterMap_nil,List.getElem?_toArray,List.getElem?_cons_zero,List.getElem?_cons_succ,Option.map_some]
     repeat ((first | (refine wpX_w ?_ (Or.inl ⟨by rfl,fun w9=>?_⟩) ?_;rotate_left 1;go_simp;with_reducible rfl) | (refine wpX_l ?_ (((Below.refl _ _).drew)) (Or.inl ⟨by rfl,fun w9 hw9=>?_⟩) ?_;rotate_left 1;obtain ⟨hc9,hf9⟩:=bcell hw9;go_simp;with_reducible rfl) | refine wpX_w undef (Or.inr ⟨by rfl,rfl⟩) ?_ | refine wpX_l undef (((Below.refl _ _).drew)) (Or.inr ⟨by rfl,rfl⟩) ?_);go_frame)
     refine wpX_es (fun K9 hK9=>?_)
     go_simp
     refine (HLEN.out _ ((Below.refl _ _).drew)).mono ?_
     rintro e w6 ⟨rfl,rfl⟩
     refine hK9 _ _ ((Below.refl _ _).drew) ?_
     clear hK9 K9
     repeat ((first | (refine wpX_w ?_ (Or.inl ⟨by rfl,fun w9=>?_⟩) ?_;rotate_left 1;go_simp;with_reducible rfl) | (refine wpX_l ?_ (((Below.refl _ _).drew)) (Or.inl ⟨by rfl,fun w9 hw9=>?_⟩) ?_;rotate_left 1;obtain ⟨hc9,hf9⟩:=bcell hw9;go_simp;with_reducible rfl) | refine wpX_w undef (Or.inr ⟨by rfl,rfl⟩) ?_ | refine wpX_l undef (((Below.refl _ _).drew)) (Or.inr ⟨by rfl,rfl⟩) ?_);go_frame)
     refine wpX_es (fun K9 hK9=>?_)
     go_simp
     refine (cdigits_is nn (by omega) _).mono ?_
     rintro e w7 ⟨rfl,hb7⟩
     have HB7:=Lib.hid (show Below w5.heap.size w5 w7 from ((Below.refl w5.heap.size w5).drew).trans hb7)
     clear hb7
     refine hK9 _ _ HB7.out ?_
     clear hK9 K9
     repeat ((first | (refine wpX_w ?_ (Or.inl ⟨by rfl,fun w9=>?_⟩) ?_;rotate_left 1;go_simp;with_reducible rfl) | (refine wpX_l ?_ (HB7.out) (Or.inl ⟨by rfl,fun w9 hw9=>?_⟩) ?_;rotate_left 1;obtain ⟨hc9,hf9⟩:=bcell hw9;go_simp;with_reducible rfl) | refine wpX_w undef (Or.inr ⟨by rfl,rfl⟩) ?_ | refine wpX_l undef (HB7.out) (Or.inr ⟨by rfl,rfl⟩) ?_);go_frame)
     refine wpX_e (by kernel_rfl) (fun K9 hK9=>?_)
     go_simp
     refine (HPUT.out w7 HB7.out).mono ?_
     rintro e w8 ⟨rfl,hp8⟩
     have HP8:=Lib.hid hp8
     clear hp8
     refine hK9 _ _ ?_
     clear hK9 K9
     refine wpX_nil ?_
     simp only [OnlyN_normal]
     refine hKK _ _ ?_
     clear hKK KK
     gi_wp2
     rw [HI.out]
     obtain ⟨sn',A',c',k1,k2,k3⟩:=HP8.out
     obtain ⟨m1,m2⟩:=HP.out.put (HB5.out.trans (HB7.out.mono HB5.out.size)) HNE.out (HG1.out.new_ HB7.out) (HG2.out.new_ HB7.out) HG3.out HG4.out HNI.out (by rw [← HNN.out];exact k1) k2 k3 HAT.out HPM.out
     exact ⟨m2,m1⟩
 · intro D' d X hd hDd hIX hK
   rw [hI] at hIX
   have HP:=Lib.hid hIX
   have HK:=Lib.hid hK
   obtain ⟨hBT,hMP,hPP,hRR,-,-,hBX,-⟩:=hIX
   obtain ⟨b0,b1,b2⟩:=hPP.c3
   have bz:=hPP.lt
   have HBX:=Lib.hid hBX
   have HRR:=Lib.hid hRR
   have HREN:=Lib.hid (crename_is (pnamer_is X hBT hMP (by have:=HUL.out;omega)) n p A1 c1 A2 c2 X (Below.refl _ _) (H1.out.new_ hBX) (H2.out.new_ hBX) hl1 hl2 HS.out (fun x _=>qc_true n x) (fun a _=>qa_true a))
   obtain ⟨r,hr⟩ : ∃r,r=prodR (numT (uq vs)) n p:=⟨_,rfl⟩
   rw [← hr] at HREN
   have HR:=Lib.hid (show plainP n p=⟨⟨#[120]⟩,r.conds,r.acts⟩∧r.name=p.name by rw [hr,HVS.out];exact ⟨rfl,rfl⟩)
   clear hBT hMP hPP hRR hBX hK hI hIx hst hstx HST hr
   go_wp2_with fail
   refine HREN.out.mono ?_
   rintro e w5 ⟨E1,d1,E2,d2,rfl,r1,r2,hb5⟩
   rw [HR.out.2]
   have hRr:=HRR.out.new_ hb5
   obtain ⟨w6,hw6⟩ : ∃W,W=w5.alloc (.cells #[.string p.name,.slice E1 r.conds.length d1,.slice E2 r.acts.length d2] 25):=⟨_,rfl⟩
   have hb6:Below w5.heap.size w5 w6:=by rw [hw6];exact (Below.refl _ _).alloc (Nat.le_refl _) _
   have hg6:Blk w6 w5.heap.size 25 #[.string p.name,.slice E1 r.conds.length d1,.slice E2 r.acts.length d2]:=by rw [hw6];exact Blk.new _ _ _
   obtain ⟨w7,hw7⟩ : ∃W,W=w6.setCell ⟨w5.heap.size,0,none⟩ (.string ⟨#[120]⟩):=⟨_,rfl⟩
   have hg7:Blk w7 w5.heap.size 25 #[.string ⟨#[120]⟩,.slice E1 r.conds.length d1,.slice E2 r.acts.length d2]:=by rw [hw7];exact hg6.set_ 0 _
   have hb7:Below w5.heap.size w5 w7:=by rw [hw7];exact hb6.setCell (Nat.le_refl _) _
   have g0:w6.cell? ⟨w5.heap.size,0,none⟩=some (.string p.name):=(hg6.cell 0).trans rfl
   have gf:=hg6.frozen 0
   have gl:=hg6.lt
   have HW6:=Lib.hid hw6
   have HW7:=Lib.hid hw7
   have HG7:=Lib.hid hg7
   have HR7:=Lib.hid (hRr.new_ hb7)
   have hz5:=hb5.size
   have hzx:=HBX.out.size
   have hB7:Below w.heap.size w w7:=HBX.out.trans ((hb5.trans (hb7.mono hz5)).mono hzx)
   have HB7:=Lib.hid hB7
   have hXd:d<X.heap.size:=(Array.getElem?_eq_some_iff.1 HK.out).1
   have HK7:=Lib.hid (((hb5.trans (hb7.mono hz5)).block d hXd).trans HK.out)
   have HR1:=Lib.hid (r1.newD hb7 (Nat.le_refl _))
   have HR2:=Lib.hid (r2.newD hb7 (Nat.le_refl _))
   clear hb5 hb6 hb7 hg6 hg7 hw6 hw7 hRr r1 r2 b0 b1 b2 bz hB7
   go_upto_region 8 with fail
   rw [← HW6.out]
   go_upto_region 9 with fail
   rw [← HW7.out]
   clear g0 gf gl HW6 HW7
   have HT9:=Lib.hid (show w7.there (w.heap.size+1) 0 (#[Value.string ⟨#[120]⟩,Value.slice E1 r.conds.length d1,Value.slice E2 r.acts.length d2]:Array Value).size from HR7.out.there)
   have HRG:=Lib.hid (show w7.rangeAt w5.heap.size 0 [Value.string ⟨#[120]⟩,Value.slice E1 r.conds.length d1,Value.slice E2 r.acts.length d2] from HG7.out.range)
   have hrl:=HR7.out.lt
   have hgl:=HG7.out.lt
   go_wp2_with (first | (with_reducible refine wpList_load_mid rfl 25 _ rfl w5.heap.size 0 rfl [Value.string ⟨#[120]⟩,Value.slice E1 r.conds.length d1,Value.slice E2 r.acts.length d2] _ HRG.out Try.underlying25 rfl (by kernel_rfl) ?_) | (with_reducible refine wpList_store_mid rfl 25 _ _ rfl (w.heap.size+1) 0 #[Value.string ⟨#[120]⟩,Value.slice E1 r.conds.length d1,Value.slice E2 r.acts.length d2] rfl rfl HT9.out (by kernel_rfl) (by kernel_rfl) ?_))
   try simp only [Exit.inBlock,Exit.then]
   obtain ⟨w8,hw8⟩ : ∃W,W=w7.setCells (w.heap.size+1) 0 [Value.string ⟨#[120]⟩,Value.slice E1 r.conds.length d1,Value.slice E2 r.acts.length d2]:=⟨_,rfl⟩
   have hz8:w8.heap.size=w7.heap.size:=by rw [hw8];exact size_setCells _ _ _ _
   have hk8 : ∀j,j≠w.heap.size+1→w8.heap[j]? = w7.heap[j]?:=fun j hj=>by rw [hw8];exact blk_setCells _ _ _ _ _ hj
   have hr8:w8.rangeAt (w.heap.size+1) 0 [Value.string ⟨#[120]⟩,Value.slice E1 r.conds.length d1,Value.slice E2 r.acts.length d2]:=by rw [hw8];exact World.rangeAt_setCells_same w7 (w.heap.size+1) 0 [Value.string ⟨#[120]⟩,Value.slice E1 r.conds.length d1,Value.slice E2 r.acts.length d2] HT9.out
   have hd1:d≠w.heap.size+1:=by have h4:=h4z;have:=h4r.out;omega
   have hK8:w8.heap[d]? = some (.deferred (some [])):=(hk8 d hd1).trans HK7.out
   have hB8:Below w.heap.size w w8:=by rw [hw8];exact Below.setCells' _ _ HB7.out (by omega)
   rw [← hw8]
   clear hw8
   refine ⟨by simp,.inl ⟨_,_,rfl,run_takeDeferred hK8,?_⟩⟩
   have hput:Fr (· = d) w8 (w8.putObj d (.deferred none)):=(Fr.refl (· = d) w8).putObj (.inl rfl) _
   have hr9:(w8.putObj d (.deferred none)).rangeAt (w.heap.size+1) 0 [Value.string ⟨#[120]⟩,Value.slice E1 r.conds.length d1,Value.slice E2 r.acts.length d2]:=fun j v hv=>(hput.cell (p:=⟨w.heap.size+1,0+j,none⟩) (by dsimp only;omega) (fun e=>hd1 e.symm)).trans (hr8 j v hv)
   refine ⟨_,results_cell (t:=2) (T:=25) rfl _ _ (w.heap.size+1) [Value.string ⟨#[120]⟩,Value.slice E1 r.conds.length d1,Value.slice E2 r.acts.length d2] _ rfl hr9 Try.underlying25 rfl (by kernel_rfl),?_⟩
   have hup : ∀j,NewD X.heap.size w7 j→j<w7.heap.size→NewD w.heap.size (w8.putObj d (.deferred none)) j∧(w8.putObj d (.deferred none)).heap[j]? = w7.heap[j]?:=fun j hj hl=>⟨⟨by have:=hj.1;omega,by have:=hput.size;omega⟩,(hput.block j (by omega) (fun e=>by have:=hj.1;omega)).trans (hk8 j (by have:=hj.1;have:=h4r.out;omega))⟩
   rw [HR.out.1]
   exact ⟨E1,d1,E2,d2,rfl,HR1.out.keep (by have:=hput.size;omega) hup,HR2.out.keep (by have:=hput.size;omega) hup,hB8.trans (hput.below (by omega) (fun k hk e=>by omega))⟩
 · intro D' d cd q post X hd hDd hx hIX hK
   rw [hIx] at hIX
   exact hIX.elim
end Go.Proofs.Ytffemfglngikbaa
namespace Go.Proofs.Ytffemfglngikbaa
abbrev MAXS:Nat:=9223372036854775807
theorem fold_le {α:Type} {f:ByteArray→α→ByteArray} (hf : ∀s x,s.size≤(f s x).size) : ∀(l:List α) (s:ByteArray),s.size≤(l.foldl f s).size
 | [],_=>Nat.le_refl _
 | x :: l,s=>Nat.le_trans (hf s x) (fold_le hf l _)
theorem fold_snoc {α:Type} (f:ByteArray→α→ByteArray) {l:List α} {i:Nat} (h:i<l.length) (s:ByteArray):(l.take (i+1)).foldl f s=f ((l.take i).foldl f s) l[i]:=by
 rw [List.take_add_one,List.getElem?_eq_getElem h,List.foldl_append];rfl
theorem fold_take {α:Type} {f:ByteArray→α→ByteArray} (hf : ∀s x,s.size≤(f s x).size) {l:List α} {i:Nat} (h:i<l.length) (s:ByteArray):(f ((l.take i).foldl f s) l[i]).size≤(l.foldl f s).size:=by
 rw [← fold_snoc f h]
 have:=fold_le hf (l.drop (i+1)) ((l.take (i+1)).foldl f s)
 rwa [← List.foldl_append,List.take_append_drop] at this
def atomX (v:ByteArray) (s:Sym):ByteArray:=if v.toList = [] then textB s else (⟨#[60]⟩:ByteArray)++v++(⟨#[62]⟩:ByteArray)
def relX (k:Int):ByteArray:=if k=2 then (⟨#[60,62]⟩:ByteArray) else if k=3 then (⟨#[60]⟩:ByteArray) else if k=4 then (⟨#[60,61]⟩:ByteArray) else if k=5 then (⟨#[62]⟩:ByteArray) else if k=6 then (⟨#[62,61]⟩:ByteArray) else if k=7 then (⟨#[60,61,62]⟩:ByteArray) else ⟨#[]⟩
def listX (s:ByteArray) (x:Sym):ByteArray:=s++(⟨#[32]⟩:ByteArray)++textB x
def testX (t:TestT):ByteArray:=
 if t.rel=8 then t.list.foldl listX (⟨#[60,60]⟩:ByteArray)++(⟨#[32,62,62]⟩:ByteArray)
 else if (relX t.rel).toList = [] then atomX t.var t.sym else relX t.rel++(⟨#[32]⟩:ByteArray)++atomX t.var t.sym
def fieldF (s:ByteArray) (t:TestT):ByteArray:=s++(⟨#[32]⟩:ByteArray)++testX t
def fieldX (l:List TestT):ByteArray:=if l.length=0 then ⟨#[]⟩ else if h:l.length=1 then testX l[0] else l.foldl fieldF (⟨#[123]⟩:ByteArray)++(⟨#[32,125]⟩:ByteArray)
def allF (f:CondT→ByteArray) (p:Nat×ByteArray) (x:CondT):Nat×ByteArray:=(p.1+1,(if 0<p.1 then p.2++(⟨#[32]⟩:ByteArray) else p.2)++f x)
def leaf1 (c:CondT):ByteArray:=if c.kind=2 then (⟨#[45,40]⟩:ByteArray) else (⟨#[40]⟩:ByteArray)
def leaf2 (c:CondT):ByteArray:=if c.goal=true then leaf1 c++(⟨#[115,116,97,116,101,32]⟩:ByteArray) else leaf1 c
def leaf3 (c:CondT):ByteArray:=leaf2 c++(⟨#[60]⟩:ByteArray)++c.id++(⟨#[62,32,94]⟩:ByteArray)++fieldX c.attr
def leaf4 (c:CondT):ByteArray:=if 0<c.value.length then leaf3 c++(⟨#[32]⟩:ByteArray)++fieldX c.value else leaf3 c
def leaf5 (c:CondT):ByteArray:=if c.acc=true then leaf4 c++(⟨#[32,43]⟩:ByteArray) else leaf4 c
def leafX (c:CondT):ByteArray:=leaf5 c++(⟨#[41]⟩:ByteArray)
def condX:Nat→CondT→ByteArray
 | 0,_=>⟨#[]⟩
 | n+1,c=>if c.kind=3 then (c.conds.foldl (allF (condX n)) (0,(⟨#[45,123]⟩:ByteArray))).2++(⟨#[125]⟩:ByteArray) else leafX c
def signX (k:Int):ByteArray:=if k=1 then (⟨#[43]⟩:ByteArray) else if k=2 then (⟨#[45]⟩:ByteArray) else if k=3 then (⟨#[33]⟩:ByteArray) else if k=4 then (⟨#[126]⟩:ByteArray) else if k=5 then (⟨#[62]⟩:ByteArray) else if k=8 then (⟨#[62]⟩:ByteArray) else if k=6 then (⟨#[60]⟩:ByteArray) else if k=9 then (⟨#[60]⟩:ByteArray) else (⟨#[61]⟩:ByteArray)
def opX (k:Int):ByteArray:=if k=1 then (⟨#[43]⟩:ByteArray) else if k=2 then (⟨#[45]⟩:ByteArray) else (⟨#[42]⟩:ByteArray)
def termX (t:TermT):ByteArray:=if t.op=1∨t.op=2∨t.op=3 then (⟨#[40]⟩:ByteArray)++opX t.op++(⟨#[32]⟩:ByteArray)++atomX t.a.var t.a.sym++(⟨#[32]⟩:ByteArray)++atomX t.b.var t.b.sym++(⟨#[41]⟩:ByteArray) else atomX t.a.var t.a.sym
def actX (a:ActT):ByteArray:=
 let s:=(⟨#[40,60]⟩:ByteArray)++a.id++(⟨#[62,32,94]⟩:ByteArray)++atomX a.attr.var a.attr.sym++(⟨#[32]⟩:ByteArray)++termX a.value++(⟨#[32]⟩:ByteArray)++signX a.pref
 (if otherB a.pref=true then s++(⟨#[32]⟩:ByteArray)++atomX a.other.var a.other.sym else s)++(⟨#[41]⟩:ByteArray)
def lineC (n:Nat) (s:ByteArray) (c:CondT):ByteArray:=s++(⟨#[32,32]⟩:ByteArray)++condX n c++(⟨#[10]⟩:ByteArray)
def lineA (s:ByteArray) (a:ActT):ByteArray:=s++(⟨#[32,32]⟩:ByteArray)++actX a++(⟨#[10]⟩:ByteArray)
def prodX (n:Nat) (p:ProdT):ByteArray:=p.acts.foldl lineA (p.conds.foldl (lineC n) ((⟨#[115,112,32,123]⟩:ByteArray)++p.name++(⟨#[10]⟩:ByteArray))++(⟨#[45,45,62,10]⟩:ByteArray))++(⟨#[125,10]⟩:ByteArray)
theorem listX_le (s:ByteArray) (x:Sym):s.size≤(listX s x).size:=by unfold listX;rw [ByteArray.size_append,ByteArray.size_append];omega
theorem fieldF_le (s:ByteArray) (x:TestT):s.size≤(fieldF s x).size:=by unfold fieldF;rw [ByteArray.size_append,ByteArray.size_append];omega
theorem lineC_le (n:Nat) (s:ByteArray) (x:CondT):s.size≤(lineC n s x).size:=by unfold lineC;rw [ByteArray.size_append,ByteArray.size_append,ByteArray.size_append];omega
theorem lineA_le (s:ByteArray) (x:ActT):s.size≤(lineA s x).size:=by unfold lineA;rw [ByteArray.size_append,ByteArray.size_append,ByteArray.size_append];omega
theorem allF_le (f:CondT→ByteArray) : ∀(l:List CondT) (p:Nat×ByteArray),p.2.size≤(l.foldl (allF f) p).2.size
 | [],_=>Nat.le_refl _
 | x :: l,p=>by
   refine Nat.le_trans ?_ (allF_le f l _)
   unfold allF
   dsimp only
   rw [ByteArray.size_append]
   split
   · rw [ByteArray.size_append];omega
   · omega
theorem allF_n (f:CondT→ByteArray) : ∀(l:List CondT) (p:Nat×ByteArray),(l.foldl (allF f) p).1=p.1+l.length
 | [],_=>rfl
 | x :: l,p=>by rw [List.foldl_cons,allF_n f l,List.length_cons];unfold allF;dsimp only;omega
theorem allF_snoc (f:CondT→ByteArray) {l:List CondT} {i:Nat} (h:i<l.length) (s:ByteArray):((l.take (i+1)).foldl (allF f) (0,s)).2=(if 0<i then ((l.take i).foldl (allF f) (0,s)).2++(⟨#[32]⟩:ByteArray) else ((l.take i).foldl (allF f) (0,s)).2)++f l[i]:=by
 rw [List.take_add_one,List.getElem?_eq_getElem h,List.foldl_append]
 have h1:((l.take i).foldl (allF f) (0,s)).1=i:=by rw [allF_n,List.length_take];simp;omega
 generalize (l.take i).foldl (allF f) (0,s)=P at h1 ⊢
 show (allF f P l[i]).2=_
 unfold allF
 rw [h1]
theorem allF_take (f:CondT→ByteArray) {l:List CondT} {i:Nat} (s:ByteArray):((l.take i).foldl (allF f) (0,s)).2.size≤(l.foldl (allF f) (0,s)).2.size:=by
 have:=allF_le f (l.drop i) ((l.take i).foldl (allF f) (0,s))
 rwa [← List.foldl_append,List.take_append_drop] at this
end Go.Proofs.Ytffemfglngikbaa
namespace Go.Proofs.Ytffemfglngikbaa
open Go.RowKit Go.Shelf
attribute [local go_sem] Oper.semAt_some
set_option linter.unusedSimpArgs false
set_option maxRecDepth 100000 in
set_option maxHeartbeats 8000000 in
theorem satom_is (v:ByteArray) (s:Sym) (w:World) (hz:(atomX v s).size≤MAXS):Calls Try.prog 93 #[.string v,.agg #[.int .i64 s.kind,.string s.text,.int .i64 s.n]] w fun e w'=>e = .returned (.string (atomX v s))∧Below w.heap.size w w':=by
 by_cases hv:v.toList = []
 · skip
   have va:(v.toList == [])=true:=by simp [hv]
   have vb:v.toList.isEmpty=true:=by simp [hv]
   have vc:decide (v.toList = [])=true:=by simp [hv]
   have HR:=Lib.hid (show atomX v s=textB s by unfold atomX;rw [if_pos hv])
   clear hv hz
   go_enter Try.func93,Try.ntmps93
   go_upto_region 1 with fail
   obtain ⟨w1,hw1⟩ : ∃w1,w1=(w.alloc (.cells #[.int .i64 s.kind,.string s.text,.int .i64 s.n] 52)):=⟨_,rfl⟩
   rw [← hw1]
   have HB:=Lib.hid (show Below w.heap.size w w1 by rw [hw1];exact (by repeat (first | exact Below.refl _ _ | refine Below.drew ?_ | refine Below.al ?_ _ | refine Below.sc ?_ _)))
   have Ks:=Lib.hid (show Blk w1 (w.heap.size) 52 #[.int .i64 s.kind,.string s.text,.int .i64 s.n] by rw [hw1];exact (Blk.new w 52 #[.int .i64 s.kind,.string s.text,.int .i64 s.n]))
   clear hw1
   obtain ⟨s0,s1,s2⟩:=Ks.out.c3
   have sz:=Ks.out.lt
   go_wp2_with fail
   with_reducible refine (text_is s _).mono ?_
   rintro e w2 ⟨rfl,hb⟩
   have hbs:=Below.trans (show Below w1.heap.size w1 _ from (by (repeat (first | exact Below.refl _ _ | refine Below.drew ?_ | refine Below.al ?_ _ | refine Below.sc ?_ _)))) (hb.mono (by simp<;>omega))
   have Ks:=Lib.hid (Ks.out.new_ hbs)
   have HB:=Lib.hid (HB.out.trans (hbs.mono HB.out.size))
   have hsz2:=hbs.size
   clear s0 s1 s2 sz hb hbs
   obtain ⟨s0,s1,s2⟩:=Ks.out.c3
   have sz:=Ks.out.lt
   go_wp2_with fail
   go_ret
   exact ⟨by rw [HR.out]<;>rfl,by (repeat (first | exact Below.refl _ _ | exact HB.out | refine Below.drew ?_ | refine Below.al ?_ _ | refine Below.sc ?_ _))⟩
 · skip
   have va:(v.toList == [])=false:=by simp [hv]
   have vb:v.toList.isEmpty=false:=by simp [hv]
   have vc:decide (v.toList = [])=false:=by simp [hv]
   have HR:=Lib.hid (show atomX v s=(⟨#[60]⟩:ByteArray)++v++(⟨#[62]⟩:ByteArray) by unfold atomX;rw [if_neg hv])
   rw [HR.out,ByteArray.size_append,ByteArray.size_append] at hz
   have hz1 : ¬MAXS<1+v.size+1:=Nat.not_lt.2 hz
   have hz0 : ¬MAXS<1+v.size:=by unfold MAXS at hz1 ⊢;omega
   clear hv hz
   go_enter Try.func93,Try.ntmps93
   go_upto_region 1 with fail
   obtain ⟨w1,hw1⟩ : ∃w1,w1=(w.alloc (.cells #[.int .i64 s.kind,.string s.text,.int .i64 s.n] 52)):=⟨_,rfl⟩
   rw [← hw1]
   have HB:=Lib.hid (show Below w.heap.size w w1 by rw [hw1];exact (by repeat (first | exact Below.refl _ _ | refine Below.drew ?_ | refine Below.al ?_ _ | refine Below.sc ?_ _)))
   have Ks:=Lib.hid (show Blk w1 (w.heap.size) 52 #[.int .i64 s.kind,.string s.text,.int .i64 s.n] by rw [hw1];exact (Blk.new w 52 #[.int .i64 s.kind,.string s.text,.int .i64 s.n]))
   clear hw1
   obtain ⟨s0,s1,s2⟩:=Ks.out.c3
   have sz:=Ks.out.lt
   go_wp2_with fail
   go_ret
   exact ⟨by rw [HR.out]<;>rfl,by (repeat (first | exact Below.refl _ _ | exact HB.out | refine Below.drew ?_ | refine Below.al ?_ _ | refine Below.sc ?_ _))⟩
set_option maxRecDepth 100000 in
set_option maxHeartbeats 8000000 in
theorem srel_is (k:Int) (w:World):Calls Try.prog 109 #[.int .i64 k] w fun e w'=>e = .returned (.string (relX k))∧w=w':=by
 go_enter Try.func109,Try.ntmps109
 go_wp2_with fail
 all_goals
  go_ret
  refine ⟨?_,rfl⟩
  simp_all [relX]
set_option maxRecDepth 100000 in
set_option maxHeartbeats 8000000 in
theorem ssign_is (k:Int) (w:World):Calls Try.prog 95 #[.int .i64 k] w fun e w'=>e = .returned (.string (signX k))∧w=w':=by
 go_enter Try.func95,Try.ntmps95
 go_wp2_with fail
 all_goals
  go_ret
  refine ⟨?_,rfl⟩
  simp_all [signX]
end Go.Proofs.Ytffemfglngikbaa
namespace Go.Proofs.Ytffemfglngikbaa
open Go.RowKit Go.Shelf
attribute [local go_sem] Oper.semAt_some
set_option linter.unusedSimpArgs false
set_option maxRecDepth 100000 in
set_option maxHeartbeats 8000000 in
theorem stest_is {D:Nat→Prop} {A:Option Addr} {c:Nat} (t:TestT) (w:World) (h:RowR repSym D w A c t.list) (hz:(testX t).size≤MAXS):Calls Try.prog 103 #[.agg #[.int .i64 t.rel,.string t.var,.int .i64 t.sym.kind,.string t.sym.text,.int .i64 t.sym.n,.slice A t.list.length c]] w fun e w'=>e = .returned (.string (testX t))∧Below w.heap.size w w':=by
 have H:=Lib.hid h
 have hlc:=h.cap
 clear h
 by_cases h8:t.rel=8
 · skip
   have ka:(t.rel == 8)=true:=by simp [h8]
   have kb:decide (t.rel=8)=true:=by simp [h8]
   have HR:=Lib.hid (show testX t=t.list.foldl listX (⟨#[60,60]⟩:ByteArray)++(⟨#[32,62,62]⟩:ByteArray) by unfold testX;rw [if_pos h8])
   rw [HR.out,ByteArray.size_append] at hz
   obtain ⟨T,hT⟩ : ∃T,T=t.list.foldl listX (⟨#[60,60]⟩:ByteArray):=⟨_,rfl⟩
   rw [← hT] at HR hz
   have HT:=Lib.hid hT
   have hz9 : ¬MAXS<T.size+3:=Nat.not_lt.2 hz
   have hzz:T.size≤MAXS:=by unfold MAXS at hz9 ⊢;omega
   clear h8 hz hT
   go_enter Try.func103,Try.ntmps103
   go_upto_region 1 with fail
   obtain ⟨w1,hw1⟩ : ∃w1,w1=(w.alloc (.cells #[.int .i64 t.rel,.string t.var,.int .i64 t.sym.kind,.string t.sym.text,.int .i64 t.sym.n,.slice A t.list.length c] 65)):=⟨_,rfl⟩
   rw [← hw1]
   have HB:=Lib.hid (show Below w.heap.size w w1 by rw [hw1];exact (by repeat (first | exact Below.refl _ _ | refine Below.drew ?_ | refine Below.al ?_ _ | refine Below.sc ?_ _)))
   have Kt:=Lib.hid (show Blk w1 (w.heap.size) 65 #[.int .i64 t.rel,.string t.var,.int .i64 t.sym.kind,.string t.sym.text,.int .i64 t.sym.n,.slice A t.list.length c] by rw [hw1];exact (Blk.new w 65 #[.int .i64 t.rel,.string t.var,.int .i64 t.sym.kind,.string t.sym.text,.int .i64 t.sym.n,.slice A t.list.length c]))
   clear hw1
   obtain ⟨t0,t1,t2,t3,t4,t5⟩:=Kt.out.c6
   have tz:=Kt.out.lt
   go_wp2_with fail
   clear t0 t1 t2 t3 t4 t5 tz 
   go_loopw [3,13] (fun s i wr=>∃k:Nat,i = .int .i64 k∧k≤t.list.length∧s = .string ((t.list.take k).foldl listX (⟨#[60,60]⟩:ByteArray))∧Below w1.heap.size w1 wr) (fun s i wr=>t.list.length - (intOf i).toNat)
   case atStart=>exact ⟨0,rfl,Nat.zero_le _,rfl,Below.refl _ _⟩
   case round=>
    obtain ⟨k,rfl,hk,rfl,hb⟩:=hrel
    have HBR:=Lib.hid hb
    clear hb
    by_cases hlt:k<t.list.length
    · obtain ⟨x,hx⟩ : ∃x,x=t.list[k]:=⟨_,rfl⟩
      obtain ⟨S,hS⟩ : ∃S,S=(t.list.take k).foldl listX (⟨#[60,60]⟩:ByteArray):=⟨_,rfl⟩
      have h1:=fold_take listX_le hlt (⟨#[60,60]⟩:ByteArray)
      rw [← hS,← hx,← HT.out] at h1
      unfold listX at h1
      rw [ByteArray.size_append,ByteArray.size_append] at h1
      have h2:S.size+1+(textB x).size≤MAXS:=Nat.le_trans h1 hzz
      have hz1 : ¬MAXS<S.size+1:=by unfold MAXS at h2 ⊢;omega
      have hz2 : ¬MAXS<S.size+1+(textB x).size:=Nat.not_lt.2 h2
      have HS:=Lib.hid (show (t.list.take (k+1)).foldl listX (⟨#[60,60]⟩:ByteArray)=S++(⟨#[32]⟩:ByteArray)++textB x by rw [fold_snoc listX hlt,← hS,← hx];rfl)
      obtain ⟨g,off,rfl,_,hgs,q0,q1,q2⟩:=at_Sym (H.out.new_ (HB.out.trans (HBR.out.mono HB.out.size))) hlt
      rw [← hx] at q0 q1 q2
      have b1:(0:Int)≤(k:Int):=by omega
      have b2:(k:Int)<(t.list.length:Int):=by omega
      rw [← hS]
      clear hx h1 h2 hS hz9 hzz
      go_wp2_with fail
      refine (text_is x _).mono ?_
      rintro e w5 ⟨rfl,hb5⟩
      have HB5:=Lib.hid (HBR.out.trans (((Below.refl wr.heap.size wr).alloc (Nat.le_refl _) _ |>.trans (hb5.mono (by simp))).mono HBR.out.size))
      clear hb5 q0 q1 q2
      go_wp2_with fail
      go_roundw
      case rel=>exact ⟨k+1,by go_num,by omega,by rw [HS.out],HB5.out⟩
      case measure=>simp [intOf]<;>omega
    · obtain rfl:k=t.list.length:=by omega
      rw [List.take_length,← HT.out]
      go_wp2_with fail
      go_ret
      exact ⟨by rw [HR.out]<;>rfl,HB.out.trans (HBR.out.mono HB.out.size)⟩
 · skip
   have ka:(t.rel == 8)=false:=by simp [h8]
   have kb:decide (t.rel=8)=false:=by simp [h8]
   by_cases hr:(relX t.rel).toList = []
   · skip
     have ra:((relX t.rel).toList == [])=true:=by simp [hr]
     have rb:(relX t.rel).toList.isEmpty=true:=by simp [hr]
     have rc:decide ((relX t.rel).toList = [])=true:=by simp [hr]
     have HR:=Lib.hid (show testX t=atomX t.var t.sym by unfold testX;rw [if_neg h8,if_pos hr])
     rw [HR.out] at hz
     have HZ:=Lib.hid hz
     clear h8 hr hz
     go_enter Try.func103,Try.ntmps103
     go_upto_region 1 with fail
     obtain ⟨w1,hw1⟩ : ∃w1,w1=(w.alloc (.cells #[.int .i64 t.rel,.string t.var,.int .i64 t.sym.kind,.string t.sym.text,.int .i64 t.sym.n,.slice A t.list.length c] 65)):=⟨_,rfl⟩
     rw [← hw1]
     have HB:=Lib.hid (show Below w.heap.size w w1 by rw [hw1];exact (by repeat (first | exact Below.refl _ _ | refine Below.drew ?_ | refine Below.al ?_ _ | refine Below.sc ?_ _)))
     have Kt:=Lib.hid (show Blk w1 (w.heap.size) 65 #[.int .i64 t.rel,.string t.var,.int .i64 t.sym.kind,.string t.sym.text,.int .i64 t.sym.n,.slice A t.list.length c] by rw [hw1];exact (Blk.new w 65 #[.int .i64 t.rel,.string t.var,.int .i64 t.sym.kind,.string t.sym.text,.int .i64 t.sym.n,.slice A t.list.length c]))
     clear hw1
     obtain ⟨t0,t1,t2,t3,t4,t5⟩:=Kt.out.c6
     have tz:=Kt.out.lt
     go_wp2_with fail
     with_reducible refine (srel_is t.rel _).mono ?_
     rintro e w0 ⟨rfl,rfl⟩
     go_wp2_with fail
     with_reducible refine (satom_is t.var t.sym _ HZ.out).mono ?_
     rintro e w2 ⟨rfl,hb⟩
     have hbs:=Below.trans (show Below w1.heap.size w1 _ from (by (repeat (first | exact Below.refl _ _ | refine Below.drew ?_ | refine Below.al ?_ _ | refine Below.sc ?_ _)))) (hb.mono (by simp<;>omega))
     have Kt:=Lib.hid (Kt.out.new_ hbs)
     have HB:=Lib.hid (HB.out.trans (hbs.mono HB.out.size))
     have hsz2:=hbs.size
     clear t0 t1 t2 t3 t4 t5 tz hb hbs
     obtain ⟨t0,t1,t2,t3,t4,t5⟩:=Kt.out.c6
     have tz:=Kt.out.lt
     go_wp2_with fail
     go_ret
     exact ⟨by rw [HR.out]<;>rfl,by (repeat (first | exact Below.refl _ _ | exact HB.out | refine Below.drew ?_ | refine Below.al ?_ _ | refine Below.sc ?_ _))⟩
   · skip
     have ra:((relX t.rel).toList == [])=false:=by simp [hr]
     have rb:(relX t.rel).toList.isEmpty=false:=by simp [hr]
     have rc:decide ((relX t.rel).toList = [])=false:=by simp [hr]
     have HR:=Lib.hid (show testX t=relX t.rel++(⟨#[32]⟩:ByteArray)++atomX t.var t.sym by unfold testX;rw [if_neg h8,if_neg hr])
     rw [HR.out,ByteArray.size_append,ByteArray.size_append] at hz
     have hz2 : ¬MAXS<(relX t.rel).size+1+(atomX t.var t.sym).size:=Nat.not_lt.2 hz
     have hz1 : ¬MAXS<(relX t.rel).size+1:=by unfold MAXS at hz2 ⊢;omega
     have HZ:=Lib.hid (show (atomX t.var t.sym).size≤MAXS by unfold MAXS at hz2 ⊢;omega)
     clear h8 hr hz
     go_enter Try.func103,Try.ntmps103
     go_upto_region 1 with fail
     obtain ⟨w1,hw1⟩ : ∃w1,w1=(w.alloc (.cells #[.int .i64 t.rel,.string t.var,.int .i64 t.sym.kind,.string t.sym.text,.int .i64 t.sym.n,.slice A t.list.length c] 65)):=⟨_,rfl⟩
     rw [← hw1]
     have HB:=Lib.hid (show Below w.heap.size w w1 by rw [hw1];exact (by repeat (first | exact Below.refl _ _ | refine Below.drew ?_ | refine Below.al ?_ _ | refine Below.sc ?_ _)))
     have Kt:=Lib.hid (show Blk w1 (w.heap.size) 65 #[.int .i64 t.rel,.string t.var,.int .i64 t.sym.kind,.string t.sym.text,.int .i64 t.sym.n,.slice A t.list.length c] by rw [hw1];exact (Blk.new w 65 #[.int .i64 t.rel,.string t.var,.int .i64 t.sym.kind,.string t.sym.text,.int .i64 t.sym.n,.slice A t.list.length c]))
     clear hw1
     obtain ⟨t0,t1,t2,t3,t4,t5⟩:=Kt.out.c6
     have tz:=Kt.out.lt
     go_wp2_with fail
     with_reducible refine (srel_is t.rel _).mono ?_
     rintro e w0 ⟨rfl,rfl⟩
     go_wp2_with fail
     with_reducible refine (satom_is t.var t.sym _ HZ.out).mono ?_
     rintro e w2 ⟨rfl,hb⟩
     have hbs:=Below.trans (show Below w1.heap.size w1 _ from (by (repeat (first | exact Below.refl _ _ | refine Below.drew ?_ | refine Below.al ?_ _ | refine Below.sc ?_ _)))) (hb.mono (by simp<;>omega))
     have Kt:=Lib.hid (Kt.out.new_ hbs)
     have HB:=Lib.hid (HB.out.trans (hbs.mono HB.out.size))
     have hsz2:=hbs.size
     clear t0 t1 t2 t3 t4 t5 tz hb hbs
     obtain ⟨t0,t1,t2,t3,t4,t5⟩:=Kt.out.c6
     have tz:=Kt.out.lt
     go_wp2_with fail
     go_ret
     exact ⟨by rw [HR.out]<;>rfl,by (repeat (first | exact Below.refl _ _ | exact HB.out | refine Below.drew ?_ | refine Below.al ?_ _ | refine Below.sc ?_ _))⟩
set_option maxRecDepth 100000 in
set_option maxHeartbeats 8000000 in
theorem sfield_is {D:Nat→Prop} {A:Option Addr} {c:Nat} (l:List TestT) (w:World) (h:RowR repTestT D w A c l) (hz:(fieldX l).size≤MAXS):Calls Try.prog 92 #[.slice A l.length c] w fun e w'=>e = .returned (.string (fieldX l))∧Below w.heap.size w w':=by
 have H:=Lib.hid h
 have hlc:=h.cap
 clear h
 by_cases h0:l.length=0
 · have t0:((l.length:Int) == 0)=true:=by simp [h0]
   have t1:decide ((l.length:Int)=0)=true:=by simp [h0]
   have HR:=Lib.hid (show fieldX l=⟨#[]⟩ by unfold fieldX;rw [if_pos h0])
   clear h0 hz
   go_enter Try.func92,Try.ntmps92
   go_wp2_with fail
   go_ret
   exact ⟨by rw [HR.out]<;>rfl,Below.refl _ _⟩
 by_cases h1:l.length=1
 · have t0:((l.length:Int) == 0)=false:=by simp [h0]
   have t1:decide ((l.length:Int)=0)=false:=by simp [h0]
   have t2:((l.length:Int) == 1)=true:=by simp [h1]
   have t3:decide ((l.length:Int)=1)=true:=by simp [h1]
   have hlt:0<l.length:=by omega
   obtain ⟨x,hx⟩ : ∃x,x=l[0]:=⟨_,rfl⟩
   have HR:=Lib.hid (show fieldX l=testX x by unfold fieldX;rw [if_neg h0,dif_pos h1,hx])
   have b2:(0:Int)<(l.length:Int):=by omega
   rw [HR.out] at hz
   have HZ:=Lib.hid hz
   obtain ⟨g,off,A1,c1,rfl,_,hgs,q0,q1,q2,q3,q4,q5,hl⟩:=at_TestT H.out hlt
   rw [← hx] at q0 q1 q2 q3 q4 q5 hl
   rw [Nat.zero_mul,Nat.add_zero] at q0 q1 q2 q3 q4 q5
   have HL:=Lib.hid hl
   clear hl h0 h1 hx hz
   go_enter Try.func92,Try.ntmps92
   go_wp2_with fail
   refine (stest_is x _ HL.out HZ.out).mono ?_
   rintro e w5 ⟨rfl,hb5⟩
   have HB5:=Lib.hid hb5
   clear hb5 q0 q1 q2 q3 q4 q5
   go_wp2_with fail
   go_ret
   exact ⟨by rw [HR.out]<;>rfl,HB5.out⟩
 have t0:((l.length:Int) == 0)=false:=by simp [h0]
 have t1:decide ((l.length:Int)=0)=false:=by simp [h0]
 have t2:((l.length:Int) == 1)=false:=by simp;omega
 have t3:decide ((l.length:Int)=1)=false:=by simp;omega
 have HR:=Lib.hid (show fieldX l=l.foldl fieldF (⟨#[123]⟩:ByteArray)++(⟨#[32,125]⟩:ByteArray) by unfold fieldX;rw [if_neg h0,dif_neg h1])
 rw [HR.out,ByteArray.size_append] at hz
 obtain ⟨T,hT⟩ : ∃T,T=l.foldl fieldF (⟨#[123]⟩:ByteArray):=⟨_,rfl⟩
 rw [← hT] at HR hz
 have HT:=Lib.hid hT
 have hz9 : ¬MAXS<T.size+2:=Nat.not_lt.2 hz
 have hzz:T.size≤MAXS:=by unfold MAXS at hz9 ⊢;omega
 clear h0 h1 hz hT
 go_enter Try.func92,Try.ntmps92
 go_wp2_with fail
 clear t0 t1 t2 t3
 go_loopw [3,18] (fun s i wr=>∃k:Nat,i = .int .i64 k∧k≤l.length∧s = .string ((l.take k).foldl fieldF (⟨#[123]⟩:ByteArray))∧Below w.heap.size w wr) (fun s i wr=>l.length - (intOf i).toNat)
 case atStart=>exact ⟨0,rfl,Nat.zero_le _,rfl,Below.refl _ _⟩
 case round=>
  obtain ⟨k,rfl,hk,rfl,hb⟩:=hrel
  have HBR:=Lib.hid hb
  clear hb
  by_cases hlt:k<l.length
  · obtain ⟨x,hx⟩ : ∃x,x=l[k]:=⟨_,rfl⟩
    obtain ⟨S,hS⟩ : ∃S,S=(l.take k).foldl fieldF (⟨#[123]⟩:ByteArray):=⟨_,rfl⟩
    have h1:=fold_take fieldF_le hlt (⟨#[123]⟩:ByteArray)
    rw [← hS,← hx,← HT.out] at h1
    unfold fieldF at h1
    rw [ByteArray.size_append,ByteArray.size_append] at h1
    have h2:S.size+1+(testX x).size≤MAXS:=Nat.le_trans h1 hzz
    have hz1 : ¬MAXS<S.size+1:=by unfold MAXS at h2 ⊢;omega
    have hz2 : ¬MAXS<S.size+1+(testX x).size:=Nat.not_lt.2 h2
    have HZX:=Lib.hid (show (testX x).size≤MAXS by unfold MAXS at h2 ⊢;omega)
    have HS:=Lib.hid (show (l.take (k+1)).foldl fieldF (⟨#[123]⟩:ByteArray)=S++(⟨#[32]⟩:ByteArray)++testX x by rw [fold_snoc fieldF hlt,← hS,← hx];rfl)
    obtain ⟨g,off,A1,c1,rfl,_,hgs,q0,q1,q2,q3,q4,q5,hl⟩:=at_TestT (H.out.new_ HBR.out) hlt
    rw [← hx] at q0 q1 q2 q3 q4 q5 hl
    have HL:=Lib.hid hl
    have b1:(0:Int)≤(k:Int):=by omega
    have b2:(k:Int)<(l.length:Int):=by omega
    rw [← hS]
    clear hx h1 h2 hS hz9 hzz hl
    go_wp2_with fail
    refine (stest_is x _ (HL.out.new_ ((Below.refl _ _).alloc (Nat.le_refl _) _)) HZX.out).mono ?_
    rintro e w5 ⟨rfl,hb5⟩
    have HB5:=Lib.hid (HBR.out.trans (((Below.refl wr.heap.size wr).alloc (Nat.le_refl _) _ |>.trans (hb5.mono (by simp))).mono HBR.out.size))
    clear hb5 q0 q1 q2 q3 q4 q5
    go_wp2_with fail
    go_roundw
    case rel=>exact ⟨k+1,by go_num,by omega,by rw [HS.out],HB5.out⟩
    case measure=>simp [intOf]<;>omega
  · obtain rfl:k=l.length:=by omega
    rw [List.take_length,← HT.out]
    go_wp2_with fail
    go_ret
    exact ⟨by rw [HR.out]<;>rfl,HBR.out⟩
end Go.Proofs.Ytffemfglngikbaa
namespace Go.Proofs.Ytffemfglngikbaa
open Go.RowKit Go.Shelf
attribute [local go_sem] Oper.semAt_some
set_option linter.unusedSimpArgs false
def SCond (n:Nat):Prop:=∀(c:CondT) (A1:Option Addr) (c1:Nat) (A2:Option Addr) (c2:Nat) (A3:Option Addr) (c3:Nat) (D:Nat→Prop) (w:World),RowR repTestT D w A1 c1 c.attr→RowR repTestT D w A2 c2 c.value→RowR (repCondT n) D w A3 c3 c.conds→(condX (n+1) c).size≤MAXS→
    Calls Try.prog 80 #[.agg #[.int .i64 c.kind,.bool c.goal,.string c.id,.slice A1 c.attr.length c1,.slice A2 c.value.length c2,.bool c.acc,.slice A3 c.conds.length c3]] w fun e w'=>e = .returned (.string (condX (n+1) c))∧Below w.heap.size w w'
set_option maxRecDepth 100000 in
set_option maxHeartbeats 8000000 in
theorem scond_leaf {D:Nat→Prop} (c:CondT) (A1:Option Addr) (c1:Nat) (A2:Option Addr) (c2:Nat) (A3:Option Addr) (c3:Nat) (w:World) (h1:RowR repTestT D w A1 c1 c.attr) (h2:RowR repTestT D w A2 c2 c.value) (hk : ¬c.kind=3) (hz:(leafX c).size≤MAXS) :
 Calls Try.prog 80 #[.agg #[.int .i64 c.kind,.bool c.goal,.string c.id,.slice A1 c.attr.length c1,.slice A2 c.value.length c2,.bool c.acc,.slice A3 c.conds.length c3]] w fun e w'=>e = .returned (.string (leafX c))∧Below w.heap.size w w':=by
 have H1:=Lib.hid h1
 have H2:=Lib.hid h2
 have hc1:=h1.cap
 have hc2:=h2.cap
 obtain ⟨S1,hS1⟩ : ∃S,S=leaf1 c:=⟨_,rfl⟩
 obtain ⟨S2,hS2⟩ : ∃S,S=leaf2 c:=⟨_,rfl⟩
 obtain ⟨S3,hS3⟩ : ∃S,S=leaf3 c:=⟨_,rfl⟩
 obtain ⟨S4,hS4⟩ : ∃S,S=leaf4 c:=⟨_,rfl⟩
 obtain ⟨S5,hS5⟩ : ∃S,S=leaf5 c:=⟨_,rfl⟩
 have HR:=Lib.hid (show leafX c=S5++(⟨#[41]⟩:ByteArray) by unfold leafX;rw [hS5])
 rw [HR.out,ByteArray.size_append] at hz
 have z5:S5.size+1≤MAXS:=hz
 have HS1:=Lib.hid hS1
 have E2:=Lib.hid (show S2=if c.goal=true then S1++(⟨#[115,116,97,116,101,32]⟩:ByteArray) else S1 by rw [hS2,hS1];rfl)
 have E3:=Lib.hid (show S3=S2++(⟨#[60]⟩:ByteArray)++c.id++(⟨#[62,32,94]⟩:ByteArray)++fieldX c.attr by rw [hS3,hS2];rfl)
 have E4:=Lib.hid (show S4=if 0<c.value.length then S3++(⟨#[32]⟩:ByteArray)++fieldX c.value else S3 by rw [hS4,hS3];rfl)
 have E5:=Lib.hid (show S5=if c.acc=true then S4++(⟨#[32,43]⟩:ByteArray) else S4 by rw [hS5,hS4];rfl)
 have z4:S4.size≤MAXS:=by
  have:=congrArg ByteArray.size E5.out
  split at this
  · rw [ByteArray.size_append] at this;omega
  · omega
 have z3:S3.size≤MAXS:=by
  have:=congrArg ByteArray.size E4.out
  split at this
  · rw [ByteArray.size_append,ByteArray.size_append] at this;omega
  · omega
 have z2:S2.size+1+c.id.size+3+(fieldX c.attr).size≤MAXS:=by
  have:=congrArg ByteArray.size E3.out
  rw [ByteArray.size_append,ByteArray.size_append,ByteArray.size_append,ByteArray.size_append] at this
  have e1:((⟨#[60]⟩:ByteArray)).size=1:=rfl
  have e3:((⟨#[62,32,94]⟩:ByteArray)).size=3:=rfl
  omega
 have Z1:=Lib.hid (show c.goal=true→S1.size+6≤MAXS from fun h=>by
  have:=congrArg ByteArray.size E2.out
  rw [if_pos h,ByteArray.size_append] at this
  have e6:((⟨#[115,116,97,116,101,32]⟩:ByteArray)).size=6:=rfl
  omega)
 have Z4:=Lib.hid (show 0<c.value.length→S3.size+1+(fieldX c.value).size≤MAXS from fun h=>by
  have:=congrArg ByteArray.size E4.out
  rw [if_pos h,ByteArray.size_append,ByteArray.size_append] at this
  have e1:((⟨#[32]⟩:ByteArray)).size=1:=rfl
  omega)
 have Z5:=Lib.hid (show c.acc=true→S4.size+2≤MAXS from fun h=>by
  have:=congrArg ByteArray.size E5.out
  rw [if_pos h,ByteArray.size_append] at this
  have e1:((⟨#[32,43]⟩:ByteArray)).size=2:=rfl
  omega)
 have y5 : ¬MAXS<S5.size+1:=Nat.not_lt.2 z5
 have y1 : ¬MAXS<S2.size+1:=by unfold MAXS at *;omega
 have y2 : ¬MAXS<S2.size+1+c.id.size:=by unfold MAXS at *;omega
 have y3 : ¬MAXS<S2.size+1+c.id.size+3:=by unfold MAXS at *;omega
 have y4 : ¬MAXS<S2.size+1+c.id.size+3+(fieldX c.attr).size:=Nat.not_lt.2 z2
 have HF1:=Lib.hid (show (fieldX c.attr).size≤MAXS by omega)
 have HY:=Lib.hid (And.intro y5 (And.intro y1 (And.intro y2 (And.intro y3 y4))))
 clear h1 h2 hS1 hS2 hS3 hS4 hS5 hz z5 z4 z3 z2 y5 y1 y2 y3 y4
 have ka:(c.kind == 3)=false:=by simp [hk]
 have kb:decide (c.kind=3)=false:=by simp [hk]
 clear hk
 go_enter Try.func80,Try.ntmps80
 go_upto_region 1 with fail
 obtain ⟨w1,hw1⟩ : ∃w1,w1=(w.alloc (.cells #[.int .i64 c.kind,.bool c.goal,.string c.id,.slice A1 c.attr.length c1,.slice A2 c.value.length c2,.bool c.acc,.slice A3 c.conds.length c3] 50)):=⟨_,rfl⟩
 rw [← hw1]
 have HB:=Lib.hid (show Below w.heap.size w w1 by rw [hw1];exact (by repeat (first | exact Below.refl _ _ | refine Below.drew ?_ | refine Below.al ?_ _ | refine Below.sc ?_ _)))
 have Kb:=Lib.hid (show Blk w1 (w.heap.size) 50 #[.int .i64 c.kind,.bool c.goal,.string c.id,.slice A1 c.attr.length c1,.slice A2 c.value.length c2,.bool c.acc,.slice A3 c.conds.length c3] by rw [hw1];exact (Blk.new w 50 #[.int .i64 c.kind,.bool c.goal,.string c.id,.slice A1 c.attr.length c1,.slice A2 c.value.length c2,.bool c.acc,.slice A3 c.conds.length c3]))
 clear hw1
 obtain ⟨b0,b1,b2,b3,b4,b5,b6⟩:=Kb.out.c7
 have bz:=Kb.out.lt
 obtain ⟨vg,hvg⟩ : ∃v,v=c.goal:=⟨_,rfl⟩
 rw [← hvg] at b1
 have HVG:=Lib.hid hvg
 obtain ⟨va,hva⟩ : ∃v,v=c.acc:=⟨_,rfl⟩
 rw [← hva] at b5
 have HVA:=Lib.hid hva
 clear hvg hva
 go_upto_if 31 with fail
 go_cut [6] from 29 (fun s wc=>s = .string S1∧wc=w1)
 case first=>
  by_cases h2:c.kind=2
  · have k2a:(c.kind == 2)=true:=by simp [h2]
    have k2b:decide (c.kind=2)=true:=by simp [h2]
    have HV:=Lib.hid (show S1=(⟨#[45,40]⟩:ByteArray) by rw [HS1.out];unfold leaf1;rw [if_pos h2])
    clear h2
    go_wp2_with fail
    go_meet
    case rel=>exact ⟨by rw [HV.out],rfl⟩
  · have k2a:(c.kind == 2)=false:=by simp [h2]
    have k2b:decide (c.kind=2)=false:=by simp [h2]
    have HV:=Lib.hid (show S1=(⟨#[40]⟩:ByteArray) by rw [HS1.out];unfold leaf1;rw [if_neg h2])
    clear h2
    go_wp2_with fail
    go_meet
    case rel=>exact ⟨by rw [HV.out],rfl⟩
 case rest=>
  obtain ⟨rfl,rfl⟩:=hcut
  go_upto_if 33 with fail
  go_cut [6] from 29 (fun s w0=>s = .string S2∧w0=wc)
  case first=>
   cases vg
   · have HV:=Lib.hid (show S2=S1 by rw [E2.out,← HVG.out];rfl)
     go_wp2_with fail
     go_meet
     case rel=>exact ⟨by rw [HV.out],rfl⟩
   · have HV:=Lib.hid (show S2=S1++(⟨#[115,116,97,116,101,32]⟩:ByteArray) by rw [E2.out,← HVG.out];rfl)
     have y6 : ¬MAXS<S1.size+6:=Nat.not_lt.2 (Z1.out HVG.out.symm)
     go_wp2_with fail
     go_meet
     case rel=>exact ⟨by rw [HV.out],rfl⟩
  case rest=>
   obtain ⟨rfl,rfl⟩:=hcut
   obtain ⟨y5,y1,y2,y3,y4⟩:=HY.out
   go_upto_region 16 with fail
   refine wp_region_E (fun w9=>Below wc.heap.size wc w9) [(0,0),(1,0),(2,0),(3,1),(4,0),(5,0),(6,0),(7,1),(8,2),(9,0),(10,0)] (by kernel_rfl) (by kernel_rfl) (fun KK hKK=>?_)
   simp only [beside,List.filterMap_cons,List.filterMap_nil,List.getElem?_toArray,List.getElem?_cons_zero,List.getElem?_cons_succ,Option.map_some]
   repeat ((first | (refine wpX_w ?_ (Or.inl ⟨by rfl,fun w9=>?_⟩) ?_;rotate_left 1;go_simp;with_reducible rfl) | (refine wpX_l ?_ (((Below.refl _ _).drew)) (Or.inl ⟨by rfl,fun w9 hw9=>?_⟩) ?_;rotate_left 1;obtain ⟨hc9,hf9⟩:=bcell hw9;go_simp;with_reducible rfl) | refine wpX_w undef (Or.inr ⟨by rfl,rfl⟩) ?_ | refine wpX_l undef (((Below.refl _ _).drew)) (Or.inr ⟨by rfl,rfl⟩) ?_);go_frame)
   refine wpX_es (fun K9 hK9=>?_)
   go_simp
   refine (sfield_is c.attr _ ((H1.out.new_ HB.out).new_ ((Below.refl _ _).drew)) HF1.out).mono ?_
   rintro e w5 ⟨rfl,hb5⟩
   have HB5:=Lib.hid (show Below wc.heap.size wc w5 from ((Below.refl wc.heap.size wc).drew).trans hb5)
   have HK5:=Lib.hid (Kb.out.new_ HB5.out)
   clear hb5
   refine hK9 _ _ HB5.out ?_
   clear hK9 K9
   repeat ((first | (refine wpX_w ?_ (Or.inl ⟨by rfl,fun w9=>?_⟩) ?_;rotate_left 1;go_simp;with_reducible rfl) | (refine wpX_l ?_ (HB5.out) (Or.inl ⟨by rfl,fun w9 hw9=>?_⟩) ?_;rotate_left 1;obtain ⟨hc9,hf9⟩:=bcell hw9;go_simp;with_reducible rfl) | refine wpX_w undef (Or.inr ⟨by rfl,rfl⟩) ?_ | refine wpX_l undef (HB5.out) (Or.inr ⟨by rfl,rfl⟩) ?_);go_frame)
   refine wpX_nil ?_
   simp only [OnlyN_normal]
   refine hKK _ _ ?_
   clear hKK KK
   rw [← E3.out]
   clear y1 y2 y3 y4 b0 b1 b2 b3 b4 b5 b6 bz
   have b4:w5.cell? ⟨w.heap.size,4,none⟩=some (.slice A2 c.value.length c2):=(HK5.out.cell 4).trans rfl
   have b5:w5.cell? ⟨w.heap.size,5,none⟩=some (.bool c.acc):=(HK5.out.cell 5).trans rfl
   rw [← HVA.out] at b5
   have bz:=HK5.out.lt
   have HBW:=Lib.hid (HB.out.trans (HB5.out.mono HB.out.size))
   go_upto_if 49 with fail
   go_cut [6] from 29 (fun s wd=>s = .string S4∧Below w5.heap.size w5 wd)
   case first=>
    by_cases hv:0<c.value.length
    · have g1:decide ((0:Int)<(c.value.length:Int))=true:=decide_eq_true (by omega)
      have g2:decide (0<c.value.length)=true:=decide_eq_true hv
      have HV:=Lib.hid (show S4=S3++(⟨#[32]⟩:ByteArray)++fieldX c.value by rw [E4.out,if_pos hv])
      have z4:=Z4.out hv
      have y6 : ¬MAXS<S3.size+1:=by unfold MAXS at *;omega
      have y7 : ¬MAXS<S3.size+1+(fieldX c.value).size:=Nat.not_lt.2 z4
      have HF2:=Lib.hid (show (fieldX c.value).size≤MAXS by omega)
      clear z4 y5
      go_wp2_with fail
      refine (sfield_is c.value _ (H2.out.new_ HBW.out) HF2.out).mono ?_
      rintro e w6 ⟨rfl,hb6⟩
      have HB6:=Lib.hid hb6
      clear hb6 b4 b5 bz
      go_wp2_with fail
      go_meet
      case rel=>exact ⟨by rw [HV.out],HB6.out⟩
    · have g1:decide ((0:Int)<(c.value.length:Int))=false:=decide_eq_false (by omega)
      have g2:decide (0<c.value.length)=false:=decide_eq_false hv
      have HV:=Lib.hid (show S4=S3 by rw [E4.out,if_neg hv])
      clear y5
      go_wp2_with fail
      go_meet
      case rel=>exact ⟨by rw [HV.out],Below.refl _ _⟩
   case rest=>
    obtain ⟨rfl,hbd⟩:=hcut
    have HBD:=Lib.hid hbd
    have HK7:=HK5.out.new_ hbd
    clear hbd b4 b5 bz
    have b5:wc.cell? ⟨w.heap.size,5,none⟩=some (.bool c.acc):=(HK7.cell 5).trans rfl
    rw [← HVA.out] at b5
    have bz:=HK7.lt
    clear HK7
    go_upto_if 57 with fail
    go_cut [6] from 29 (fun s we=>s = .string S5∧we=wc)
    case first=>
     cases va
     · have HV:=Lib.hid (show S5=S4 by rw [E5.out,← HVA.out];rfl)
       go_wp2_with fail
       go_meet
       case rel=>exact ⟨by rw [HV.out],rfl⟩
     · have HV:=Lib.hid (show S5=S4++(⟨#[32,43]⟩:ByteArray) by rw [E5.out,← HVA.out];rfl)
       have y6 : ¬MAXS<S4.size+2:=Nat.not_lt.2 (Z5.out HVA.out.symm)
       go_wp2_with fail
       go_meet
       case rel=>exact ⟨by rw [HV.out],rfl⟩
    case rest=>
     obtain ⟨rfl,rfl⟩:=hcut
     go_wp2_with fail
     go_ret
     exact ⟨by rw [HR.out]<;>rfl,HBW.out.trans (HBD.out.mono HBW.out.size)⟩
end Go.Proofs.Ytffemfglngikbaa
