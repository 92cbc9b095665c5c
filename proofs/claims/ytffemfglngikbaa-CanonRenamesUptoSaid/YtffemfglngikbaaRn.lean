/-
  Texts put together: Canon4U, Spoil1, Spoil2, Spoil3.
-/
import Derived.Test.YtffemfglngikbaaRm
import Derived.Maps.RangeWalk
namespace Go.Proofs.Ytffemfglngikbaa
open Go.RowKit Go.Shelf
def FreshPU (n:Nat) (p:ProdT) (w:World) (en:Ending) (w':World):Prop:=
 ∃A1 c1 A2 c2,en = .returned (.agg #[.string p.name,.slice A1 p.conds.length c1,.slice A2 p.acts.length c2])∧RowU (repCondU n) (NewD w.heap.size w') w' A1 c1 p.conds∧RowU repActT (NewD w.heap.size w') w' A2 c2 p.acts∧Below w.heap.size w w'
def PHU (n g:Nat) (p:ProdT) (L:List CondT) (W1:World) (k:Nat) (A:Option Addr) (c:Nat) (wr:World):Prop:=
 Blk wr g 25 #[.string p.name,.slice A k c,.slice none 0 0]∧∃C:Nat→Prop,¬C g∧(∀j,C j→NewD W1.heap.size wr j)∧W1.heap.size≤g∧OwnC (repCondU n) 50 C wr (.slice A (L.take k).length c) (L.take k)∧AIn A (fun j=>NewD W1.heap.size wr j∧j≠g)∧Below W1.heap.size W1 wr
section
variable {n g:Nat} {p:ProdT} {L:List CondT} {W1 wr:World} {k:Nat} {A:Option Addr} {c:Nat} {C:Nat→Prop}
theorem PHU.step {y:CondT} {W7 w8:World} {A':Option Addr} {c':Nat} (hG:Blk wr g 25 #[.string p.name,.slice A k c,.slice none 0 0]) (hCg : ¬C g) (hC : ∀j,C j→NewD W1.heap.size wr j) (hg:W1.heap.size≤g)
 (hO:OwnC (repCondU n) 50 C wr (.slice A (L.take k).length c) (L.take k)) (hA:AIn A (fun j=>NewD W1.heap.size wr j∧j≠g)) (hB:Below W1.heap.size W1 wr) (hk1:k+1≤L.length) (hy:L.take k ++ [y]=L.take (k+1)) (h7:Below wr.heap.size wr W7)
 (ha:Appended (repCondU n) 50 (Plus C wr W7) W7 (.slice A (L.take k).length c) (L.take k ++ [y]) (.slice A' (k+1) c') w8):PHU n g p L W1 (k+1) A' c' (w8.setCell ⟨g,1,none⟩ (.slice A' (k+1) c')):=by
 obtain ⟨a1,a2,a3⟩:=ha
 rw [hy] at a1
 have hz:=hB.size
 have hz7:=h7.size
 have hz8:=a2.size
 have hgl:=hG.lt
 have hnA : ∀j,(Value.slice A (L.take k).length c).ownBlock=some j→W1.heap.size≤j∧j<wr.heap.size∧j≠g:=fun j hj=>by
  rcases A with _ | a
  · simp [Value.ownBlock] at hj
  · simp only [Value.ownBlock,Option.some.injEq] at hj
    have:=hA a rfl
    exact ⟨by rw [← hj];exact this.1.1,by rw [← hj];exact this.1.2,by rw [← hj];exact this.2⟩
 have hlen:(L.take (k+1)).length=k+1:=take_len hk1
 have hG8:Blk w8 g 25 #[.string p.name,.slice A k c,.slice none 0 0]:=(hG.new_ h7).grown a2 (fun e=>(hnA g e).2.2 rfl)
 have hne8 : ∀j,(Value.slice A' (k+1) c').ownBlock=some j→W1.heap.size≤j∧j≠g:=fun j hj=>by
  rcases a3 with a3 | a3
  · have:=hnA j (a3 ▸ hj);exact ⟨this.1,this.2.2⟩
  · rw [a3] at hj;injection hj with hj;subst hj;exact ⟨by omega,by omega⟩
 have hCP : ∀j,Plus C wr W7 j→NewD W1.heap.size W7 j:=fun j hj=>by
  rcases hj with hj | hj
  · have:=hC j hj;exact ⟨this.1,by have:=this.2;omega⟩
  · exact ⟨by omega,hj.2⟩
 have hgP : ¬Plus C wr W7 g:=fun h=>by
  rcases h with h | h
  · exact hCg h
  · omega
 refine ⟨hG8.set_ 1 _,Plus C wr W7,hgP,fun j hj=>?_,hg,?_,?_,?_⟩
 · have:=hCP j hj;exact ⟨this.1,by have:=this.2;simp;omega⟩
 · rw [hlen]
   exact a1.fr (M:=(· = g)) ((Fr.refl (· = g) w8).setCell (p:=⟨g,1,none⟩) (.inl rfl) _) (fun j hj e=>by subst e;exact hgP hj) (fun j hj e=>by subst e;exact (hne8 _ hj).2 rfl)
 · intro a ha
   subst ha
   have hlt:=a1.lt a.block rfl
   exact ⟨⟨(hne8 _ rfl).1,by simpa using hlt⟩,(hne8 _ rfl).2⟩
 · exact ((hB.trans (h7.mono hz)).grown a2 (by omega) (fun j hj=>(hnA j hj).1)).setCell (by dsimp only;exact hg) _
end
def PAU (g:Nat) (p:ProdT) (L:List CondT) (M:List ActT) (wm:World) (E1:Option Addr) (d1:Nat) (k:Nat) (A:Option Addr) (c:Nat) (wr:World):Prop:=
 Blk wr g 25 #[.string p.name,.slice E1 L.length d1,.slice A k c]∧Fr (· = g) wm wr∧wr.ownsRow 0 58 19 (.slice A k c) k ((M.take k).flatMap ActT.cells)∧AIn A (NewD wm.heap.size wr)
theorem PAU.step {g:Nat} {p:ProdT} {L:List CondT} {M:List ActT} {wm wr W8 w9:World} {E1:Option Addr} {d1 k:Nat} {A:Option Addr} {c:Nat} {A':Option Addr} {c':Nat} {z:ActT} (h:PAU g p L M wm E1 d1 k A c wr) (hgm:g<wm.heap.size) (hb:Below wr.heap.size wr W8) (hz:M.take k ++ [z]=M.take (k+1))
 (hown:w9.ownsRow 0 58 19 (.slice A' (k+1) c') (k+1) ((M.take k).flatMap ActT.cells++z.cells)) (hg:W8.grownBy w9 (Value.slice A k c).ownBlock) (hat:(Value.slice A' (k+1) c').ownBlock=(Value.slice A k c).ownBlock∨(Value.slice A' (k+1) c').ownBlock=some W8.heap.size) :
 PAU g p L M wm E1 d1 (k+1) A' c' (w9.setCell ⟨g,2,none⟩ (.slice A' (k+1) c')):=by
 obtain ⟨h1,h2,h3,h4⟩:=h
 have hs:=h2.size
 have hs8:=hb.size
 have hs9:=hg.size
 have hA : ∀j,(Value.slice A k c).ownBlock=some j→wm.heap.size≤j∧j<wr.heap.size:=fun j hj=>by
  rcases A with _ | a
  · simp [Value.ownBlock] at hj
  · simp only [Value.ownBlock,Option.some.injEq] at hj
    rw [← hj];exact h4 a rfl
 have hG9:Blk w9 g 25 #[.string p.name,.slice E1 L.length d1,.slice A k c]:=(h1.new_ hb).grown hg (fun e=>by have:=(hA g e).1;omega)
 have hne:=own_blk_ne hown hG9 (by decide)
 refine ⟨hG9.set_ 2 _,?_,?_,?_⟩
 · exact (((h2.trans (Fr.of_new hb)).grown hg (fun j hj=>.inr (hA j hj).1))).setCell (p:=⟨g,2,none⟩) (.inl rfl) _
 · rw [← hz,List.flatMap_append]
   have:=ownsRow_setCell_other (a:=⟨g,2,none⟩) hown hne (.slice A' (k+1) c')
   simpa using this
 · intro a ha
   subst ha
   have hlt:=own_lt hown a.block rfl
   refine ⟨?_,by simpa using hlt⟩
   rcases hat with h | h
   · exact (hA a.block (h ▸ rfl)).1
   · simp only [Value.ownBlock,Option.some.injEq] at h
     omega
theorem there_ofU {w:World} {g:Nat} {t:TypeId} {cs:Array Value} {o n:Nat} (h:Blk w g t cs) (hn:o+n≤cs.size):w.there g o n:=by
 have h1:=h.there
 intro i hi
 have:=h1 (o+i) (by omega)
 simpa [Nat.add_assoc] using this
set_option maxRecDepth 100000 in
set_option maxHeartbeats 32000000 in
theorem crename_isU {gf:Nat} {lb:Array Value} {w0:World} {Q:ByteArray→Prop} {t:ByteArray→ByteArray} (hN:NamerOk gf lb w0 Q t) (n:Nat) (p:ProdT) (A1:Option Addr) (c1:Nat) (A2:Option Addr) (c2:Nat) {D:Nat→Prop} (w:World) (hw:Below w0.heap.size w0 w)
 (h1:RowR (repCondT n) D w A1 c1 p.conds) (h2:RowR repActT D w A2 c2 p.acts) (hl1:p.conds.length≤1000) (hl2:p.acts.length≤1000) (hs : ∀x∈p.conds,SmC n x) (hq : ∀x∈p.conds,QC Q n x) (hqa : ∀a∈p.acts,QA Q a) :
 Calls Try.prog 17 #[.agg #[.string p.name,.slice A1 p.conds.length c1,.slice A2 p.acts.length c2],.func (.func gf) #[] lb] w (FreshPU n (prodR t n p) w):=by
 obtain ⟨i0,hi0,hz0,hz1,hz2⟩:=infp inf_Act
 obtain ⟨j0,hj0,hy0,hyy1,hyy2⟩:=infp inf_Cond
 obtain ⟨L,hL⟩ : ∃l,l=p.conds.map (condR t n):=⟨_,rfl⟩
 obtain ⟨M,hM⟩ : ∃l,l=p.acts.map (actR t):=⟨_,rfl⟩
 have HR:=Lib.hid (show prodR t n p=⟨p.name,L,M⟩ by rw [hL,hM];rfl)
 have HLL:=Lib.hid (show L.length=p.conds.length by rw [hL,List.length_map])
 have HML:=Lib.hid (show M.length=p.acts.length by rw [hM,List.length_map])
 have HLG:=Lib.hid (show ∀k,(h:k<p.conds.length)→∃h':k<L.length,L[k]=condR t n p.conds[k] from fun k h=>⟨by rw [hL,List.length_map];exact h,by simp [hL]⟩)
 have HMG:=Lib.hid (show ∀k,(h:k<p.acts.length)→∃h':k<M.length,M[k]=actR t p.acts[k] from fun k h=>⟨by rw [hM,List.length_map];exact h,by simp [hM]⟩)
 have HREC:=Lib.hid (ccond_isU hN)
 have HN:=Lib.hid hN
 have HS:=Lib.hid hs
 have HQ:=Lib.hid hq
 have HQA:=Lib.hid hqa
 have H1:=Lib.hid h1
 have H2:=Lib.hid h2
 have HW0:=Lib.hid hw
 clear hL hM hN hs hq hqa h1 h2 hw
 go_enter Try.func17,Try.ntmps17
 go_upto_region 2 with fail
 obtain ⟨W1,hW1⟩ : ∃W1,W1=(w.alloc (.cells #[.string p.name,.slice A1 p.conds.length c1,.slice A2 p.acts.length c2] 25)).alloc (.cells #[.string ⟨#[]⟩,.slice none 0 0,.slice none 0 0] 25):=⟨_,rfl⟩
 have hB1:Below w.heap.size w W1:=by rw [hW1];exact ((Below.refl _ _).alloc (Nat.le_refl _) _).alloc (by simp) _
 have hX1:Blk W1 w.heap.size 25 #[.string p.name,.slice A1 p.conds.length c1,.slice A2 p.acts.length c2]:=by rw [hW1];exact (Blk.new _ _ _).alloc _
 have hR1:Blk W1 (w.heap.size+1) 25 #[.string ⟨#[]⟩,.slice none 0 0,.slice none 0 0]:=by rw [hW1];have:=Blk.new (w.alloc (.cells #[.string p.name,.slice A1 p.conds.length c1,.slice A2 p.acts.length c2] 25)) 25 #[.string ⟨#[]⟩,.slice none 0 0,.slice none 0 0];simpa using this
 have hz1w:W1.heap.size=w.heap.size+2:=by rw [hW1];simp
 rw [← hW1]
 clear hW1
 obtain ⟨p0,p1,p2⟩:=hX1.c3
 have HB1:=Lib.hid hB1
 have HX1:=Lib.hid hX1
 have HR1:=Lib.hid hR1
 have HZ1:=Lib.hid hz1w
 have HWZ:=Lib.hid (show w.heap.size≤W1.heap.size by omega)
 have hxl1:=hX1.lt
 clear hB1 hX1 hR1 hz1w
 go_upto_region 3 with fail
 obtain ⟨W2,hW2⟩ : ∃W2,W2=W1.alloc (.cells #[.string p.name,.slice none 0 0,.slice none 0 0] 25):=⟨_,rfl⟩
 have hB2:Below W1.heap.size W1 W2:=by rw [hW2];exact (Below.refl _ _).alloc (Nat.le_refl _) _
 have hG2:Blk W2 W1.heap.size 25 #[.string p.name,.slice none 0 0,.slice none 0 0]:=by rw [hW2];exact Blk.new _ _ _
 rw [← hW2]
 clear hW2
 have HX2:=Lib.hid (HX1.out.new_ hB2)
 obtain ⟨g,hg⟩ : ∃g,g=W1.heap.size:=⟨_,rfl⟩
 rw [← hg] at hG2 ⊢
 have H0:=Lib.hid (show PHU n g p L W1 0 none 0 W2 from ⟨hG2,fun _=>False,fun h=>h,fun j h=>h.elim,by omega,OwnC.nil _ _ _ _,AIn.none_ _,hB2⟩)
 have hgw:=hg
 have HGW:=Lib.hid hgw
 clear hB2 hG2 p0 p1 p2 hxl1 hg hgw
 obtain ⟨p0,p1,p2⟩:=HX2.out.c3
 have hxl1:=HX2.out.lt
 go_wp2_with fail
 go_loopw [18] (fun i wr=>∃(k:Nat) (A:Option Addr) (c:Nat),i = .int .i64 k∧k≤p.conds.length∧PHU n g p L W1 k A c wr) (fun i wr=>p.conds.length - (intOf i).toNat)
 case atStart=>exact ⟨0,none,0,rfl,Nat.zero_le _,H0.out⟩
 case round=>
  obtain ⟨k,A,c,rfl,hk,hRH⟩:=hrel
  obtain ⟨hG,C,hCg,hC,hgg,hO,hA,hB⟩:=hRH
  have hzr:=hB.size
  clear p0 p1 p2 hxl1
  by_cases hlt:k<p.conds.length
  · have hrw:=(H1.out.new_ HB1.out).keep (D':=D) hB.size (fun j hj hl=>⟨hj,hB.block j hl⟩)
    obtain ⟨m,hnm⟩ : ∃m,n=m+1:=by
     cases n with
     | zero=>rw [row0 hrw] at hlt;simp at hlt
     | succ m=>exact ⟨m,rfl⟩
    subst hnm
    obtain ⟨gh,oh,Ay1,cy1,Ay2,cy2,Ay3,cy3,hA0,hDg,hgh,r0,r1,r2,r3,r4,r5,r6,hy1,hy2,hy3⟩:=at_CondT hrw hlt
    subst hA0
    obtain ⟨y,hy⟩ : ∃y,y=p.conds[k]:=⟨_,rfl⟩
    obtain ⟨z,hz⟩ : ∃z,z=condR t (m+1) y:=⟨_,rfl⟩
    have hys:SmC (m+1) y:=by rw [hy];exact HS.out _ (List.getElem_mem hlt)
    have hyq:QC Q (m+1) y:=by rw [hy];exact HQ.out _ (List.getElem_mem hlt)
    rw [← hy] at r0 r1 r2 r3 r4 r5 r6 hy1 hy2 hy3
    have b1:(0:Int)≤(k:Int):=by omega
    have b2:(k:Int)<(p.conds.length:Int):=by omega
    have HBW:=Lib.hid (HB1.out.trans (hB.mono HWZ.out))
    have HCALL:=Lib.hid (show ∀W,Below wr.heap.size wr W→Calls Try.prog 33 #[.func (.func gf) #[] lb,.agg #[.int .i64 y.kind,.bool y.goal,.string y.id,.slice Ay1 y.attr.length cy1,.slice Ay2 y.value.length cy2,.bool y.acc,.slice Ay3 y.conds.length cy3]] W (FreshCU m z W) from fun W hW=>by
     rw [hz]
     exact HREC.out m y Ay1 cy1 Ay2 cy2 Ay3 cy3 D W (HW0.out.trans ((HBW.out.trans (hW.mono HBW.out.size)).mono HW0.out.size)) (hy1.new_ hW) (hy2.new_ hW) (hy3.new_ hW) hys hyq)
    have hLz:L.take k ++ [z]=L.take (k+1):=by
     obtain ⟨h',e⟩:=HLG.out k hlt
     rw [hz,hy,← e]
     exact take_snoc h'
    have HG:=Lib.hid hG
    have HC:=Lib.hid hC
    have HO:=Lib.hid hO
    have HNE:=Lib.hid (show (Value.slice A (L.take k).length c).ownBlock≠some g from fun e=>by
     rcases A with _ | a
     · simp [Value.ownBlock] at e
     · simp only [Value.ownBlock,Option.some.injEq] at e
       exact (hA a rfl).2 e)
    have hkL:(L.take k).length=k:=take_len (by rw [HLL.out];exact hk)
    have HKL:=Lib.hid hkL
    have HST:=Lib.hid (show ∀W7 w8 A' c',Below wr.heap.size wr W7→Appended (repCondU (m+1)) 50 (Plus C wr W7) W7 (.slice A (L.take k).length c) (L.take k ++ [z]) (.slice A' (k+1) c') w8→PHU (m+1) g p L W1 (k+1) A' c' (w8.setCell ⟨g,1,none⟩ (.slice A' (k+1) c')) from
     fun W7 w8 A' c' h7 ha=>PHU.step hG hCg hC hgg hO hA hB (by rw [HLL.out];omega) hLz h7 ha)
    clear hy hrw hy1 hy2 hy3 hys hyq hG hCg hC hO hA hB hLz hkL hz
    go_upto_region 6 with fail
    obtain ⟨W5,hW5⟩ : ∃W5,W5=wr.alloc (.cells #[.int .i64 y.kind,.bool y.goal,.string y.id,.slice Ay1 y.attr.length cy1,.slice Ay2 y.value.length cy2,.bool y.acc,.slice Ay3 y.conds.length cy3] 50):=⟨_,rfl⟩
    have hB5:Below wr.heap.size wr W5:=by rw [hW5];exact (Below.refl _ _).alloc (Nat.le_refl _) _
    have hX5:Blk W5 wr.heap.size 50 #[.int .i64 y.kind,.bool y.goal,.string y.id,.slice Ay1 y.attr.length cy1,.slice Ay2 y.value.length cy2,.bool y.acc,.slice Ay3 y.conds.length cy3]:=by rw [hW5];exact Blk.new _ _ _
    rw [← hW5]
    clear hW5 r0 r1 r2 r3 r4 r5 r6
    have HB5:=Lib.hid hB5
    have HG:=Lib.hid (HG.out.new_ hB5)
    obtain ⟨m0,m1,m2,m3,m4,m5,m6⟩:=hX5.c7
    have n1:W5.cell? ⟨g,1,none⟩=some (.slice A k c):=(HG.out.cell 1).trans rfl
    have hgl:=HG.out.lt
    have hxl5:=hX5.lt
    clear hB5 hX5
    refine wp_region_E (fun w9=>Below W5.heap.size W5 w9) [(0,0),(1,1),(2,0),(3,1),(4,2),(5,2),(6,2),(7,0),(8,2)] (by kernel_rfl) (by kernel_rfl) (fun KK hKK=>?_)
    simp only [beside,List.filterMap_cons,List.filterMap_nil,List.getElem?_toArray,List.getElem?_cons_zero,List.getElem?_cons_succ,Option.map_some]
    repeat ((first | (refine wpX_w ?_ (Or.inl ⟨by rfl,fun w9=>?_⟩) ?_;rotate_left 1;go_simp;with_reducible rfl) | (refine wpX_l ?_ (((Below.refl _ _).drew)) (Or.inl ⟨by rfl,fun w9 hw9=>?_⟩) ?_;rotate_left 1;obtain ⟨hc9,hf9⟩:=bcell hw9;go_simp;with_reducible rfl) | refine wpX_w undef (Or.inr ⟨by rfl,rfl⟩) ?_ | refine wpX_l undef (((Below.refl _ _).drew)) (Or.inr ⟨by rfl,rfl⟩) ?_);go_frame)
    refine wpX_es (fun K9 hK9=>?_)
    go_simp
    refine (HCALL.out _ (HB5.out.drew)).mono ?_
    rintro e wa ⟨Az1,cz1,Az2,cz2,Az3,cz3,rfl,g1,g2,g3,hba⟩
    have HBa:=Lib.hid (show Below W5.heap.size W5 wa from ((Below.refl W5.heap.size W5).drew).trans hba)
    have G1:=Lib.hid g1
    have G2:=Lib.hid g2
    have G3:=Lib.hid g3
    clear g1 g2 g3 hba
    refine hK9 _ _ HBa.out ?_
    clear hK9 K9
    refine wpX_es (fun K9 hK9=>?_)
    go_simp
    have HB7x:=Lib.hid (HBa.out.alloc HBa.out.size (.cells #[.int .i64 z.kind,.bool z.goal,.string z.id,.slice Az1 z.attr.length cz1,.slice Az2 z.value.length cz2,.bool z.acc,.slice Az3 z.conds.length cz3] 50))
    refine hK9 _ _ HB7x.out ?_
    clear hK9 K9
    refine wpX_e (by kernel_rfl) (fun K9 hK9=>?_)
    have HB7:=Lib.hid (HB5.out.trans (HB7x.out.mono HB5.out.size))
    have h9:Below wa.heap.size wa (wa.alloc (.cells #[.int .i64 z.kind,.bool z.goal,.string z.id,.slice Az1 z.attr.length cz1,.slice Az2 z.value.length cz2,.bool z.acc,.slice Az3 z.conds.length cz3] 50)):=(Below.refl _ _).alloc (Nat.le_refl _) _
    have up : ∀j,NewD W5.heap.size wa j→j<wa.heap.size→(Plus C wr (wa.alloc (.cells #[.int .i64 z.kind,.bool z.goal,.string z.id,.slice Az1 z.attr.length cz1,.slice Az2 z.value.length cz2,.bool z.acc,.slice Az3 z.conds.length cz3] 50))) j∧((wa.alloc (.cells #[.int .i64 z.kind,.bool z.goal,.string z.id,.slice Az1 z.attr.length cz1,.slice Az2 z.value.length cz2,.bool z.acc,.slice Az3 z.conds.length cz3] 50))).heap[j]? = wa.heap[j]?:=fun j hj hl=>⟨.inr ⟨Nat.le_trans HB5.out.size hj.1,by simp;omega⟩,h9.block j hl⟩
    have hrep7:=rep_condU (n:=m) (y:=z) (G1.out.keep h9.size up) (G2.out.keep h9.size up) (G3.out.keep h9.size up)
    have hown7:=HO.out.plus HB7.out
    have hcl : ∀j,Plus C wr (wa.alloc (.cells #[.int .i64 z.kind,.bool z.goal,.string z.id,.slice Az1 z.attr.length cz1,.slice Az2 z.value.length cz2,.bool z.acc,.slice Az3 z.conds.length cz3] 50)) j→j<((wa.alloc (.cells #[.int .i64 z.kind,.bool z.goal,.string z.id,.slice Az1 z.attr.length cz1,.slice Az2 z.value.length cz2,.bool z.acc,.slice Az3 z.conds.length cz3] 50))).heap.size:=fun j hj=>by
     rcases hj with hj | hj
     · have:=(HC.out j hj).2;have:=HB7.out.size;omega
     · exact hj.2
    have h63:(L.take k).length+1≤maxLen:=by rw [HKL.out];unfold maxLen;omega
    have hby:((L.take k).length+1)*112≤140737488355328:=by rw [HKL.out];omega
    have hv:Value.slice A k c = .slice A (L.take k).length c:=by rw [HKL.out]
    refine step_append_C _ rfl _ _ 22 rfl 50 j0 _ 7 112 Try.underlying22 hj0 hy0 hyy1 hyy2 rfl rfl (by omega) (Plus C wr (wa.alloc (.cells #[.int .i64 z.kind,.bool z.goal,.string z.id,.slice Az1 z.attr.length cz1,.slice Az2 z.value.length cz2,.bool z.acc,.slice Az3 z.conds.length cz3] 50))) hcl (.slice A (L.take k).length c) (L.take k) hv hown7 ⟨wa.heap.size,0,none⟩ 1 z [.int .i64 z.kind,.bool z.goal,.string z.id,.slice Az1 z.attr.length cz1,.slice Az2 z.value.length cz2,.bool z.acc,.slice Az3 z.conds.length cz3] rfl (World.news_of_block (heap_alloc_new _ _)) (by intro u hu;simp only [List.mem_cons,List.not_mem_nil,or_false] at hu;rcases hu with rfl | rfl | rfl | rfl | rfl | rfl | rfl<;>rfl) hrep7 h63 hby ?_
    intro v' w8 hap
    obtain ⟨A',c',hv',-,-,-⟩:=hap.1.form
    have hlen1:(L.take k ++ [z]).length=k+1:=by rw [List.length_append,HKL.out];rfl
    rw [hlen1] at hv'
    subst hv'
    have hG8:=(HG.out.new_ HB7x.out).grown hap.2.1 HNE.out
    have HAP:=Lib.hid hap
    have u1:=(hG8.cell 1).trans rfl
    have f1:=hG8.frozen 1
    have hgl8:=hG8.lt
    clear h9 up hrep7 hown7 hcl h63 hby hv hlen1 hap hG8
    refine hK9 _ _ ?_
    clear hK9 K9
    repeat ((first | (refine wpX_w ?_ (Or.inl ⟨by rfl,fun w9=>?_⟩) ?_;rotate_left 1;go_simp;with_reducible rfl) | (refine wpX_l ?_ (HB7x.out) (Or.inl ⟨by rfl,fun w9 hw9=>?_⟩) ?_;rotate_left 1;obtain ⟨hc9,hf9⟩:=bcell hw9;go_simp;with_reducible rfl) | refine wpX_w undef (Or.inr ⟨by rfl,rfl⟩) ?_ | refine wpX_l undef (HB7x.out) (Or.inr ⟨by rfl,rfl⟩) ?_);go_frame)
    refine wpX_e (by kernel_rfl) (fun K9 hK9=>?_)
    go_simp
    refine hK9 _ _ ?_
    clear hK9 K9
    refine wpX_nil ?_
    simp only [OnlyN_normal]
    refine hKK _ _ ?_
    clear hKK KK
    go_wp2_with fail
    go_roundw
    case rel=>exact ⟨k+1,A',c',by go_num,by omega,HST.out _ _ _ _ HB7.out HAP.out⟩
    case measure=>simp [intOf];omega
  · obtain rfl:k=p.conds.length:=by omega
    rw [show p.conds.length=L.length from HLL.out.symm] at hG hO
    rw [List.take_length] at hO
    have HBW:=Lib.hid (HB1.out.trans (hB.mono HWZ.out))
    have HROW:=Lib.hid (show RowU (repCondU n) (Ex W1 wr g) wr A c L from hO.rowU (fun j hj=>⟨(hC j hj).1,(hC j hj).2,fun e=>hCg (e ▸ hj)⟩) (hA.mono (fun j hj=>⟨hj.1.1,hj.1.2,hj.2⟩)))
    have hX:=HX1.out.below hB (by have:=HZ1.out;omega)
    have p2:wr.cell? ⟨w.heap.size,2,none⟩=some (.slice A2 p.acts.length c2):=(hX.cell 2).trans rfl
    have hxl:=hX.lt
    have HRB:=Lib.hid (HR1.out.below hB (by have:=HZ1.out;omega))
    have HGB:=Lib.hid hG
    have HGM:=Lib.hid hG.lt
    have HGG:=Lib.hid hgg
    have hac:=H2.out.cap
    clear hG hCg hC hO hA hB hX
    obtain ⟨E1,hE1⟩ : ∃E,E=A:=⟨_,rfl⟩
    obtain ⟨d1,hd1⟩ : ∃d,d=c:=⟨_,rfl⟩
    obtain ⟨wm,hwm⟩ : ∃wm,wm=wr:=⟨_,rfl⟩
    rw [← hwm,← hE1,← hd1] at HROW HGB
    rw [← hwm] at HBW p2 hxl HRB HGM ⊢
    clear hwm hE1 hd1 hzr
    have H0A:=Lib.hid (show PAU g p L M wm E1 d1 0 none 0 wm from ⟨HGB.out,Fr.refl _ _,owns_nilC _ _ _,AIn.none_ _⟩)
    go_wp2_with fail
    clear p2 hxl
    go_loopw [34] (fun s wr=>∃(i:Nat) (A:Option Addr) (c:Nat),s = .int .i64 i∧i≤p.acts.length∧PAU g p L M wm E1 d1 i A c wr) (fun s wr=>p.acts.length - (intOf s).toNat)
    case atStart=>exact ⟨0,none,0,rfl,Nat.zero_le _,H0A.out⟩
    case round=>
     obtain ⟨i,A,c,rfl,hi,hPA⟩:=hrel
     have HPA:=Lib.hid hPA
     have HFR:=Lib.hid (show Below w.heap.size w wr from HBW.out.trans (hPA.2.1.below HBW.out.size (fun j hj e=>by subst e;have:=HGG.out;have:=HZ1.out;omega)))
     clear hPA
     by_cases hlt:i<p.acts.length
     · skip
       obtain ⟨y,hy⟩ : ∃y,y=p.acts[i]:=⟨_,rfl⟩
       obtain ⟨ga,off,hAA,_,hga,_⟩:=at_ActT (H2.out.new_ HFR.out) hlt
       subst hAA
       have HY:=Lib.hid hy
       have b1:(0:Int)≤(i:Int):=by omega
       have b2:(i:Int)<(p.acts.length:Int):=by omega
       have HRG:=Lib.hid (show wr.rangeAt ga (off+i*19) [.string y.id,.string y.attr.var,.int .i64 y.attr.sym.kind,.string y.attr.sym.text,.int .i64 y.attr.sym.n,.int .i64 y.value.op,.string y.value.a.var,.int .i64 y.value.a.sym.kind,.string y.value.a.sym.text,.int .i64 y.value.a.sym.n,.string y.value.b.var,.int .i64 y.value.b.sym.kind,.string y.value.b.sym.text,.int .i64 y.value.b.sym.n,.int .i64 y.pref,.string y.other.var,.int .i64 y.other.sym.kind,.string y.other.sym.text,.int .i64 y.other.sym.n] from fun j v hv=>by
        obtain ⟨g',off',cs,e1,_,_,hr,hc⟩:=(H2.out.new_ HFR.out).at_ hlt
        cases e1
        have hr2:cs=ActT.cells p.acts[i]:=hr
        subst hr2
        rw [← HY.out] at hc
        exact hc j v hv)
       have HTH:=Lib.hid (show (wr.alloc (.cells #[.string ⟨#[]⟩,.string ⟨#[]⟩,.int .i64 0,.string ⟨#[]⟩,.int .i64 0,.int .i64 0,.string ⟨#[]⟩,.int .i64 0,.string ⟨#[]⟩,.int .i64 0,.string ⟨#[]⟩,.int .i64 0,.string ⟨#[]⟩,.int .i64 0,.int .i64 0,.string ⟨#[]⟩,.int .i64 0,.string ⟨#[]⟩,.int .i64 0] 58)).there wr.heap.size 0 (#[.string y.id,.string y.attr.var,.int .i64 y.attr.sym.kind,.string y.attr.sym.text,.int .i64 y.attr.sym.n,.int .i64 y.value.op,.string y.value.a.var,.int .i64 y.value.a.sym.kind,.string y.value.a.sym.text,.int .i64 y.value.a.sym.n,.string y.value.b.var,.int .i64 y.value.b.sym.kind,.string y.value.b.sym.text,.int .i64 y.value.b.sym.n,.int .i64 y.pref,.string y.other.var,.int .i64 y.other.sym.kind,.string y.other.sym.text,.int .i64 y.other.sym.n]:Array Value).size from (Blk.new wr 58 #[.string ⟨#[]⟩,.string ⟨#[]⟩,.int .i64 0,.string ⟨#[]⟩,.int .i64 0,.int .i64 0,.string ⟨#[]⟩,.int .i64 0,.string ⟨#[]⟩,.int .i64 0,.string ⟨#[]⟩,.int .i64 0,.string ⟨#[]⟩,.int .i64 0,.int .i64 0,.string ⟨#[]⟩,.int .i64 0,.string ⟨#[]⟩,.int .i64 0]).there)
       obtain ⟨W5,hW5⟩ : ∃W5,W5=(wr.alloc (.cells #[.string ⟨#[]⟩,.string ⟨#[]⟩,.int .i64 0,.string ⟨#[]⟩,.int .i64 0,.int .i64 0,.string ⟨#[]⟩,.int .i64 0,.string ⟨#[]⟩,.int .i64 0,.string ⟨#[]⟩,.int .i64 0,.string ⟨#[]⟩,.int .i64 0,.int .i64 0,.string ⟨#[]⟩,.int .i64 0,.string ⟨#[]⟩,.int .i64 0] 58)).setCells wr.heap.size 0 [.string y.id,.string y.attr.var,.int .i64 y.attr.sym.kind,.string y.attr.sym.text,.int .i64 y.attr.sym.n,.int .i64 y.value.op,.string y.value.a.var,.int .i64 y.value.a.sym.kind,.string y.value.a.sym.text,.int .i64 y.value.a.sym.n,.string y.value.b.var,.int .i64 y.value.b.sym.kind,.string y.value.b.sym.text,.int .i64 y.value.b.sym.n,.int .i64 y.pref,.string y.other.var,.int .i64 y.other.sym.kind,.string y.other.sym.text,.int .i64 y.other.sym.n]:=⟨_,rfl⟩
       have HW5:=Lib.hid hW5
       have KB:=Lib.hid (show Blk W5 wr.heap.size 58 #[.string y.id,.string y.attr.var,.int .i64 y.attr.sym.kind,.string y.attr.sym.text,.int .i64 y.attr.sym.n,.int .i64 y.value.op,.string y.value.a.var,.int .i64 y.value.a.sym.kind,.string y.value.a.sym.text,.int .i64 y.value.a.sym.n,.string y.value.b.var,.int .i64 y.value.b.sym.kind,.string y.value.b.sym.text,.int .i64 y.value.b.sym.n,.int .i64 y.pref,.string y.other.var,.int .i64 y.other.sym.kind,.string y.other.sym.text,.int .i64 y.other.sym.n] by rw [hW5];exact (Blk.new wr 58 #[.string ⟨#[]⟩,.string ⟨#[]⟩,.int .i64 0,.string ⟨#[]⟩,.int .i64 0,.int .i64 0,.string ⟨#[]⟩,.int .i64 0,.string ⟨#[]⟩,.int .i64 0,.string ⟨#[]⟩,.int .i64 0,.string ⟨#[]⟩,.int .i64 0,.int .i64 0,.string ⟨#[]⟩,.int .i64 0,.string ⟨#[]⟩,.int .i64 0]).setAllC rfl)
       have HBV:=Lib.hid (show Below wr.heap.size wr W5 by rw [hW5];exact Below.setCells' _ _ ((Below.refl _ _).alloc (Nat.le_refl _) _) (Nat.le_refl _))
       have HQY:=Lib.hid (show QA Q y by rw [hy];exact HQA.out _ (List.getElem_mem hlt))
       have HZZ:=Lib.hid (show M.take i ++ [actR t y]=M.take (i+1) by
        obtain ⟨h',e⟩:=HMG.out i hlt
        rw [hy,← e]
        exact take_snoc h')
       have HW0R:=Lib.hid (HW0.out.trans (HFR.out.mono HW0.out.size))
       have HON:=Lib.hid (show ∀v W,Below wr.heap.size wr W→QV Q v→_ from fun v W hW hv=>one_is HN.out v W (HW0R.out.trans (hW.mono HW0R.out.size)) hv)
       have HAT:=Lib.hid (show ∀a W,Below wr.heap.size wr W→QV Q a.var→_ from fun a W hW hv=>catom_is HN.out a W (HW0R.out.trans (hW.mono HW0R.out.size)) hv)
       clear hy hW5
       go_upto_region 11 with (first
        | (with_reducible refine wpList_load_mid rfl 58 _ rfl ga (off+i*19) rfl [.string y.id,.string y.attr.var,.int .i64 y.attr.sym.kind,.string y.attr.sym.text,.int .i64 y.attr.sym.n,.int .i64 y.value.op,.string y.value.a.var,.int .i64 y.value.a.sym.kind,.string y.value.a.sym.text,.int .i64 y.value.a.sym.n,.string y.value.b.var,.int .i64 y.value.b.sym.kind,.string y.value.b.sym.text,.int .i64 y.value.b.sym.n,.int .i64 y.pref,.string y.other.var,.int .i64 y.other.sym.kind,.string y.other.sym.text,.int .i64 y.other.sym.n] _ HRG.out Try.underlying58 rfl (by kernel_rfl) ?_)
        | ((with_reducible refine wpList_store_mid rfl 58 _ _ rfl wr.heap.size 0 #[.string y.id,.string y.attr.var,.int .i64 y.attr.sym.kind,.string y.attr.sym.text,.int .i64 y.attr.sym.n,.int .i64 y.value.op,.string y.value.a.var,.int .i64 y.value.a.sym.kind,.string y.value.a.sym.text,.int .i64 y.value.a.sym.n,.string y.value.b.var,.int .i64 y.value.b.sym.kind,.string y.value.b.sym.text,.int .i64 y.value.b.sym.n,.int .i64 y.pref,.string y.other.var,.int .i64 y.other.sym.kind,.string y.other.sym.text,.int .i64 y.other.sym.n] rfl rfl HTH.out (by kernel_rfl) (by kernel_rfl) ?_);rw [← HW5.out]))
       clear HRG HTH HW5
       have e0:W5.cell? ⟨wr.heap.size,0,none⟩=some (.string y.id):=(KB.out.cell 0).trans rfl
       have ez:=KB.out.lt
       go_wp2_with fail
       refine (HON.out y.id W5 (HBV.out) HQY.out.1).mono ?_
       rintro e v0 ⟨rfl,hb⟩
       clear ez e0
       have KB:=Lib.hid (KB.out.new_ hb)
       have HBV:=Lib.hid (HBV.out.trans (hb.mono HBV.out.size))
       obtain ⟨V0,hV0⟩ : ∃W,W=v0.setCell ⟨wr.heap.size,0,none⟩ (.string (oneR t y.id)):=⟨_,rfl⟩
       have HTH:=Lib.hid KB.out.lt
       have u0:v0.cell? ⟨wr.heap.size,0,none⟩=some (.string y.id):=(KB.out.cell 0).trans rfl
       have uf:=KB.out.frozen 0
       have uz:=KB.out.lt
       have HV0:=Lib.hid hV0
       have KB:=Lib.hid (show Blk V0 wr.heap.size 58 #[.string (oneR t y.id),.string y.attr.var,.int .i64 y.attr.sym.kind,.string y.attr.sym.text,.int .i64 y.attr.sym.n,.int .i64 y.value.op,.string y.value.a.var,.int .i64 y.value.a.sym.kind,.string y.value.a.sym.text,.int .i64 y.value.a.sym.n,.string y.value.b.var,.int .i64 y.value.b.sym.kind,.string y.value.b.sym.text,.int .i64 y.value.b.sym.n,.int .i64 y.pref,.string y.other.var,.int .i64 y.other.sym.kind,.string y.other.sym.text,.int .i64 y.other.sym.n] by rw [hV0];exact (KB.out).set_ 0 (.string (oneR t y.id)))
       have HBV:=Lib.hid (show Below wr.heap.size wr V0 by rw [hV0];exact HBV.out.setCell (Nat.le_refl _) _)
       clear hV0 hb
       go_upto_region 12 with fail
       rw [← HV0.out]
       clear u0 uf uz
       clear HTH HV0
       have e1:V0.cell? ⟨wr.heap.size,1,none⟩=some (.string y.attr.var):=(KB.out.cell 1).trans rfl
       have e2:V0.cell? ⟨wr.heap.size,2,none⟩=some (.int .i64 y.attr.sym.kind):=(KB.out.cell 2).trans rfl
       have e3:V0.cell? ⟨wr.heap.size,3,none⟩=some (.string y.attr.sym.text):=(KB.out.cell 3).trans rfl
       have e4:V0.cell? ⟨wr.heap.size,4,none⟩=some (.int .i64 y.attr.sym.n):=(KB.out.cell 4).trans rfl
       have ez:=KB.out.lt
       go_wp2_with fail
       refine (HAT.out y.attr V0 (HBV.out) HQY.out.2.1).mono ?_
       rintro e v1 ⟨rfl,hb⟩
       clear ez e1 e2 e3 e4
       have KB:=Lib.hid (KB.out.new_ hb)
       have HBV:=Lib.hid (HBV.out.trans (hb.mono HBV.out.size))
       obtain ⟨V1,hV1⟩ : ∃W,W=v1.setCells wr.heap.size 1 [Value.string (oneR t y.attr.var),Value.int IntKind.i64 y.attr.sym.kind,Value.string y.attr.sym.text,Value.int IntKind.i64 y.attr.sym.n]:=⟨_,rfl⟩
       have HTH:=Lib.hid (show v1.there wr.heap.size 1 (#[.string (oneR t y.attr.var),.int .i64 y.attr.sym.kind,.string y.attr.sym.text,.int .i64 y.attr.sym.n]:Array Value).size from there_ofU KB.out (by simp))
       have HV1:=Lib.hid hV1
       have KB:=Lib.hid (show Blk V1 wr.heap.size 58 #[.string (oneR t y.id),.string (oneR t y.attr.var),.int .i64 y.attr.sym.kind,.string y.attr.sym.text,.int .i64 y.attr.sym.n,.int .i64 y.value.op,.string y.value.a.var,.int .i64 y.value.a.sym.kind,.string y.value.a.sym.text,.int .i64 y.value.a.sym.n,.string y.value.b.var,.int .i64 y.value.b.sym.kind,.string y.value.b.sym.text,.int .i64 y.value.b.sym.n,.int .i64 y.pref,.string y.other.var,.int .i64 y.other.sym.kind,.string y.other.sym.text,.int .i64 y.other.sym.n] by rw [hV1];exact ((((KB.out).set_ 1 (.string (oneR t y.attr.var))).set_ 2 (.int .i64 y.attr.sym.kind)).set_ 3 (.string y.attr.sym.text)).set_ 4 (.int .i64 y.attr.sym.n))
       have HBV:=Lib.hid (show Below wr.heap.size wr V1 by rw [hV1];exact Below.setCells' _ _ HBV.out (Nat.le_refl _))
       clear hV1 hb
       go_upto_region 13 with ((with_reducible refine wpList_store_mid rfl 54 _ _ rfl wr.heap.size 1 #[.string (oneR t y.attr.var),.int .i64 y.attr.sym.kind,.string y.attr.sym.text,.int .i64 y.attr.sym.n] rfl rfl HTH.out (by kernel_rfl) (by kernel_rfl) ?_);rw [← HV1.out])
       clear HTH HV1
       have e6:V1.cell? ⟨wr.heap.size,6,none⟩=some (.string y.value.a.var):=(KB.out.cell 6).trans rfl
       have e7:V1.cell? ⟨wr.heap.size,7,none⟩=some (.int .i64 y.value.a.sym.kind):=(KB.out.cell 7).trans rfl
       have e8:V1.cell? ⟨wr.heap.size,8,none⟩=some (.string y.value.a.sym.text):=(KB.out.cell 8).trans rfl
       have e9:V1.cell? ⟨wr.heap.size,9,none⟩=some (.int .i64 y.value.a.sym.n):=(KB.out.cell 9).trans rfl
       have ez:=KB.out.lt
       go_wp2_with fail
       refine (HAT.out y.value.a V1 (HBV.out) HQY.out.2.2.1).mono ?_
       rintro e v2 ⟨rfl,hb⟩
       clear ez e6 e7 e8 e9
       have KB:=Lib.hid (KB.out.new_ hb)
       have HBV:=Lib.hid (HBV.out.trans (hb.mono HBV.out.size))
       obtain ⟨V2,hV2⟩ : ∃W,W=v2.setCells wr.heap.size 6 [Value.string (oneR t y.value.a.var),Value.int IntKind.i64 y.value.a.sym.kind,Value.string y.value.a.sym.text,Value.int IntKind.i64 y.value.a.sym.n]:=⟨_,rfl⟩
       have HTH:=Lib.hid (show v2.there wr.heap.size 6 (#[.string (oneR t y.value.a.var),.int .i64 y.value.a.sym.kind,.string y.value.a.sym.text,.int .i64 y.value.a.sym.n]:Array Value).size from there_ofU KB.out (by simp))
       have HV2:=Lib.hid hV2
       have KB:=Lib.hid (show Blk V2 wr.heap.size 58 #[.string (oneR t y.id),.string (oneR t y.attr.var),.int .i64 y.attr.sym.kind,.string y.attr.sym.text,.int .i64 y.attr.sym.n,.int .i64 y.value.op,.string (oneR t y.value.a.var),.int .i64 y.value.a.sym.kind,.string y.value.a.sym.text,.int .i64 y.value.a.sym.n,.string y.value.b.var,.int .i64 y.value.b.sym.kind,.string y.value.b.sym.text,.int .i64 y.value.b.sym.n,.int .i64 y.pref,.string y.other.var,.int .i64 y.other.sym.kind,.string y.other.sym.text,.int .i64 y.other.sym.n] by rw [hV2];exact ((((KB.out).set_ 6 (.string (oneR t y.value.a.var))).set_ 7 (.int .i64 y.value.a.sym.kind)).set_ 8 (.string y.value.a.sym.text)).set_ 9 (.int .i64 y.value.a.sym.n))
       have HBV:=Lib.hid (show Below wr.heap.size wr V2 by rw [hV2];exact Below.setCells' _ _ HBV.out (Nat.le_refl _))
       clear hV2 hb
       go_upto_region 14 with ((with_reducible refine wpList_store_mid rfl 54 _ _ rfl wr.heap.size 6 #[.string (oneR t y.value.a.var),.int .i64 y.value.a.sym.kind,.string y.value.a.sym.text,.int .i64 y.value.a.sym.n] rfl rfl HTH.out (by kernel_rfl) (by kernel_rfl) ?_);rw [← HV2.out])
       clear HTH HV2
       have e10:V2.cell? ⟨wr.heap.size,10,none⟩=some (.string y.value.b.var):=(KB.out.cell 10).trans rfl
       have e11:V2.cell? ⟨wr.heap.size,11,none⟩=some (.int .i64 y.value.b.sym.kind):=(KB.out.cell 11).trans rfl
       have e12:V2.cell? ⟨wr.heap.size,12,none⟩=some (.string y.value.b.sym.text):=(KB.out.cell 12).trans rfl
       have e13:V2.cell? ⟨wr.heap.size,13,none⟩=some (.int .i64 y.value.b.sym.n):=(KB.out.cell 13).trans rfl
       have ez:=KB.out.lt
       go_wp2_with fail
       refine (HAT.out y.value.b V2 (HBV.out) HQY.out.2.2.2.1).mono ?_
       rintro e v3 ⟨rfl,hb⟩
       clear ez e10 e11 e12 e13
       have KB:=Lib.hid (KB.out.new_ hb)
       have HBV:=Lib.hid (HBV.out.trans (hb.mono HBV.out.size))
       obtain ⟨V3,hV3⟩ : ∃W,W=v3.setCells wr.heap.size 10 [Value.string (oneR t y.value.b.var),Value.int IntKind.i64 y.value.b.sym.kind,Value.string y.value.b.sym.text,Value.int IntKind.i64 y.value.b.sym.n]:=⟨_,rfl⟩
       have HTH:=Lib.hid (show v3.there wr.heap.size 10 (#[.string (oneR t y.value.b.var),.int .i64 y.value.b.sym.kind,.string y.value.b.sym.text,.int .i64 y.value.b.sym.n]:Array Value).size from there_ofU KB.out (by simp))
       have HV3:=Lib.hid hV3
       have KB:=Lib.hid (show Blk V3 wr.heap.size 58 #[.string (oneR t y.id),.string (oneR t y.attr.var),.int .i64 y.attr.sym.kind,.string y.attr.sym.text,.int .i64 y.attr.sym.n,.int .i64 y.value.op,.string (oneR t y.value.a.var),.int .i64 y.value.a.sym.kind,.string y.value.a.sym.text,.int .i64 y.value.a.sym.n,.string (oneR t y.value.b.var),.int .i64 y.value.b.sym.kind,.string y.value.b.sym.text,.int .i64 y.value.b.sym.n,.int .i64 y.pref,.string y.other.var,.int .i64 y.other.sym.kind,.string y.other.sym.text,.int .i64 y.other.sym.n] by rw [hV3];exact ((((KB.out).set_ 10 (.string (oneR t y.value.b.var))).set_ 11 (.int .i64 y.value.b.sym.kind)).set_ 12 (.string y.value.b.sym.text)).set_ 13 (.int .i64 y.value.b.sym.n))
       have HBV:=Lib.hid (show Below wr.heap.size wr V3 by rw [hV3];exact Below.setCells' _ _ HBV.out (Nat.le_refl _))
       clear hV3 hb
       go_upto_region 15 with ((with_reducible refine wpList_store_mid rfl 54 _ _ rfl wr.heap.size 10 #[.string (oneR t y.value.b.var),.int .i64 y.value.b.sym.kind,.string y.value.b.sym.text,.int .i64 y.value.b.sym.n] rfl rfl HTH.out (by kernel_rfl) (by kernel_rfl) ?_);rw [← HV3.out])
       clear HTH HV3
       have e15:V3.cell? ⟨wr.heap.size,15,none⟩=some (.string y.other.var):=(KB.out.cell 15).trans rfl
       have e16:V3.cell? ⟨wr.heap.size,16,none⟩=some (.int .i64 y.other.sym.kind):=(KB.out.cell 16).trans rfl
       have e17:V3.cell? ⟨wr.heap.size,17,none⟩=some (.string y.other.sym.text):=(KB.out.cell 17).trans rfl
       have e18:V3.cell? ⟨wr.heap.size,18,none⟩=some (.int .i64 y.other.sym.n):=(KB.out.cell 18).trans rfl
       have ez:=KB.out.lt
       go_wp2_with fail
       refine (HAT.out y.other V3 (HBV.out) HQY.out.2.2.2.2).mono ?_
       rintro e v4 ⟨rfl,hb⟩
       clear ez e15 e16 e17 e18
       have KB:=Lib.hid (KB.out.new_ hb)
       have HBV:=Lib.hid (HBV.out.trans (hb.mono HBV.out.size))
       obtain ⟨V4,hV4⟩ : ∃W,W=v4.setCells wr.heap.size 15 [Value.string (oneR t y.other.var),Value.int IntKind.i64 y.other.sym.kind,Value.string y.other.sym.text,Value.int IntKind.i64 y.other.sym.n]:=⟨_,rfl⟩
       have HTH:=Lib.hid (show v4.there wr.heap.size 15 (#[.string (oneR t y.other.var),.int .i64 y.other.sym.kind,.string y.other.sym.text,.int .i64 y.other.sym.n]:Array Value).size from there_ofU KB.out (by simp))
       have HV4:=Lib.hid hV4
       have KB:=Lib.hid (show Blk V4 wr.heap.size 58 #[.string (oneR t y.id),.string (oneR t y.attr.var),.int .i64 y.attr.sym.kind,.string y.attr.sym.text,.int .i64 y.attr.sym.n,.int .i64 y.value.op,.string (oneR t y.value.a.var),.int .i64 y.value.a.sym.kind,.string y.value.a.sym.text,.int .i64 y.value.a.sym.n,.string (oneR t y.value.b.var),.int .i64 y.value.b.sym.kind,.string y.value.b.sym.text,.int .i64 y.value.b.sym.n,.int .i64 y.pref,.string (oneR t y.other.var),.int .i64 y.other.sym.kind,.string y.other.sym.text,.int .i64 y.other.sym.n] by rw [hV4];exact ((((KB.out).set_ 15 (.string (oneR t y.other.var))).set_ 16 (.int .i64 y.other.sym.kind)).set_ 17 (.string y.other.sym.text)).set_ 18 (.int .i64 y.other.sym.n))
       have HBV:=Lib.hid (show Below wr.heap.size wr V4 by rw [hV4];exact Below.setCells' _ _ HBV.out (Nat.le_refl _))
       clear hV4 hb
       go_upto_region 16 with ((with_reducible refine wpList_store_mid rfl 54 _ _ rfl wr.heap.size 15 #[.string (oneR t y.other.var),.int .i64 y.other.sym.kind,.string y.other.sym.text,.int .i64 y.other.sym.n] rfl rfl HTH.out (by kernel_rfl) (by kernel_rfl) ?_);rw [← HV4.out])
       clear HTH HV4
       have HRG9:=Lib.hid (show V4.rangeAt wr.heap.size 0 [Value.string (oneR t y.id),Value.string (oneR t y.attr.var),Value.int IntKind.i64 y.attr.sym.kind,Value.string y.attr.sym.text,Value.int IntKind.i64 y.attr.sym.n,Value.int IntKind.i64 y.value.op,Value.string (oneR t y.value.a.var),Value.int IntKind.i64 y.value.a.sym.kind,Value.string y.value.a.sym.text,Value.int IntKind.i64 y.value.a.sym.n,Value.string (oneR t y.value.b.var),Value.int IntKind.i64 y.value.b.sym.kind,Value.string y.value.b.sym.text,Value.int IntKind.i64 y.value.b.sym.n,Value.int IntKind.i64 y.pref,Value.string (oneR t y.other.var),Value.int IntKind.i64 y.other.sym.kind,Value.string y.other.sym.text,Value.int IntKind.i64 y.other.sym.n] from KB.out.range)
       have HGV:=Lib.hid (HPA.out.1.new_ HBV.out)
       have g2:V4.cell? ⟨g,2,none⟩=some (.slice A i c):=(HGV.out.cell 2).trans rfl
       have gz:=HGV.out.lt
       have HX:=Lib.hid (show Below V4.heap.size V4 (V4.alloc (.cells #[.string (oneR t y.id),.string (oneR t y.attr.var),.int .i64 y.attr.sym.kind,.string y.attr.sym.text,.int .i64 y.attr.sym.n,.int .i64 y.value.op,.string (oneR t y.value.a.var),.int .i64 y.value.a.sym.kind,.string y.value.a.sym.text,.int .i64 y.value.a.sym.n,.string (oneR t y.value.b.var),.int .i64 y.value.b.sym.kind,.string y.value.b.sym.text,.int .i64 y.value.b.sym.n,.int .i64 y.pref,.string (oneR t y.other.var),.int .i64 y.other.sym.kind,.string y.other.sym.text,.int .i64 y.other.sym.n] 58)) from (Below.refl _ _).alloc (Nat.le_refl _) _)
       have HBX:=Lib.hid (HBV.out.trans (HX.out.mono HBV.out.size))
       have HOX:=Lib.hid (ownsRow_new (ownsRow_new HPA.out.2.2.1 HBV.out) HX.out)
       have HNX:=Lib.hid (show ∀(j:Nat) (u:Value),(([.string (oneR t y.id),.string (oneR t y.attr.var),.int .i64 y.attr.sym.kind,.string y.attr.sym.text,.int .i64 y.attr.sym.n,.int .i64 y.value.op,.string (oneR t y.value.a.var),.int .i64 y.value.a.sym.kind,.string y.value.a.sym.text,.int .i64 y.value.a.sym.n,.string (oneR t y.value.b.var),.int .i64 y.value.b.sym.kind,.string y.value.b.sym.text,.int .i64 y.value.b.sym.n,.int .i64 y.pref,.string (oneR t y.other.var),.int .i64 y.other.sym.kind,.string y.other.sym.text,.int .i64 y.other.sym.n]:List Value))[j]? = some u→((V4.alloc (.cells #[.string (oneR t y.id),.string (oneR t y.attr.var),.int .i64 y.attr.sym.kind,.string y.attr.sym.text,.int .i64 y.attr.sym.n,.int .i64 y.value.op,.string (oneR t y.value.a.var),.int .i64 y.value.a.sym.kind,.string y.value.a.sym.text,.int .i64 y.value.a.sym.n,.string (oneR t y.value.b.var),.int .i64 y.value.b.sym.kind,.string y.value.b.sym.text,.int .i64 y.value.b.sym.n,.int .i64 y.pref,.string (oneR t y.other.var),.int .i64 y.other.sym.kind,.string y.other.sym.text,.int .i64 y.other.sym.n] 58))).cell? ((⟨V4.heap.size,0,none⟩:Addr).add j)=some u from World.news_of_block (heap_alloc_new _ _))
       have HGX:=Lib.hid (HGV.out.new_ HX.out)
       have hile:i≤1000:=by omega
       go_wp2_with (first
        | (with_reducible refine wpList_load_mid rfl 58 _ rfl wr.heap.size 0 rfl [Value.string (oneR t y.id),Value.string (oneR t y.attr.var),Value.int IntKind.i64 y.attr.sym.kind,Value.string y.attr.sym.text,Value.int IntKind.i64 y.attr.sym.n,Value.int IntKind.i64 y.value.op,Value.string (oneR t y.value.a.var),Value.int IntKind.i64 y.value.a.sym.kind,Value.string y.value.a.sym.text,Value.int IntKind.i64 y.value.a.sym.n,Value.string (oneR t y.value.b.var),Value.int IntKind.i64 y.value.b.sym.kind,Value.string y.value.b.sym.text,Value.int IntKind.i64 y.value.b.sym.n,Value.int IntKind.i64 y.pref,Value.string (oneR t y.other.var),Value.int IntKind.i64 y.other.sym.kind,Value.string y.other.sym.text,Value.int IntKind.i64 y.other.sym.n] _ HRG9.out Try.underlying58 rfl (by kernel_rfl) ?_)
        | (at_builtin;refine wpList_append_src (V4.alloc (.cells #[.string (oneR t y.id),.string (oneR t y.attr.var),.int .i64 y.attr.sym.kind,.string y.attr.sym.text,.int .i64 y.attr.sym.n,.int .i64 y.value.op,.string (oneR t y.value.a.var),.int .i64 y.value.a.sym.kind,.string y.value.a.sym.text,.int .i64 y.value.a.sym.n,.string (oneR t y.value.b.var),.int .i64 y.value.b.sym.kind,.string y.value.b.sym.text,.int .i64 y.value.b.sym.n,.int .i64 y.pref,.string (oneR t y.other.var),.int .i64 y.other.sym.kind,.string y.other.sym.text,.int .i64 y.other.sym.n] 58)) rfl (.tmp 68) (.tmp 70) 23 rfl 58 i0 _ 19 224 Try.underlying23 hi0 hz0 hz1 hz2 rfl (by omega) (.slice A i c) i ((M.take i).flatMap ActT.cells) rfl HOX.out (some ⟨V4.heap.size,0,none⟩) 1 1 [.string (oneR t y.id),.string (oneR t y.attr.var),.int .i64 y.attr.sym.kind,.string y.attr.sym.text,.int .i64 y.attr.sym.n,.int .i64 y.value.op,.string (oneR t y.value.a.var),.int .i64 y.value.a.sym.kind,.string y.value.a.sym.text,.int .i64 y.value.a.sym.n,.string (oneR t y.value.b.var),.int .i64 y.value.b.sym.kind,.string y.value.b.sym.text,.int .i64 y.value.b.sym.n,.int .i64 y.pref,.string (oneR t y.other.var),.int .i64 y.other.sym.kind,.string y.other.sym.text,.int .i64 y.other.sym.n] rfl rfl (fun _=>⟨_,rfl,HNX.out⟩) (by intro u hu;simp only [List.mem_cons,List.not_mem_nil,or_false] at hu;rcases hu with rfl | rfl | rfl | rfl | rfl | rfl | rfl | rfl | rfl | rfl | rfl | rfl | rfl | rfl | rfl | rfl | rfl | rfl | rfl<;>rfl) (by unfold maxLen;omega) (by omega) ?_;intro v1 w9 hown1 hg1 hnil1 hat1;obtain ⟨A',c',rfl,_⟩:=own_form2 hown1;have hne1:=own_blk_ne HOX.out HGX.out (by decide);have hgb:=HGX.out.grown hg1 hne1;have u2:=(hgb.cell 2).trans rfl;have f2:=hgb.frozen 2;have uz:=hgb.lt;have HOWN:=Lib.hid hown1;have HG1:=Lib.hid hg1;have HAT1:=Lib.hid hat1;clear hown1 hg1 hnil1 hat1 hne1 hgb))
       go_roundw
       case rel=>exact ⟨i+1,A',c',by go_num,by omega,HPA.out.step HGM.out HBX.out HZZ.out (by have h:=HOWN.out;exact h) HG1.out HAT1.out⟩
       case measure=>simp [intOf];omega
     · obtain rfl:i=p.acts.length:=by omega
       have hPA:=HPA.out
       obtain ⟨hG,hF,hO,hA⟩:=hPA
       rw [show p.acts.length=M.length from HML.out.symm] at hG hO
       rw [List.take_length] at hO
       have hR:=HRB.out.fr hF (fun e=>by have:=HGG.out;have:=HZ1.out;omega)
       have HT9:=Lib.hid (show wr.there (w.heap.size+1) 0 (#[Value.string p.name,Value.slice E1 L.length d1,Value.slice A M.length c]:Array Value).size from hR.there)
       have HRG:=Lib.hid (show wr.rangeAt g 0 [Value.string p.name,Value.slice E1 L.length d1,Value.slice A M.length c] from by have:=hG.range;exact this)
       have hrl:=hR.lt
       have hgl:=hG.lt
       have hsz:=hF.size
       have L1:=Lib.hid ((HROW.out.keep (w':=wr) (D':=Ex W1 wm g) hsz (fun j hj hl=>⟨hj,hF.block j hl (fun e=>hj.2.2 e)⟩)).keep (w':=wr.setCells (w.heap.size+1) 0 [Value.string p.name,Value.slice E1 L.length d1,Value.slice A M.length c]) (D':=NewD w.heap.size (wr.setCells (w.heap.size+1) 0 [Value.string p.name,Value.slice E1 L.length d1,Value.slice A M.length c])) (by rw [size_setCells];omega) (fun j hj hl=>⟨⟨by have:=hj.1;have:=HZ1.out;omega,by rw [size_setCells];omega⟩,blk_setCells _ _ _ _ _ (by have:=hj.1;have:=HZ1.out;omega)⟩))
       have hOR:RowU repActT (NewD wm.heap.size wr) wr A c M:=⟨RowR.of_rd (hs:=ActT.cells_length) (ownsRow_rd ActT.cells_length hO) hA,fun a ha=>⟨hA a ha,unf_own hO a ha⟩⟩
       have L2:=Lib.hid (hOR.keep (w':=wr.setCells (w.heap.size+1) 0 [Value.string p.name,Value.slice E1 L.length d1,Value.slice A M.length c]) (D':=NewD w.heap.size (wr.setCells (w.heap.size+1) 0 [Value.string p.name,Value.slice E1 L.length d1,Value.slice A M.length c])) (by rw [size_setCells];omega) (fun j hj hl=>⟨⟨by have:=hj.1;have:=HBW.out.size;omega,by rw [size_setCells];omega⟩,blk_setCells _ _ _ _ _ (by have:=hj.1;have:=HGM.out;have:=HGG.out;have:=HZ1.out;omega)⟩))
       clear hR hG hF hO hA hOR
       go_upto_region 18 with fail
       go_wp2_with (first | (with_reducible refine wpList_load_mid rfl 25 _ rfl g 0 rfl [Value.string p.name,Value.slice E1 L.length d1,Value.slice A M.length c] _ HRG.out Try.underlying25 rfl (by kernel_rfl) ?_) | (with_reducible refine wpList_store_mid rfl 25 _ _ rfl (w.heap.size+1) 0 #[Value.string p.name,Value.slice E1 L.length d1,Value.slice A M.length c] rfl rfl HT9.out (by kernel_rfl) (by kernel_rfl) ?_))
       try simp only [Exit.inBlock,Exit.then]
       have hBe:Below w.heap.size w (wr.setCells (w.heap.size+1) 0 [Value.string p.name,Value.slice E1 L.length d1,Value.slice A M.length c]):=Below.setCells' _ _ HFR.out (by omega)
       refine bodyPost_ret (v:=.agg #[.string p.name,.slice E1 L.length d1,.slice A M.length c]) ?_ rfl (by rw [HR.out];exact ⟨E1,d1,A,c,rfl,L1.out,L2.out,hBe⟩)
       exact results_cell (t:=4) (T:=25) rfl _ _ (w.heap.size+1) [Value.string p.name,Value.slice E1 L.length d1,Value.slice A M.length c] _ rfl (World.rangeAt_setCells_same wr (w.heap.size+1) 0 [Value.string p.name,Value.slice E1 L.length d1,Value.slice A M.length c] HT9.out) Try.underlying25 rfl (by kernel_rfl)
end Go.Proofs.Ytffemfglngikbaa
namespace Go.Proofs.Ytffemfglngikbaa
open Go.RowKit Go.Shelf
def Sim (W0:World) (g o:Nat) (v u:Value):Prop:=
 u=v∨(∃a b,v = .int .i64 a∧u = .int .i64 b)∨(∃a b,v = .string a∧u = .string b)∨((∃A n c,v = .slice A n c)∧u = .slice none 0 0∧∃k a,0<o∧W0.cell? ⟨g,o - 1,none⟩=some (.int k a))
structure SpR (B:Nat) (W0 w:World):Prop where
 le:B≤W0.heap.size
 bel:Below B W0 w
 frz : ∀g o,B≤g→g<W0.heap.size→w.frozen? ⟨g,o,none⟩=W0.frozen? ⟨g,o,none⟩
 cel : ∀g o,B≤g→g<W0.heap.size→∀v,W0.cell? ⟨g,o,none⟩=some v→∃u,w.cell? ⟨g,o,none⟩=some u∧Sim W0 g o v u
section
variable {B g o:Nat} {W0 w w':World}
theorem SpR.refl {B:Nat} {W0:World} (h:B≤W0.heap.size):SpR B W0 W0:=⟨h,Below.refl _ _,fun _ _ _ _=>rfl,fun _ _ _ _ v h=>⟨v,h,.inl rfl⟩⟩
theorem SpR.new_ (h:SpR B W0 w) (hb:Below w.heap.size w w'):SpR B W0 w':=by
 have hs:=h.bel.size
 have hle:=h.le
 refine ⟨hle,⟨hb.os.trans h.bel.os,hb.tape.trans h.bel.tape,hb.output.trans h.bel.output,Nat.le_trans hs hb.size,fun k hk=>(hb.block k (by omega)).trans (h.bel.block k hk)⟩,fun g o hg hl=>?_,fun g o hg hl v hv=>?_⟩
 · exact (hb.frozen (p:=⟨g,o,none⟩) (by dsimp only;omega)).trans (h.frz g o hg hl)
 · obtain ⟨u,h1,h2⟩:=h.cel g o hg hl v hv
   exact ⟨u,(hb.cell (p:=⟨g,o,none⟩) (by dsimp only;omega)).trans h1,h2⟩
theorem SpR.set (h:SpR B W0 w) (hg:B≤g) (hl:g<W0.heap.size) {v u:Value} (hv:W0.cell? ⟨g,o,none⟩=some v) (hs:Sim W0 g o v u):SpR B W0 (w.setCell ⟨g,o,none⟩ u):=by
 refine ⟨h.le,h.bel.setCell hg u,fun g' o' hg' hl'=>?_,fun g' o' hg' hl' v' hv'=>?_⟩
 · rw [World.frozen?_setCell];exact h.frz g' o' hg' hl'
 · by_cases e:(⟨g,o,none⟩:Addr)=⟨g',o',none⟩
   · injection e with e1 e2
     subst e1 e2
     rw [hv] at hv'
     injection hv' with hv'
     subst hv'
     obtain ⟨u1,h1,_⟩:=h.cel g o hg hl v hv
     exact ⟨u,World.cell?_setCell_same _ _ _ h1,hs⟩
   · rw [World.cell?_setCell_other _ _ _ _ e]
     exact h.cel g' o' hg' hl' v' hv'
theorem SpR.sets (hg:B≤g) (hl:g<W0.heap.size) : ∀(us:List Value) (o:Nat) {w:World},SpR B W0 w→(∀j u,us[j]? = some u→∃v,W0.cell? ⟨g,o+j,none⟩=some v∧Sim W0 g (o+j) v u)→SpR B W0 (w.setCells g o us)
 | [],_,_,h,_=>h
 | u :: us,o,w,h,hs=>by
   obtain ⟨v,h1,h2⟩:=hs 0 u rfl
   exact SpR.sets hg hl us (o+1) (h.set hg hl h1 h2) (fun j u' hj=>by
    obtain ⟨v',g1,g2⟩:=hs (j+1) u' (by simpa using hj)
    rw [show o+(j+1)=o+1+j by omega] at g1 g2
    exact ⟨v',g1,g2⟩)
theorem SpR.slice (h:SpR B W0 w) (hg:B≤g) (hl:g<W0.heap.size) {A:Option Addr} {n c:Nat} (hv:W0.cell? ⟨g,o+1,none⟩=some (.slice A n c)) {p:Value} (hp:W0.cell? ⟨g,o,none⟩=some p) (hne : ∀k a,p≠.int k a):w.cell? ⟨g,o+1,none⟩=some (.slice A n c):=by
 obtain ⟨u,h1,h2⟩:=h.cel g (o+1) hg hl _ hv
 rcases h2 with h2 | ⟨a,b,h2,_⟩ | ⟨a,b,h2,_⟩ | ⟨_,_,k,a,_,h3⟩
 · rw [h1,h2]
 · cases h2
 · cases h2
 · rw [Nat.add_sub_cancel,hp] at h3
   injection h3 with h3
   exact absurd h3 (hne k a)
theorem SpR.slice2 (h:SpR B W0 w) (hg:B≤g) (hl:g<W0.heap.size) {A:Option Addr} {n c:Nat} (hv:W0.cell? ⟨g,o,none⟩=some (.slice A n c)):w.cell? ⟨g,o,none⟩=some (.slice A n c)∨w.cell? ⟨g,o,none⟩=some (.slice none 0 0):=by
 obtain ⟨u,h1,h2⟩:=h.cel g o hg hl _ hv
 rcases h2 with h2 | ⟨a,b,h2,_⟩ | ⟨a,b,h2,_⟩ | ⟨_,h2,_⟩
 · exact .inl (by rw [h1,h2])
 · cases h2
 · cases h2
 · exact .inr (by rw [h1,h2])
theorem SpR.there (h:SpR B W0 w) (hg:B≤g) (hu:Unf W0 g) {cs:List Value} (hc : ∀j u,cs[j]? = some u→W0.cell? ⟨g,o+j,none⟩=some u) {n:Nat} (hn:n=cs.length):w.there g o n:=fun j hj=>by
 obtain ⟨u,h1,_⟩:=h.cel g (o+j) hg hu.1 _ (hc j _ (List.getElem?_eq_getElem (by omega)))
 exact ⟨by rw [h1];rfl,(h.frz g (o+j) hg hu.1).trans (hu.2 _)⟩
end
theorem RowU.at_ {α:Type} {r:RepT α} {D:Nat→Prop} {w:World} {A:Option Addr} {c k:Nat} {l:List α} (h:RowU r D w A c l) (hk:k<l.length) : ∃b off cs,A=some ⟨b,off,none⟩∧D b∧Unf w b∧r.rep D w l[k] cs∧∀j u,cs[j]? = some u→w.cell? ⟨b,off+k*r.size+j,none⟩=some u:=by
 obtain ⟨b,off,cs,hA,hD,_,h1,h2⟩:=h.1.at_ hk
 exact ⟨b,off,cs,hA,hD,(h.2 _ hA).2,h1,h2⟩
theorem spoil_sym {B g o:Nat} {W0 w:World} (h:SpR B W0 w) (hg:B≤g) (hl:g<W0.heap.size) {y:Sym} (hc : ∀j u,(Sym.cells y)[j]? = some u→W0.cell? ⟨g,o+j,none⟩=some u):SpR B W0 (w.setCells g o [.int .i64 0,.string ⟨#[]⟩,.int .i64 0]):=by
 refine SpR.sets hg hl _ o h (fun j u hj=>?_)
 match j,hj with
 | 0,hj=>exact ⟨_,hc 0 _ rfl,.inr (.inl ⟨_,_,rfl,by simpa using hj.symm⟩)⟩
 | 1,hj=>exact ⟨_,hc 1 _ rfl,.inr (.inr (.inl ⟨_,_,rfl,by simpa using hj.symm⟩))⟩
 | 2,hj=>exact ⟨_,hc 2 _ rfl,.inr (.inl ⟨_,_,rfl,by simpa using hj.symm⟩)⟩
theorem spoil_test {B g o:Nat} {W0 w:World} (h:SpR B W0 w) (hg:B≤g) (hl:g<W0.heap.size) {a0 a2 a4:Int} {a1 a3:ByteArray} {A:Option Addr} {n c:Nat} (hc : ∀j u,([.int .i64 a0,.string a1,.int .i64 a2,.string a3,.int .i64 a4,.slice A n c]:List Value)[j]? = some u→W0.cell? ⟨g,o+j,none⟩=some u):SpR B W0 (w.setCells g o [.int .i64 (-1),.string ⟨#[]⟩,.int .i64 0,.string ⟨#[]⟩,.int .i64 0,.slice none 0 0]):=by
 refine SpR.sets hg hl _ o h (fun j u hj=>?_)
 match j,hj with
 | 0,hj=>exact ⟨_,hc 0 _ rfl,.inr (.inl ⟨_,_,rfl,by simpa using hj.symm⟩)⟩
 | 1,hj=>exact ⟨_,hc 1 _ rfl,.inr (.inr (.inl ⟨_,_,rfl,by simpa using hj.symm⟩))⟩
 | 2,hj=>exact ⟨_,hc 2 _ rfl,.inr (.inl ⟨_,_,rfl,by simpa using hj.symm⟩)⟩
 | 3,hj=>exact ⟨_,hc 3 _ rfl,.inr (.inr (.inl ⟨_,_,rfl,by simpa using hj.symm⟩))⟩
 | 4,hj=>exact ⟨_,hc 4 _ rfl,.inr (.inl ⟨_,_,rfl,by simpa using hj.symm⟩)⟩
 | 5,hj=>exact ⟨_,hc 5 _ rfl,.inr (.inr (.inr ⟨⟨_,_,_,rfl⟩,by simpa using hj.symm,.i64,a4,by omega,hc 4 _ rfl⟩))⟩
end Go.Proofs.Ytffemfglngikbaa
namespace Go.Proofs.Ytffemfglngikbaa
open Go.RowKit Go.Shelf
def SpoilOk (n:Nat):Prop:=∀(x:CondT) (g o B:Nat) (A1:Option Addr) (c1:Nat) (A2:Option Addr) (c2:Nat) (A3:Option Addr) (c3:Nat) (D:Nat→Prop) (W0 w:World),(∀j,D j→B≤j)→B≤g→Unf W0 g→
 (∀j u,([.int .i64 x.kind,.bool x.goal,.string x.id,.slice A1 x.attr.length c1,.slice A2 x.value.length c2,.bool x.acc,.slice A3 x.conds.length c3]:List Value)[j]? = some u→W0.cell? ⟨g,o+j,none⟩=some u)→
 RowU repTestU D W0 A1 c1 x.attr→RowU repTestU D W0 A2 c2 x.value→RowU (repCondU n) D W0 A3 c3 x.conds→SpR B W0 w→
 Calls Try.prog 41 #[.pointer (some ⟨g,o,none⟩)] w fun e w'=>e = .returned (.tuple #[])∧SpR B W0 w'
theorem lt_sp {B g:Nat} {W0:World} (h:g<W0.heap.size) : ∀W,SpR B W0 W→g<W.heap.size:=fun _ hs=>Nat.lt_of_lt_of_le h hs.bel.size
set_option maxRecDepth 100000 in
set_option maxHeartbeats 16000000 in
theorem spoil_body (n:Nat) (ih : ∀m,n=m+1→SpoilOk m):SpoilOk n:=by
 intro x g o B A1 c1 A2 c2 A3 c3 D W0 w hD hg hU hc r1 r2 r3 hs
 have HD:=Lib.hid hD
 have HRattr:=Lib.hid r1
 have HRvalue:=Lib.hid r2
 have HR3:=Lib.hid r3
 have IH:=Lib.hid ih
 have HS:=Lib.hid hs
 have HGL:=Lib.hid (lt_sp (B:=B) hU.1)
 have HGT_:=fun (g:Nat) (h:g<W0.heap.size)=>lt_sp (B:=B) h
 have HSL:=Lib.hid (show ∀W,SpR B W0 W→W.cell? ⟨g,o+3,none⟩=some (.slice A1 x.attr.length c1)∧W.cell? ⟨g,o+4,none⟩=some (.slice A2 x.value.length c2)∧W.cell? ⟨g,o+6,none⟩=some (.slice A3 x.conds.length c3) from fun W hW=>
  ⟨hW.slice (o:=o+2) hg hU.1 (hc 3 _ rfl) (hc 2 _ rfl) (fun _ _=>by simp),hW.slice (o:=o+3) hg hU.1 (hc 4 _ rfl) (hc 3 _ rfl) (fun _ _=>by simp),hW.slice (o:=o+5) hg hU.1 (hc 6 _ rfl) (hc 5 _ rfl) (fun _ _=>by simp)⟩)
 have HID:=Lib.hid (show ∀W,SpR B W0 W→(∃v,W.cell? ⟨g,o+2,none⟩=some v)∧W.frozen? ⟨g,o+2,none⟩=false∧SpR B W0 (W.setCell ⟨g,o+2,none⟩ (.string ⟨#[103,111,110,101]⟩)) from fun W hW=>by
  obtain ⟨u,h1,_⟩:=hW.cel g (o+2) hg hU.1 _ (hc 2 _ rfl)
  exact ⟨⟨u,h1⟩,(hW.frz g (o+2) hg hU.1).trans (hU.2 _),hW.set hg hU.1 (hc 2 _ rfl) (.inr (.inr (.inl ⟨_,_,rfl,rfl⟩)))⟩)
 have hl1:=r1.1.cap
 have hl2:=r2.1.cap
 have hl3:=r3.1.cap
 clear hD hU hc r1 r2 r3 hs ih
 go_enter Try.func41,Try.ntmps41
 go_wp2_with fail
 go_loopw [2] (fun s wr=>∃i:Nat,s = .int .i64 i∧i≤x.attr.length∧SpR B W0 wr) (fun s wr=>x.attr.length - (intOf s).toNat)
 case atStart=>exact ⟨0,rfl,Nat.zero_le _,HS.out⟩
 case round=>
  obtain ⟨i,rfl,hi,hs⟩:=hrel
  have HS:=Lib.hid hs
  clear hs
  obtain ⟨p3,p4,p6⟩:=HSL.out wr HS.out
  have pz:=HGL.out wr HS.out
  by_cases hlt:i<x.attr.length
  · obtain ⟨wo,hwo⟩ : ∃wo,wo=wr:=⟨_,rfl⟩
    rw [← hwo] at HS p3 p4 p6 pz ⊢
    clear hwo
    obtain ⟨y,hy⟩ : ∃y,y=x.attr[i]:=⟨_,rfl⟩
    obtain ⟨gt,ot,cs,hA,hDt,hUt,hrep,hcs⟩:=HRattr.out.at_ hlt
    rw [← hy] at hrep
    obtain ⟨E,ec,rfl,hrow⟩:=hrep
    have hsz:repTestU.size=6:=rfl
    rw [hsz] at hcs
    have HCS:=Lib.hid hcs
    have HUT:=Lib.hid hUt
    have HBT:=Lib.hid (HD.out gt hDt)
    have HROW:=Lib.hid hrow
    subst hA
    have q5:=HCS.out 5 _ rfl
    have hyl:=hrow.1.cap
    have b1:(0:Int)≤(i:Int):=by omega
    have b2:(i:Int)<(x.attr.length:Int):=by omega
    have HEC:=Lib.hid (show ∃E' n' c',wo.cell? ⟨gt,ot+i*6+5,none⟩=some (.slice E' n' c')∧(n'=0∨E'=E∧n'=y.list.length∧c'=ec) from (HS.out.slice2 HBT.out HUT.out.1 q5).elim (fun h=>⟨_,_,_,h,.inr ⟨rfl,rfl,rfl⟩⟩) (fun h=>⟨_,_,_,h,.inl rfl⟩))
    obtain ⟨E',n',c',hec,hn'⟩:=HEC.out
    have HN':=Lib.hid hn'
    have hnl:(n':Int)≤9223372036854775807:=by rcases hn' with h | ⟨_,h,_⟩<;>omega
    have HQ:=Lib.hid hec
    have hgt:=HGT_ gt HUT.out.1 wo HS.out
    clear hy hcs hUt hrow hDt q5 hn' HEC hec
    go_wp2_with fail
    clear p3 p4 p6 pz hgt
    go_loopw [3] (fun s wr=>∃k:Nat,s = .int .i64 k∧k≤n'∧SpR B W0 wr∧wr.cell? ⟨gt,ot+i*6+5,none⟩=some (.slice E' n' c')) (fun s wr=>n' - (intOf s).toNat)
    case atStart=>exact ⟨0,rfl,Nat.zero_le _,HS.out,HQ.out⟩
    case round=>
     obtain ⟨k,rfl,hk,hs,hq⟩:=hrel
     have HS:=Lib.hid hs
     have HQ:=Lib.hid hq
     clear hs hq
     obtain ⟨p3,p4,p6⟩:=HSL.out wr HS.out
     have pz:=HGL.out wr HS.out
     have q5:=HQ.out
     have qz:=HGT_ gt HUT.out.1 wr HS.out
     by_cases hlk:k<n'
     · obtain ⟨rfl,rfl,rfl⟩:E'=E∧n'=y.list.length∧c'=ec:=HN'.out.elim (fun h=>by omega) id
       obtain ⟨gs,os,cs,hA,hDs,hUs,hrs,hcs⟩:=HROW.out.at_ hlk
       have hrs2:cs=Sym.cells y.list[k]:=hrs
       subst hrs2
       have hsz:repSym.size=3:=rfl
       rw [hsz] at hcs
       subst hA
       have HTH:=Lib.hid (show wr.there gs (os+k*3) (#[.int .i64 0,.string ⟨#[]⟩,.int .i64 0]:Array Value).size from HS.out.there (HD.out gs hDs) hUs hcs rfl)
       have HS2:=Lib.hid (spoil_sym HS.out (HD.out gs hDs) hUs.1 hcs)
       have HQ2:=Lib.hid (show (wr.setCells gs (os+k*3) [.int .i64 0,.string ⟨#[]⟩,.int .i64 0]).cell? ⟨gt,ot+i*6+5,none⟩=some (.slice (some ⟨gs,os,none⟩) y.list.length c') by
        rw [World.cell?_setCells_out]
        · exact HQ.out
        · intro e _
          dsimp only at e ⊢
          subst e
          have q:=HCS.out 5 _ rfl
          refine Classical.byContradiction (fun hne=>?_)
          have h012:ot+i*6+5=os+k*3∨ot+i*6+5=os+k*3+1∨ot+i*6+5=os+k*3+2:=by
           simp only [List.length_cons,List.length_nil] at hne
           omega
          rcases h012 with h | h | h
          · rw [h] at q;have:=hcs 0 _ rfl;rw [Nat.add_zero,q] at this;cases this
          · rw [h] at q;have:=hcs 1 _ rfl;rw [q] at this;cases this
          · rw [h] at q;have:=hcs 2 _ rfl;rw [q] at this;cases this)
       have j1:(0:Int)≤(k:Int):=by omega
       have j2:(k:Int)<(y.list.length:Int):=by omega
       clear hDs hUs hrs hcs
       go_wp2_with (with_reducible refine wpList_store_mid rfl 52 _ _ rfl gs (os+k*3) #[.int .i64 0,.string ⟨#[]⟩,.int .i64 0] rfl rfl HTH.out (by kernel_rfl) (by kernel_rfl) ?_)
       go_roundw
       case rel=>exact ⟨k+1,by go_num,by omega,HS2.out,HQ2.out⟩
       case measure=>simp [intOf]<;>omega
     · have HTH:=Lib.hid (show wr.there gt (ot+i*6) (#[.int .i64 (-1),.string ⟨#[]⟩,.int .i64 0,.string ⟨#[]⟩,.int .i64 0,.slice none 0 0]:Array Value).size from HS.out.there HBT.out HUT.out HCS.out rfl)
       have HS2:=Lib.hid (spoil_test HS.out HBT.out HUT.out.1 HCS.out)
       go_wp2_with (with_reducible refine wpList_store_mid rfl 65 _ _ rfl gt (ot+i*6) #[.int .i64 (-1),.string ⟨#[]⟩,.int .i64 0,.string ⟨#[]⟩,.int .i64 0,.slice none 0 0] rfl rfl HTH.out (by kernel_rfl) (by kernel_rfl) ?_)
       go_roundw
       case rel=>exact ⟨i+1,by go_num,by omega,HS2.out⟩
       case measure=>simp [intOf]<;>omega
  · obtain rfl:i=x.attr.length:=by omega
    go_wp2_with fail
    clear p3 p4 p6 pz
    go_loopw [4] (fun s wr=>∃i:Nat,s = .int .i64 i∧i≤x.value.length∧SpR B W0 wr) (fun s wr=>x.value.length - (intOf s).toNat)
    case atStart=>exact ⟨0,rfl,Nat.zero_le _,HS.out⟩
    case round=>
     obtain ⟨i,rfl,hi,hs⟩:=hrel
     have HS:=Lib.hid hs
     clear hs
     obtain ⟨p3,p4,p6⟩:=HSL.out wr HS.out
     have pz:=HGL.out wr HS.out
     by_cases hlt:i<x.value.length
     · obtain ⟨wo,hwo⟩ : ∃wo,wo=wr:=⟨_,rfl⟩
       rw [← hwo] at HS p3 p4 p6 pz ⊢
       clear hwo
       obtain ⟨y,hy⟩ : ∃y,y=x.value[i]:=⟨_,rfl⟩
       obtain ⟨gt,ot,cs,hA,hDt,hUt,hrep,hcs⟩:=HRvalue.out.at_ hlt
       rw [← hy] at hrep
       obtain ⟨E,ec,rfl,hrow⟩:=hrep
       have hsz:repTestU.size=6:=rfl
       rw [hsz] at hcs
       have HCS:=Lib.hid hcs
       have HUT:=Lib.hid hUt
       have HBT:=Lib.hid (HD.out gt hDt)
       have HROW:=Lib.hid hrow
       subst hA
       have q5:=HCS.out 5 _ rfl
       have hyl:=hrow.1.cap
       have b1:(0:Int)≤(i:Int):=by omega
       have b2:(i:Int)<(x.value.length:Int):=by omega
       have HEC:=Lib.hid (show ∃E' n' c',wo.cell? ⟨gt,ot+i*6+5,none⟩=some (.slice E' n' c')∧(n'=0∨E'=E∧n'=y.list.length∧c'=ec) from (HS.out.slice2 HBT.out HUT.out.1 q5).elim (fun h=>⟨_,_,_,h,.inr ⟨rfl,rfl,rfl⟩⟩) (fun h=>⟨_,_,_,h,.inl rfl⟩))
       obtain ⟨E',n',c',hec,hn'⟩:=HEC.out
       have HN':=Lib.hid hn'
       have hnl:(n':Int)≤9223372036854775807:=by rcases hn' with h | ⟨_,h,_⟩<;>omega
       have HQ:=Lib.hid hec
       have hgt:=HGT_ gt HUT.out.1 wo HS.out
       clear hy hcs hUt hrow hDt q5 hn' HEC hec
       go_wp2_with fail
       clear p3 p4 p6 pz hgt
       go_loopw [5] (fun s wr=>∃k:Nat,s = .int .i64 k∧k≤n'∧SpR B W0 wr∧wr.cell? ⟨gt,ot+i*6+5,none⟩=some (.slice E' n' c')) (fun s wr=>n' - (intOf s).toNat)
       case atStart=>exact ⟨0,rfl,Nat.zero_le _,HS.out,HQ.out⟩
       case round=>
        obtain ⟨k,rfl,hk,hs,hq⟩:=hrel
        have HS:=Lib.hid hs
        have HQ:=Lib.hid hq
        clear hs hq
        obtain ⟨p3,p4,p6⟩:=HSL.out wr HS.out
        have pz:=HGL.out wr HS.out
        have q5:=HQ.out
        have qz:=HGT_ gt HUT.out.1 wr HS.out
        by_cases hlk:k<n'
        · obtain ⟨rfl,rfl,rfl⟩:E'=E∧n'=y.list.length∧c'=ec:=HN'.out.elim (fun h=>by omega) id
          obtain ⟨gs,os,cs,hA,hDs,hUs,hrs,hcs⟩:=HROW.out.at_ hlk
          have hrs2:cs=Sym.cells y.list[k]:=hrs
          subst hrs2
          have hsz:repSym.size=3:=rfl
          rw [hsz] at hcs
          subst hA
          have HTH:=Lib.hid (show wr.there gs (os+k*3) (#[.int .i64 0,.string ⟨#[]⟩,.int .i64 0]:Array Value).size from HS.out.there (HD.out gs hDs) hUs hcs rfl)
          have HS2:=Lib.hid (spoil_sym HS.out (HD.out gs hDs) hUs.1 hcs)
          have HQ2:=Lib.hid (show (wr.setCells gs (os+k*3) [.int .i64 0,.string ⟨#[]⟩,.int .i64 0]).cell? ⟨gt,ot+i*6+5,none⟩=some (.slice (some ⟨gs,os,none⟩) y.list.length c') by
           rw [World.cell?_setCells_out]
           · exact HQ.out
           · intro e _
             dsimp only at e ⊢
             subst e
             have q:=HCS.out 5 _ rfl
             refine Classical.byContradiction (fun hne=>?_)
             have h012:ot+i*6+5=os+k*3∨ot+i*6+5=os+k*3+1∨ot+i*6+5=os+k*3+2:=by
              simp only [List.length_cons,List.length_nil] at hne
              omega
             rcases h012 with h | h | h
             · rw [h] at q;have:=hcs 0 _ rfl;rw [Nat.add_zero,q] at this;cases this
             · rw [h] at q;have:=hcs 1 _ rfl;rw [q] at this;cases this
             · rw [h] at q;have:=hcs 2 _ rfl;rw [q] at this;cases this)
          have j1:(0:Int)≤(k:Int):=by omega
          have j2:(k:Int)<(y.list.length:Int):=by omega
          clear hDs hUs hrs hcs
          go_wp2_with (with_reducible refine wpList_store_mid rfl 52 _ _ rfl gs (os+k*3) #[.int .i64 0,.string ⟨#[]⟩,.int .i64 0] rfl rfl HTH.out (by kernel_rfl) (by kernel_rfl) ?_)
          go_roundw
          case rel=>exact ⟨k+1,by go_num,by omega,HS2.out,HQ2.out⟩
          case measure=>simp [intOf]<;>omega
        · have HTH:=Lib.hid (show wr.there gt (ot+i*6) (#[.int .i64 (-1),.string ⟨#[]⟩,.int .i64 0,.string ⟨#[]⟩,.int .i64 0,.slice none 0 0]:Array Value).size from HS.out.there HBT.out HUT.out HCS.out rfl)
          have HS2:=Lib.hid (spoil_test HS.out HBT.out HUT.out.1 HCS.out)
          go_wp2_with (with_reducible refine wpList_store_mid rfl 65 _ _ rfl gt (ot+i*6) #[.int .i64 (-1),.string ⟨#[]⟩,.int .i64 0,.string ⟨#[]⟩,.int .i64 0,.slice none 0 0] rfl rfl HTH.out (by kernel_rfl) (by kernel_rfl) ?_)
          go_roundw
          case rel=>exact ⟨i+1,by go_num,by omega,HS2.out⟩
          case measure=>simp [intOf]<;>omega
     · obtain rfl:i=x.value.length:=by omega
       go_wp2_with fail
       clear p3 p4 p6 pz
       go_loopw [6] (fun s wr=>∃i:Nat,s = .int .i64 i∧i≤x.conds.length∧SpR B W0 wr) (fun s wr=>x.conds.length - (intOf s).toNat)
       case atStart=>exact ⟨0,rfl,Nat.zero_le _,HS.out⟩
       case round=>
        obtain ⟨i,rfl,hi,hs⟩:=hrel
        have HS:=Lib.hid hs
        clear hs
        obtain ⟨p3,p4,p6⟩:=HSL.out wr HS.out
        have pz:=HGL.out wr HS.out
        by_cases hlt:i<x.conds.length
        · obtain ⟨gt,ot,cs,hA,hDt,hUt,hrep,hcs⟩:=HR3.out.at_ hlt
          obtain ⟨m,hnm⟩ : ∃m,n=m+1:=by
           cases n with
           | zero=>exact hrep.elim
           | succ m=>exact ⟨m,rfl⟩
          subst hnm
          obtain ⟨E1,e1,E2,e2,E3,e3,rfl,t1,t2,t3⟩:=hrep
          have hsz:(repCondU (m+1)).size=7:=rfl
          rw [hsz] at hcs
          have HIH:=Lib.hid (IH.out m rfl x.conds[i] gt (ot+i*7) B E1 e1 E2 e2 E3 e3 D W0 wr HD.out (HD.out gt hDt) hUt hcs t1 t2 t3 HS.out)
          subst hA
          have b1:(0:Int)≤(i:Int):=by omega
          have b2:(i:Int)<(x.conds.length:Int):=by omega
          clear hDt hUt hcs t1 t2 t3
          go_wp2_with fail
          refine HIH.out.mono ?_
          rintro e w5 ⟨rfl,hs5⟩
          have HS5:=Lib.hid hs5
          clear hs5 p3 p4 p6 pz
          go_wp2_with fail
          go_roundw
          case rel=>exact ⟨i+1,by go_num,by omega,HS5.out⟩
          case measure=>simp [intOf]<;>omega
        · obtain rfl:i=x.conds.length:=by omega
          obtain ⟨⟨v,p2⟩,pf,hs9⟩:=HID.out wr HS.out
          have HS9:=Lib.hid hs9
          clear hs9 p3 p4
          go_wp2_with fail
          go_end0
          exact ⟨rfl,HS9.out⟩
theorem spoilcond_is : ∀n,SpoilOk n
 | 0=>spoil_body 0 (fun m h=>by omega)
 | n+1=>spoil_body (n+1) (fun m h=>by
    obtain rfl:m=n:=by omega
    exact spoilcond_is m)
end Go.Proofs.Ytffemfglngikbaa
namespace Go.Proofs.Ytffemfglngikbaa
open Go.RowKit Go.Shelf
set_option maxRecDepth 10000 in
theorem spoil_act {B g o:Nat} {W0 w:World} (h:SpR B W0 w) (hg:B≤g) (hl:g<W0.heap.size) {y:ActT} (hc : ∀j u,(ActT.cells y)[j]? = some u→W0.cell? ⟨g,o+j,none⟩=some u):SpR B W0 (w.setCells g o [.string ⟨#[103,111,110,101]⟩,.string ⟨#[]⟩,.int .i64 0,.string ⟨#[]⟩,.int .i64 0,.int .i64 0,.string ⟨#[]⟩,.int .i64 0,.string ⟨#[]⟩,.int .i64 0,.string ⟨#[]⟩,.int .i64 0,.string ⟨#[]⟩,.int .i64 0,.int .i64 0,.string ⟨#[]⟩,.int .i64 0,.string ⟨#[]⟩,.int .i64 0]):=by
 refine SpR.sets hg hl _ o h (fun j u hj=>?_)
 match j,hj with
 | 0,hj=>exact ⟨_,hc 0 _ rfl,.inr (.inr (.inl ⟨_,_,rfl,by simpa using hj.symm⟩))⟩
 | 1,hj=>exact ⟨_,hc 1 _ rfl,.inr (.inr (.inl ⟨_,_,rfl,by simpa using hj.symm⟩))⟩
 | 2,hj=>exact ⟨_,hc 2 _ rfl,.inr (.inl ⟨_,_,rfl,by simpa using hj.symm⟩)⟩
 | 3,hj=>exact ⟨_,hc 3 _ rfl,.inr (.inr (.inl ⟨_,_,rfl,by simpa using hj.symm⟩))⟩
 | 4,hj=>exact ⟨_,hc 4 _ rfl,.inr (.inl ⟨_,_,rfl,by simpa using hj.symm⟩)⟩
 | 5,hj=>exact ⟨_,hc 5 _ rfl,.inr (.inl ⟨_,_,rfl,by simpa using hj.symm⟩)⟩
 | 6,hj=>exact ⟨_,hc 6 _ rfl,.inr (.inr (.inl ⟨_,_,rfl,by simpa using hj.symm⟩))⟩
 | 7,hj=>exact ⟨_,hc 7 _ rfl,.inr (.inl ⟨_,_,rfl,by simpa using hj.symm⟩)⟩
 | 8,hj=>exact ⟨_,hc 8 _ rfl,.inr (.inr (.inl ⟨_,_,rfl,by simpa using hj.symm⟩))⟩
 | 9,hj=>exact ⟨_,hc 9 _ rfl,.inr (.inl ⟨_,_,rfl,by simpa using hj.symm⟩)⟩
 | 10,hj=>exact ⟨_,hc 10 _ rfl,.inr (.inr (.inl ⟨_,_,rfl,by simpa using hj.symm⟩))⟩
 | 11,hj=>exact ⟨_,hc 11 _ rfl,.inr (.inl ⟨_,_,rfl,by simpa using hj.symm⟩)⟩
 | 12,hj=>exact ⟨_,hc 12 _ rfl,.inr (.inr (.inl ⟨_,_,rfl,by simpa using hj.symm⟩))⟩
 | 13,hj=>exact ⟨_,hc 13 _ rfl,.inr (.inl ⟨_,_,rfl,by simpa using hj.symm⟩)⟩
 | 14,hj=>exact ⟨_,hc 14 _ rfl,.inr (.inl ⟨_,_,rfl,by simpa using hj.symm⟩)⟩
 | 15,hj=>exact ⟨_,hc 15 _ rfl,.inr (.inr (.inl ⟨_,_,rfl,by simpa using hj.symm⟩))⟩
 | 16,hj=>exact ⟨_,hc 16 _ rfl,.inr (.inl ⟨_,_,rfl,by simpa using hj.symm⟩)⟩
 | 17,hj=>exact ⟨_,hc 17 _ rfl,.inr (.inr (.inl ⟨_,_,rfl,by simpa using hj.symm⟩))⟩
 | 18,hj=>exact ⟨_,hc 18 _ rfl,.inr (.inl ⟨_,_,rfl,by simpa using hj.symm⟩)⟩
set_option maxRecDepth 100000 in
set_option maxHeartbeats 8000000 in
theorem spoil_is (n:Nat) (p:ProdT) (A1:Option Addr) (c1:Nat) (A2:Option Addr) (c2 B:Nat) (D:Nat→Prop) (w:World) (hB:B≤w.heap.size) (hD : ∀j,D j→B≤j) (r1:RowU (repCondU n) D w A1 c1 p.conds) (r2:RowU repActT D w A2 c2 p.acts) :
 Calls Try.prog 20 #[.agg #[.string p.name,.slice A1 p.conds.length c1,.slice A2 p.acts.length c2]] w fun e w'=>e = .returned (.tuple #[])∧Below B w w':=by
 obtain ⟨W1,hW1⟩ : ∃W,W=w.alloc (.cells #[.string p.name,.slice A1 p.conds.length c1,.slice A2 p.acts.length c2] 25):=⟨_,rfl⟩
 have hb1:Below w.heap.size w W1:=by rw [hW1];exact (Below.refl _ _).alloc (Nat.le_refl _) _
 have hk1:Blk W1 w.heap.size 25 #[.string p.name,.slice A1 p.conds.length c1,.slice A2 p.acts.length c2]:=by rw [hW1];exact Blk.new _ _ _
 have HW1:=Lib.hid hW1
 have HD:=Lib.hid hD
 have HR1:=Lib.hid (r1.new_ hb1)
 have HR2:=Lib.hid (r2.new_ hb1)
 have HS0:=Lib.hid (SpR.refl (W0:=W1) (Nat.le_trans hB hb1.size))
 have HB0:=Lib.hid (show Below B w W1 from hb1.mono hB)
 have HGL:=Lib.hid (lt_sp (B:=B) hk1.lt)
 have HSL:=Lib.hid (show ∀W,SpR B W1 W→W.cell? ⟨w.heap.size,1,none⟩=some (.slice A1 p.conds.length c1)∧W.cell? ⟨w.heap.size,2,none⟩=some (.slice A2 p.acts.length c2) from fun W hW=>
  ⟨hW.slice (o:=0) hB hk1.lt ((hk1.cell 1).trans rfl) ((hk1.cell 0).trans rfl) (fun _ _=>by simp),hW.slice (o:=1) hB hk1.lt ((hk1.cell 2).trans rfl) ((hk1.cell 1).trans rfl) (fun _ _=>by simp)⟩)
 have hl1:=r1.1.cap
 have hl2:=r2.1.cap
 clear hD r1 r2 hW1 hb1 hk1
 go_enter Try.func20,Try.ntmps20
 go_upto_region 1 with fail
 rw [← HW1.out]
 go_wp2_with fail
 go_loopw [2] (fun s wr=>∃i:Nat,s = .int .i64 i∧i≤p.conds.length∧SpR B W1 wr) (fun s wr=>p.conds.length - (intOf s).toNat)
 case atStart=>exact ⟨0,rfl,Nat.zero_le _,HS0.out⟩
 case round=>
  obtain ⟨i,rfl,hi,hs⟩:=hrel
  have HS:=Lib.hid hs
  clear hs
  obtain ⟨p1,p2⟩:=HSL.out wr HS.out
  have pz:=HGL.out wr HS.out
  by_cases hlt:i<p.conds.length
  · obtain ⟨gt,ot,cs,hA,hDt,hUt,hrep,hcs⟩:=HR1.out.at_ hlt
    obtain ⟨m,hnm⟩ : ∃m,n=m+1:=by
     cases n with
     | zero=>exact hrep.elim
     | succ m=>exact ⟨m,rfl⟩
    subst hnm
    obtain ⟨E1,e1,E2,e2,E3,e3,rfl,t1,t2,t3⟩:=hrep
    have hsz:(repCondU (m+1)).size=7:=rfl
    rw [hsz] at hcs
    have HIH:=Lib.hid (spoilcond_is m p.conds[i] gt (ot+i*7) B E1 e1 E2 e2 E3 e3 D W1 wr HD.out (HD.out gt hDt) hUt hcs t1 t2 t3 HS.out)
    subst hA
    have b1:(0:Int)≤(i:Int):=by omega
    have b2:(i:Int)<(p.conds.length:Int):=by omega
    clear hDt hUt hcs t1 t2 t3
    go_wp2_with fail
    refine HIH.out.mono ?_
    rintro e w5 ⟨rfl,hs5⟩
    have HS5:=Lib.hid hs5
    clear hs5 p1 p2 pz
    go_wp2_with fail
    go_roundw
    case rel=>exact ⟨i+1,by go_num,by omega,HS5.out⟩
    case measure=>simp [intOf]<;>omega
  · obtain rfl:i=p.conds.length:=by omega
    go_wp2_with fail
    clear p1 p2 pz
    go_loopw [3] (fun s wr=>∃i:Nat,s = .int .i64 i∧i≤p.acts.length∧SpR B W1 wr) (fun s wr=>p.acts.length - (intOf s).toNat)
    case atStart=>exact ⟨0,rfl,Nat.zero_le _,HS.out⟩
    case round=>
     obtain ⟨i,rfl,hi,hs⟩:=hrel
     have HS:=Lib.hid hs
     clear hs
     obtain ⟨p1,p2⟩:=HSL.out wr HS.out
     have pz:=HGL.out wr HS.out
     by_cases hlt:i<p.acts.length
     · obtain ⟨gt,ot,cs,hA,hDt,hUt,hrep,hcs⟩:=HR2.out.at_ hlt
       have hrs2:cs=ActT.cells p.acts[i]:=hrep
       subst hrs2
       have hsz:repActT.size=19:=rfl
       rw [hsz] at hcs
       have HTH:=Lib.hid (show wr.there gt (ot+i*19) (#[.string ⟨#[103,111,110,101]⟩,.string ⟨#[]⟩,.int .i64 0,.string ⟨#[]⟩,.int .i64 0,.int .i64 0,.string ⟨#[]⟩,.int .i64 0,.string ⟨#[]⟩,.int .i64 0,.string ⟨#[]⟩,.int .i64 0,.string ⟨#[]⟩,.int .i64 0,.int .i64 0,.string ⟨#[]⟩,.int .i64 0,.string ⟨#[]⟩,.int .i64 0]:Array Value).size from HS.out.there (HD.out gt hDt) hUt hcs rfl)
       have HS2:=Lib.hid (spoil_act HS.out (HD.out gt hDt) hUt.1 hcs)
       subst hA
       have b1:(0:Int)≤(i:Int):=by omega
       have b2:(i:Int)<(p.acts.length:Int):=by omega
       clear hDt hUt hcs hrep
       go_wp2_with (with_reducible refine wpList_store_mid rfl 58 _ _ rfl gt (ot+i*19) #[.string ⟨#[103,111,110,101]⟩,.string ⟨#[]⟩,.int .i64 0,.string ⟨#[]⟩,.int .i64 0,.int .i64 0,.string ⟨#[]⟩,.int .i64 0,.string ⟨#[]⟩,.int .i64 0,.string ⟨#[]⟩,.int .i64 0,.string ⟨#[]⟩,.int .i64 0,.int .i64 0,.string ⟨#[]⟩,.int .i64 0,.string ⟨#[]⟩,.int .i64 0] rfl rfl HTH.out (by kernel_rfl) (by kernel_rfl) ?_)
       go_roundw
       case rel=>exact ⟨i+1,by go_num,by omega,HS2.out⟩
       case measure=>simp [intOf]<;>omega
     · obtain rfl:i=p.acts.length:=by omega
       have HE:=Lib.hid (HB0.out.trans HS.out.bel)
       go_wp2_with fail
       go_end0
       exact ⟨rfl,HE.out⟩
end Go.Proofs.Ytffemfglngikbaa
