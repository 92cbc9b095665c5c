/-
  Texts put together: ListStr, KeepTexts, RefNm, VarsP, CanonP, Sets, LeafPgW, FindPgW, OpsPgW, PutPgW, MiscPgW, NewPgW.
-/
import Derived.Test.YtffemfglngikbaaRb
import Derived.Test.YtffemfglngikbaaRa
import Derived.Maps.RangeWalk
namespace Go.Proofs.Ytffemfglngikbaa
open Go.RowKit Go.Shelf
attribute [local go_sem] Oper.semAt_some
def strC (s:ByteArray):List Value:=[.string s]
theorem strC_len (s:ByteArray):(strC s).length=1:=rfl
theorem str_one (l:List ByteArray) : ∀u∈l.flatMap strC,u.oneCell'=true:=by
 intro u hu
 obtain ⟨s,_,h⟩:=List.mem_flatMap.1 hu
 simp only [strC,List.mem_cons,List.not_mem_nil,or_false] at h
 subst h;rfl
theorem info_Str:(Try.prog.info? 9).map (fun i=>(i.zero,i.size,i.bytes))=some (some (.string ⟨#[]⟩),1,16):=by kernel_rfl
def StrsTo (W:World) (xs:List ByteArray) (e:Ending) (W':World):Prop:=
 ∃A c,e = .returned (.slice A xs.length c)∧W'.ownsRow 0 9 1 (.slice A xs.length c) xs.length (xs.flatMap strC)∧AIn A (W.heap.size≤·)∧Below W.heap.size W W'
def ColI (w:World) (ob:Nat) (D:Nat→Prop) (pre:List ByteArray) (X:World):Prop:=
 ∃A c,Own D X ob 28 #[.slice A pre.length c]∧OwnRD D X 9 1 pre.length A c (pre.flatMap strC)∧AIn A (w.heap.size≤·)∧Below w.heap.size w X∧(∀k,D k→k<X.heap.size)
theorem ColI.step {w:World} {ob B:Nat} {D:Nat→Prop} {pre:List ByteArray} {X Y:World} (h:ColI w ob D pre X) (hB:w.heap.size≤B) (hF:Fr (FromB B D) X Y):ColI w ob (Plus D X Y) pre Y:=by
 obtain ⟨A,c,h1,h2,h3,h4,h5⟩:=h
 exact ⟨A,c,h1.step hF,h2.step hF,h3,h4.trans (hF.below h4.size (fun k hk hn=>by have:=hn.2;omega)),fun k hk=>hk.elim (fun hk=>Nat.lt_of_lt_of_le (h5 k hk) hF.size) (·.2)⟩
end Go.Proofs.Ytffemfglngikbaa
namespace Go.Proofs.Ytffemfglngikbaa
open Go.RowKit Go.Shelf
theorem str_at {D:Nat→Prop} {w:World} {A:Option Addr} {c k:Nat} {l:List ByteArray} (h:RowR repStr D w A c l) (hk:k<l.length) : ∃g off,A=some ⟨g,off,none⟩∧g<w.heap.size∧w.cell? ⟨g,off+k,none⟩=some (.string l[k]):=by
 obtain ⟨g,off,cs,hA,hD,hg,hr,hc⟩:=h.at_ hk
 have hr2:cs = [Value.string l[k]]:=hr
 subst hr2
 exact ⟨g,off,hA,hg,by simpa [repStr,RepT.flat] using hc 0 _ rfl⟩
theorem strs_row {w:World} {A:Option Addr} {c n:Nat} {l:List ByteArray} (hn:l.length=n) (h:w.ownsRow 0 9 1 (.slice A n c) n (l.flatMap strC)):RowR repStr (fun _=>True) w A c l:=by
 subst hn
 exact RowR.of_rd (ownsRow_rd strC_len h) (fun _ _=>trivial)
end Go.Proofs.Ytffemfglngikbaa
namespace Go.Proofs.Ytffemfglngikbaa
open Go.RowKit Go.Shelf
abbrev V6:={cs:List Value // cs.length=6∧∀u∈cs,u.oneCell'=true}
theorem v6_len (v:V6):(v.1).length=6:=v.2.1
theorem v6_one (l:List V6) : ∀u∈l.flatMap (·.1),u.oneCell'=true:=fun u hu=>by
 obtain ⟨v,_,h⟩:=List.mem_flatMap.1 hu
 exact v.2.2 u h
def Raw6 (l:List TestT) (xs:List V6):Prop:=xs.map (fun v=>(v.1[0]?,v.1[1]?))=l.map (fun t=>(some (Value.int .i64 t.rel),some (Value.string t.var)))
theorem Raw6.app {l m:List TestT} {xs ys:List V6} (h1:Raw6 l xs) (h2:Raw6 m ys):Raw6 (l++m) (xs++ys):=by
 unfold Raw6 at *
 rw [List.map_append,List.map_append,h1,h2]
theorem Raw6.len {l:List TestT} {xs:List V6} (h:Raw6 l xs):xs.length=l.length:=by
 have:=congrArg List.length h
 simpa using this
theorem Raw6.get {l:List TestT} {xs:List V6} (h:Raw6 l xs) {k:Nat} (hk:k<l.length) (hk2:k<xs.length):xs[k].1[0]? = some (.int .i64 l[k].rel)∧xs[k].1[1]? = some (.string l[k].var):=by
 have:=congrArg (·[k]?) h
 simp only [List.getElem?_map,List.getElem?_eq_getElem hk,List.getElem?_eq_getElem hk2,Option.map_some,Option.some.injEq,Prod.mk.injEq] at this
 exact this
theorem raw_tests {D:Nat→Prop} {w:World} {A:Option Addr} {c:Nat} {l:List TestT} (h:RowR repTestT D w A c l) : ∃xs:List V6,Raw6 l xs∧RowRd w 6 (·.1) A c xs:=by
 by_cases h0:0<l.length
 · obtain ⟨b,off,hA,_,hb,hall⟩:=h.2.2 h0
   have hex : ∀i:Fin l.length,∃v:V6,v.1[0]? = some (.int .i64 l[i].rel)∧v.1[1]? = some (.string l[i].var)∧∀j u,v.1[j]? = some u→w.cell? ⟨b,off+i*6+j,none⟩=some u:=fun i=>by
    obtain ⟨cs,⟨A1,c1,hcs,_⟩,hc⟩:=hall i i.2
    subst hcs
    refine ⟨⟨_,by rfl,by simp [Value.oneCell']⟩,rfl,rfl,fun j u hu=>hc j u hu⟩
   refine ⟨List.ofFn fun i=>Classical.choose (hex i),?_,?_⟩
   · unfold Raw6
     apply List.ext_getElem
     · simp
     · intro k hk hk2
       simp only [List.length_map,List.length_ofFn] at hk
       simp only [List.getElem_map,List.getElem_ofFn]
       obtain ⟨g1,g2,_⟩:=Classical.choose_spec (hex ⟨k,hk⟩)
       rw [g1,g2];rfl
   · refine ⟨by simpa using h.1,h.2.1,fun _=>⟨b,off,hA,hb,fun k hk j u hu=>?_⟩⟩
     simp only [List.length_ofFn] at hk
     simp only [List.getElem_ofFn] at hu
     exact (Classical.choose_spec (hex ⟨k,hk⟩)).2.2 j u hu
 · have:l = []:=List.length_eq_zero_iff.1 (by omega)
   subst this
   exact ⟨[],rfl,by simp,h.2.1,fun h=>absurd h (by simp)⟩
theorem rows_neN {W:World} {e1 e2:TypeId} {z1 z2 n1 n2 b1 b2:Nat} {v1 v2:Value} {x1 x2:List Value} (h1:W.ownsRow b1 e1 z1 v1 n1 x1) (h2:W.ownsRow b2 e2 z2 v2 n2 x2) (hne:e1≠e2) {g:Nat} (hg:v1.ownBlock=some g):v2.ownBlock≠some g:=by
 rcases h1.2 with ⟨rfl,_⟩ | ⟨k,cap,cur,rfl,_,hk,_⟩
 · simp [Value.ownBlock] at hg
 · have e:k=g:=by simpa [Value.ownBlock] using hg
   subst e
   exact own_blk_ne h2 (t:=e1) (cs:=cur) hk (Ne.symm hne)
theorem grown_str {B:Nat} {w w':World} {A:Option Addr} {c:Nat} {xs ys:List ByteArray} {v:Value} (hown:w'.ownsRow 0 9 1 v (xs.length+ys.length) (xs.flatMap strC++ys.flatMap strC)) (hg:w.grownBy w' (Value.slice A xs.length c).ownBlock)
 (hat:v.ownBlock=(Value.slice A xs.length c).ownBlock∨v.ownBlock=some w.heap.size) (hA:AIn A (B≤·)) (hB:B≤w.heap.size) :
 ∃A' c',v = .slice A' (xs++ys).length c'∧w'.ownsRow 0 9 1 (.slice A' (xs++ys).length c') (xs++ys).length ((xs++ys).flatMap strC)∧AIn A' (B≤·)∧Below B w w'∧Fr (fun k=>(Value.slice A xs.length c).ownBlock=some k) w w':=by
 rw [← List.length_append,← List.flatMap_append] at hown
 obtain ⟨A',c',rfl,_⟩:=own_form2 hown
 have hown2 : ∀k,(Value.slice A xs.length c).ownBlock=some k→B≤k:=fun k hk=>by
  cases A with
  | none=>cases hk
  | some a=>simp only [Value.ownBlock,Option.some.injEq] at hk;rw [← hk];exact hA a rfl
 refine ⟨A',c',rfl,hown,fun a ha=>?_,(Below.refl B w).grown hg hB hown2,(Fr.refl _ w).grown hg (fun k hk=>.inl hk)⟩
 subst ha
 rcases hat with h | h
 · exact hown2 _ h.symm
 · simp only [Value.ownBlock,Option.some.injEq] at h
   omega
def RNSpec (n:Nat):Prop:=∀(c:CondT) (A1:Option Addr) (a1:Nat) (A2:Option Addr) (a2:Nat) (A3:Option Addr) (a3:Nat) (D:Nat→Prop) (X:World),SmC (n+1) c→(namesN (n+1) c).length≤100000→RowR repTestT D X A1 a1 c.attr→RowR repTestT D X A2 a2 c.value→RowR (repCondT n) D X A3 a3 c.conds→
    Calls Try.prog 28 #[.agg #[.int .i64 c.kind,.bool c.goal,.string c.id,.slice A1 c.attr.length a1,.slice A2 c.value.length a2,.bool c.acc,.slice A3 c.conds.length a3]] X (StrsTo X (namesN (n+1) c))
structure RN (X:World) (c:CondT) (A1:Option Addr) (a1:Nat) (A2:Option Addr) (a2:Nat) (A3:Option Addr) (a3:Nat) (out:List ByteArray) (A:Option Addr) (cp:Nat) (w:World):Prop where
 own:w.ownsRow 0 9 1 (.slice A out.length cp) out.length (out.flatMap strC)
 ain:AIn A (X.heap.size≤·)
 blk:Blk w X.heap.size 50 #[.int .i64 c.kind,.bool c.goal,.string c.id,.slice A1 c.attr.length a1,.slice A2 c.value.length a2,.bool c.acc,.slice A3 c.conds.length a3]
 bel:Below X.heap.size X w
section
variable {X w w':World} {c:CondT} {A1 A2 A3 A:Option Addr} {a1 a2 a3 cp:Nat} {out ys:List ByteArray}
theorem RN.new_ (h:RN X c A1 a1 A2 a2 A3 a3 out A cp w) (hb:Below w.heap.size w w'):RN X c A1 a1 A2 a2 A3 a3 out A cp w':=⟨ownsRow_new h.own hb,h.ain,h.blk.new_ hb,h.bel.trans (hb.mono h.bel.size)⟩
theorem RN.app {v:Value} (h:RN X c A1 a1 A2 a2 A3 a3 out A cp w) (hown:w'.ownsRow 0 9 1 v (out.length+ys.length) (out.flatMap strC++ys.flatMap strC)) (hg:w.grownBy w' (Value.slice A out.length cp).ownBlock) (hat:v.ownBlock=(Value.slice A out.length cp).ownBlock∨v.ownBlock=some w.heap.size) :
 ∃A' c',v = .slice A' (out++ys).length c'∧RN X c A1 a1 A2 a2 A3 a3 (out++ys) A' c' w'∧Fr (fun k=>(Value.slice A out.length cp).ownBlock=some k) w w':=by
 obtain ⟨A',c',rfl,h1,h2,h3,h4⟩:=grown_str hown hg hat h.ain h.bel.size
 exact ⟨A',c',rfl,⟨h1,h2,h.blk.fr h4 (fun e=>own_blk_ne h.own h.blk (by decide) e),h.bel.trans h3⟩,h4⟩
end
set_option maxRecDepth 100000 in
set_option maxHeartbeats 16000000 in
theorem rnames_step (n:Nat) (ih : ∀m,n=m+1→RNSpec m):RNSpec n:=by
 intro c A1 a1 A2 a2 A3 a3 D X hsm hlen h1 h2 h3
 obtain ⟨i0,hi0,hz0,hz1,hz2⟩:=info_parts info_Str
 obtain ⟨t0,ht0,hy0,hyy1,hyy2⟩:=infp inf_Test
 obtain ⟨xs1,hr1,hd1⟩:=raw_tests h1
 obtain ⟨xs2,hr2,hd2⟩:=raw_tests h2
 have hl1:xs1.length=c.attr.length:=hr1.len
 have hl2:xs2.length=c.value.length:=hr2.len
 obtain ⟨⟨hs1,_⟩,⟨hs2,_⟩,_,hs4⟩:=hsm
 have IH:=Lib.hid ih
 have HS4:=Lib.hid hs4
 have HLEN:=Lib.hid hlen
 have H3:=Lib.hid h3
 have hac:=h3.cap
 have HD1:=Lib.hid (show RowRd X 6 (fun v:V6=>v.1) A1 a1 xs1 from hd1)
 have HD2:=Lib.hid (show RowRd X 6 (fun v:V6=>v.1) A2 a2 xs2 from hd2)
 have HRW:=Lib.hid (hr1.app hr2)
 have hlx1:xs1.length≤1000:=by omega
 have hlx2:xs2.length≤1000:=by omega
 have HL1:=Lib.hid hl1
 have HL2:=Lib.hid hl2
 clear ih hs4 hlen h1 h2 h3 hd1 hd2 hr1 hr2 hs1 hs2 hl1 hl2
 go_enter Try.func28,Try.ntmps28
 go_upto_region 1 with fail
 obtain ⟨W1,hW1⟩ : ∃W1,W1=X.alloc (.cells #[.int .i64 c.kind,.bool c.goal,.string c.id,.slice A1 c.attr.length a1,.slice A2 c.value.length a2,.bool c.acc,.slice A3 c.conds.length a3] 50):=⟨_,rfl⟩
 have hb1:Below X.heap.size X W1:=by rw [hW1];exact (Below.refl _ _).alloc (Nat.le_refl _) _
 have HN1:=Lib.hid (show RN X c A1 a1 A2 a2 A3 a3 [] none 0 W1 from ⟨owns_nilC _ _ _,AIn.none_ _,by rw [hW1];exact Blk.new _ _ _,hb1⟩)
 rw [← hW1]
 clear hW1 hb1
 have q2:=(HN1.out.blk.cell 2).trans rfl
 have qz:=HN1.out.blk.lt
 by_cases hid:c.id.toList = []
 · have ia:(c.id.toList == [])=true:=by simp [hid]
   have ib:c.id.toList.isEmpty=true:=by simp [hid]
   have ic:decide (c.id.toList = [])=true:=by simp [hid]
   have HOS:=Lib.hid (show ([]:List ByteArray)=oneN c.id by rw [oneN_no hid])
   have HOSL:=Lib.hid (show ([]:List ByteArray).length≤1 by simp)
   have HNo:=Lib.hid HN1.out
   clear hid
   go_upto_region 4 with fail
   clear q2 qz
   have q3:=(HNo.out.blk.cell 3).trans rfl
   have q4:=(HNo.out.blk.cell 4).trans rfl
   have qz:=HNo.out.blk.lt
   refine wp_region_E (fun w9=>Below W1.heap.size W1 w9) [(0,0),(1,1),(3,0),(4,1),(2,2),(5,2),(6,0)] (by kernel_rfl) (by kernel_rfl) (fun KK hKK=>?_)
   simp only [beside,List.filterMap_cons,List.filterMap_nil,List.getElem?_toArray,List.getElem?_cons_zero,List.getElem?_cons_succ,Option.map_some]
   repeat ((first | (refine wpX_w ?_ (Or.inl ⟨by rfl,fun w9=>?_⟩) ?_;rotate_left 1;go_simp;with_reducible rfl) | (refine wpX_l ?_ (((Below.refl _ _).drew)) (Or.inl ⟨by rfl,fun w9 hw9=>?_⟩) ?_;rotate_left 1;obtain ⟨hc9,hf9⟩:=bcell hw9;go_simp;with_reducible rfl) | refine wpX_w undef (Or.inr ⟨by rfl,rfl⟩) ?_ | refine wpX_l undef (((Below.refl _ _).drew)) (Or.inr ⟨by rfl,rfl⟩) ?_);go_frame)
   refine wpX_es (fun K9_ hK9_=>?_)
   refine step_append_src _ rfl _ _ 48 rfl 65 t0 _ 6 80 Try.underlying48 ht0 hy0 hyy1 hyy2 rfl (by omega) (.slice none 0 0) 0 [] rfl (owns_nilC _ _ _) A1 c.attr.length a1 (xs1.flatMap (fun v:V6=>v.1)) rfl (by rw [← HL1.out];exact flat_length v6_len xs1) (by rw [← HL1.out];exact ((HD1.out.new_ HNo.out.bel).new_ ((Below.refl _ _).drew)).news v6_len (by omega)) (v6_one _) (by have:=HL1.out;unfold maxLen;omega) (by have:=HL1.out;omega) ?_
   intro vb w3 hown1 hg1 hnil1 hat1
   rw [Nat.zero_add,List.nil_append] at hown1
   obtain ⟨Ad,cd,rfl,_⟩:=own_form2 hown1
   have HB3:=Lib.hid (show Below W1.heap.size W1 w3 from ((Below.refl W1.heap.size W1).drew).trans ((Below.refl _ _).grown hg1 (Nat.le_refl _) (fun k hk=>by cases hk)))
   have HO3:=Lib.hid hown1
   have HA3:=Lib.hid (show AIn Ad (W1.heap.size≤·) from fun a ha=>by
    subst ha
    rcases hat1 with h | h
    · cases h
    · simp only [Value.ownBlock,Option.some.injEq] at h
      exact Nat.le_of_eq h.symm)
   clear hown1 hg1 hnil1 hat1
   refine hK9_ _ _ HB3.out ?_
   clear hK9_ K9_
   refine wpX_es (fun K9_ hK9_=>?_)
   refine step_append_src _ rfl _ _ 48 rfl 65 t0 _ 6 80 Try.underlying48 ht0 hy0 hyy1 hyy2 rfl (by omega) (.slice Ad c.attr.length cd) c.attr.length (xs1.flatMap (fun v:V6=>v.1)) rfl HO3.out A2 c.value.length a2 (xs2.flatMap (fun v:V6=>v.1)) rfl (by rw [← HL2.out];exact flat_length v6_len xs2) (by rw [← HL2.out];exact ((HD2.out.new_ HNo.out.bel).new_ HB3.out).news v6_len (by omega)) (v6_one _) (by have:=HL1.out;have:=HL2.out;unfold maxLen;omega) (by have:=HL1.out;have:=HL2.out;omega) ?_
   intro vb w4 hown1 hg1 hnil1 hat1
   rw [← List.flatMap_append] at hown1
   obtain ⟨Al,cl,rfl,_⟩:=own_form2 hown1
   have HB4:=Lib.hid (show Below W1.heap.size W1 w4 from HB3.out.grown hg1 HB3.out.size (fun k hk=>by
    cases Ad with
    | none=>cases hk
    | some a=>simp only [Value.ownBlock,Option.some.injEq] at hk;rw [← hk];exact HA3.out a rfl))
   have HO4:=Lib.hid hown1
   clear hown1 hg1 hnil1 hat1 HO3 HA3 HB3
   obtain ⟨tl,htl⟩ : ∃tl,tl=c.attr++c.value:=⟨_,rfl⟩
   have htll:c.attr.length+c.value.length=tl.length:=by rw [htl,List.length_append]
   rw [htll] at HO4 ⊢
   have HTL:=Lib.hid htl
   clear htl htll
   refine hK9_ _ _ HB4.out ?_
   clear hK9_ K9_
   repeat ((first | (refine wpX_w ?_ (Or.inl ⟨by rfl,fun w9=>?_⟩) ?_;rotate_left 1;go_simp;with_reducible rfl) | (refine wpX_l ?_ (HB3.out) (Or.inl ⟨by rfl,fun w9 hw9=>?_⟩) ?_;rotate_left 1;obtain ⟨hc9,hf9⟩:=bcell hw9;go_simp;with_reducible rfl) | refine wpX_w undef (Or.inr ⟨by rfl,rfl⟩) ?_ | refine wpX_l undef (HB3.out) (Or.inr ⟨by rfl,rfl⟩) ?_);go_frame)
   refine wpX_nil ?_
   simp only [OnlyN_normal]
   refine hKK _ _ ?_
   clear hKK KK
   obtain ⟨xs,hxs⟩ : ∃xs,xs=xs1++xs2:=⟨_,rfl⟩
   rw [← hxs] at HO4 HRW
   rw [← HTL.out] at HRW
   have HN4:=Lib.hid (HNo.out.new_ HB4.out)
   have htc:tl.length≤2000:=by rw [HTL.out,List.length_append];have:=HL1.out;have:=HL2.out;omega
   have HXL:=Lib.hid (show xs.length=tl.length from HRW.out.len)
   clear q3 q4 qz HNo hxs
   go_wp2_with fail
   go_loopw [3,5] (fun v s wr=>∃(i:Nat) (out:List ByteArray) (A:Option Addr) (cp:Nat),s = .int .i64 i∧v = .slice A out.length cp∧i≤tl.length∧out=([]:List ByteArray)++varsT (tl.take i)∧RN X c A1 a1 A2 a2 A3 a3 out A cp wr∧wr.ownsRow 0 65 6 (.slice Al tl.length cl) tl.length (xs.flatMap (fun v:V6=>v.1))) (fun v s wr=>tl.length - (intOf s).toNat)
   case atStart=>exact ⟨0,([]:List ByteArray),none,0,rfl,rfl,Nat.zero_le _,by simp [varsT],HN4.out,HO4.out⟩
   case round=>
    obtain ⟨i,out,A,cp,rfl,rfl,hi,hout,hn,ho⟩:=hrel
    have HNR:=Lib.hid hn
    have HOR:=Lib.hid ho
    have HOUT:=Lib.hid hout
    clear hn ho hout HN4 HO4
    by_cases hlt:i<tl.length
    · obtain ⟨y,hy⟩ : ∃y,y=tl[i]:=⟨_,rfl⟩
      have hxi:i<xs.length:=by rw [HXL.out];exact hlt
      have hrd:RowRd wr 6 (fun v:V6=>v.1) Al cl xs:=by
       have h:=HOR.out
       rw [← HXL.out] at h
       exact ownsRow_rd v6_len h
      obtain ⟨g,off,hA0,hg,hcel⟩:=hrd.at_ hxi
      have q1:wr.cell? ⟨g,off+i*6+1,none⟩=some (.string y.var):=hcel 1 _ (by rw [(HRW.out.get hlt hxi).2,hy])
      subst hA0
      have HVT:=Lib.hid (show varsT (tl.take (i+1))=varsT (tl.take i)++oneN y.var by unfold varsT;rw [← take_snoc hlt,List.flatMap_append,hy];simp)
      have hol:out.length≤100000:=by
       have h1:=varsT_len (tl.take i)
       have h2:=HOSL.out
       rw [HOUT.out,List.length_append]
       have h3:(tl.take i).length≤tl.length:=Nat.le_trans (List.length_take_le _ _) hi
       omega
      have j1:(0:Int)≤(i:Int):=by omega
      have j2:(i:Int)<(tl.length:Int):=by omega
      clear hy hrd hcel
      by_cases hve:y.var.toList = []
      · have va:(y.var.toList == [])=true:=by simp [hve]
        have vb:y.var.toList.isEmpty=true:=by simp [hve]
        have vc:decide (y.var.toList = [])=true:=by simp [hve]
        have HON:=Lib.hid (show out=([]:List ByteArray)++varsT (tl.take (i+1)) by rw [HVT.out,oneN_no hve,List.append_nil];exact HOUT.out)
        clear hve
        go_wp2_with fail
        go_roundw
        case rel=>exact ⟨i+1,out,A,cp,by go_num,rfl,by omega,HON.out,HNR.out,HOR.out⟩
        case measure=>simp [intOf]<;>omega
      · have va:(y.var.toList == [])=false:=by simp [hve]
        have vb:y.var.toList.isEmpty=false:=by simp [hve]
        have vc:decide (y.var.toList = [])=false:=by simp [hve]
        have HON:=Lib.hid (show out ++ [y.var]=([]:List ByteArray)++varsT (tl.take (i+1)) by rw [HVT.out,oneN_yes hve,HOUT.out];simp)
        clear hve
        obtain ⟨Y9,hY9⟩ : ∃Y9,Y9=wr.alloc (.cells #[.string y.var] 9):=⟨_,rfl⟩
        have hb9:Below wr.heap.size wr Y9:=by rw [hY9];exact (Below.refl _ _).alloc (Nat.le_refl _) _
        have HY9:=Lib.hid hY9
        have HN9:=Lib.hid (HNR.out.new_ hb9)
        have HO9:=Lib.hid (ownsRow_new HOR.out hb9)
        have HW9:=Lib.hid (show 0<1→∃ad,(some (⟨wr.heap.size,0,none⟩:Addr))=some ad∧∀j u,([y.var].flatMap strC)[j]? = some u→Y9.cell? (ad.add j)=some u from fun _=>⟨_,rfl,by rw [hY9];exact World.news_of_block (heap_alloc_new _ _)⟩)
        clear hY9 hb9
        go_wp2_with (at_builtin;rw [← HY9.out];refine wpList_append_src Y9 rfl (.tmp 33) (.tmp 39) 28 rfl 9 i0 _ 1 16 Try.underlying28 hi0 hz0 hz1 hz2 rfl (by decide) (.slice A out.length cp) out.length (out.flatMap strC) rfl HN9.out.own (some ⟨wr.heap.size,0,none⟩) 1 1 ([y.var].flatMap strC) rfl rfl HW9.out (str_one _) (by unfold maxLen;omega) (by omega) ?_;intro v1 w9 hown1 hg1 hnil1 hat1;obtain ⟨A9,c9,rfl,hn9,hf9⟩:=HN9.out.app (ys:=[y.var]) hown1 hg1 hat1;have HN10:=Lib.hid hn9;have HO10:=Lib.hid (ownsRow_fr HO9.out hf9 (fun g hg e=>rows_neN HO9.out HN9.out.own (by decide) hg e));clear hown1 hg1 hnil1 hat1 hn9 hf9)
        go_roundw
        case rel=>exact ⟨i+1,out ++ [y.var],A9,c9,by go_num,by simp,by omega,HON.out,HN10.out,HO10.out⟩
        case measure=>simp [intOf]<;>omega
    · obtain rfl:i=tl.length:=by omega
      have HOC:=Lib.hid (show out=([]:List ByteArray)++(varsT c.attr++varsT c.value)++((c.conds.take 0).flatMap (namesN n)) by rw [HOUT.out,List.take_length,HTL.out];simp [varsT])
      clear HOUT
      go_wp2_with fail
      go_loopw [3,6] (fun v s wr=>∃(i:Nat) (out:List ByteArray) (A:Option Addr) (cp:Nat),s = .int .i64 i∧v = .slice A out.length cp∧i≤c.conds.length∧out=([]:List ByteArray)++(varsT c.attr++varsT c.value)++((c.conds.take i).flatMap (namesN n))∧RN X c A1 a1 A2 a2 A3 a3 out A cp wr) (fun v s wr=>c.conds.length - (intOf s).toNat)
      case atStart=>exact ⟨0,out,A,cp,rfl,rfl,Nat.zero_le _,HOC.out,HNR.out⟩
      case round=>
       clear HOC HNR HOR
       obtain ⟨i,out,A,cp,rfl,rfl,hi,hout,hn⟩:=hrel
       have HNR:=Lib.hid hn
       have HOUT:=Lib.hid hout
       have q6:=(hn.blk.cell 6).trans rfl
       have qz:=hn.blk.lt
       clear hn hout
       by_cases hlt:i<c.conds.length
       · obtain ⟨m,hnm⟩ : ∃m,n=m+1:=by
          cases n with
          | zero=>have:=row_zero H3.out;rw [this] at hlt;simp at hlt
          | succ m=>exact ⟨m,rfl⟩
         subst hnm
         obtain ⟨y,hy⟩ : ∃y,y=c.conds[i]:=⟨_,rfl⟩
         have hcr:=H3.out.new_ HNR.out.bel
         obtain ⟨gt,ot,B1,b1_,B2,b2_,B3,b3_,hA,_,hgt,p0,p1,p2,p3,p4,p5,p6,r1,r2,r3⟩:=at_CondT hcr hlt
         subst hA
         rw [← hy] at p0 p1 p2 p3 p4 p5 p6 r1 r2 r3
         have htk:(c.conds.take (i+1)).flatMap (namesN (m+1))=(c.conds.take i).flatMap (namesN (m+1))++namesN (m+1) y:=by rw [← take_snoc hlt,List.flatMap_append,hy];simp
         have htot:(out++namesN (m+1) y).length≤(namesN (m+1+1) c).length:=by
          have e:namesN (m+1+1) c=out++namesN (m+1) y++(c.conds.drop (i+1)).flatMap (namesN (m+1)):=by
           rw [HOUT.out,List.append_assoc,List.append_assoc,← List.append_assoc ((c.conds.take i).flatMap _),← htk,← List.flatMap_append,List.take_append_drop,namesN,← HOS.out]
           simp
          rw [e];simp only [List.length_append];omega
         rw [List.length_append] at htot
         have hl9:=HLEN.out
         have hcall:=IH.out m rfl y B1 b1_ B2 b2_ B3 b3_ D wr (HS4.out y (by rw [hy];exact List.getElem_mem hlt)) (by omega) r1 r2 r3
         obtain ⟨ns,hns⟩ : ∃ns,ns=namesN (m+1) y:=⟨_,rfl⟩
         rw [← hns] at hcall htk htot
         have HCALL:=Lib.hid hcall
         have HTK:=Lib.hid htk
         have ho1:out.length≤100000:=by omega
         have ho2:ns.length≤100000:=by omega
         have j1:(0:Int)≤(i:Int):=by omega
         have j2:(i:Int)<(c.conds.length:Int):=by omega
         clear hy hcr r1 r2 r3 htk htot hcall hns hl9
         go_wp2_with fail
         refine HCALL.out.mono ?_
         rintro e w8 ⟨A8,c8,rfl,ho8,hA8,hb8⟩
         have HO8:=Lib.hid (show RowRd w8 1 strC A8 c8 ns from ownsRow_rd strC_len ho8)
         have HN8:=Lib.hid (HNR.out.new_ hb8)
         clear ho8 hA8 hb8 p0 p1 p2 p3 p4 p5 p6 q6 qz
         go_wp2_with (at_builtin;refine wpList_append_src w8 rfl (.tmp 48) (.tmp 54) 28 rfl 9 i0 _ 1 16 Try.underlying28 hi0 hz0 hz1 hz2 rfl (by decide) (.slice A out.length cp) out.length (out.flatMap strC) rfl HN8.out.own A8 ns.length c8 (ns.flatMap strC) rfl (flat_length strC_len _) (HO8.out.news strC_len (by decide)) (str_one _) (by unfold maxLen;omega) (by omega) ?_;intro v1 w9 hown1 hg1 hnil1 hat1;obtain ⟨A9,c9,rfl,hn9,hf9⟩:=HN8.out.app hown1 hg1 hat1;have HN10:=Lib.hid hn9;clear hown1 hg1 hnil1 hat1 hn9 hf9)
         go_roundw
         case rel=>exact ⟨i+1,out++ns,A9,c9,by go_num,by simp,by omega,by rw [HTK.out,HOUT.out];simp,HN10.out⟩
         case measure=>simp [intOf]<;>omega
       · obtain rfl:i=c.conds.length:=by omega
         have HEN:=Lib.hid (show namesN (n+1) c=out by rw [HOUT.out,List.take_length,namesN,← HOS.out];simp)
         go_wp2_with fail
         go_ret
         rw [HEN.out]
         exact ⟨A,cp,rfl,HNR.out.own,HNR.out.ain,HNR.out.bel⟩
 · have ia:(c.id.toList == [])=false:=by simp [hid]
   have ib:c.id.toList.isEmpty=false:=by simp [hid]
   have ic:decide (c.id.toList = [])=false:=by simp [hid]
   have HOS:=Lib.hid (show [c.id]=oneN c.id by rw [oneN_yes hid])
   have HOSL:=Lib.hid (show [c.id].length≤1 by simp)
   clear hid
   obtain ⟨Y9,hY9⟩ : ∃Y9,Y9=W1.alloc (.cells #[.string c.id] 9):=⟨_,rfl⟩
   have hb9:Below W1.heap.size W1 Y9:=by rw [hY9];exact (Below.refl _ _).alloc (Nat.le_refl _) _
   have HY9:=Lib.hid hY9
   have HN9:=Lib.hid (HN1.out.new_ hb9)
   have HW9:=Lib.hid (show 0<1→∃ad,(some (⟨W1.heap.size,0,none⟩:Addr))=some ad∧∀j u,([c.id].flatMap strC)[j]? = some u→Y9.cell? (ad.add j)=some u from fun _=>⟨_,rfl,by rw [hY9];exact World.news_of_block (heap_alloc_new _ _)⟩)
   clear hY9 hb9
   go_upto_region 4 with (at_builtin;rw [← HY9.out];refine wpList_append_src Y9 rfl (.tmp 10) (.tmp 13) 28 rfl 9 i0 _ 1 16 Try.underlying28 hi0 hz0 hz1 hz2 rfl (by decide) (.slice none 0 0) ([]:List ByteArray).length (([]:List ByteArray).flatMap strC) rfl HN9.out.own (some ⟨W1.heap.size,0,none⟩) 1 1 ([c.id].flatMap strC) rfl rfl HW9.out (str_one _) (by simp [maxLen]) (by simp) ?_;intro v1 wN hown1 hg1 hnil1 hat1;obtain ⟨Ao,co,rfl,hn9,_⟩:=HN9.out.app (ys:=[c.id]) hown1 hg1 hat1;have HNo:=Lib.hid (show RN X c A1 a1 A2 a2 A3 a3 [c.id] Ao co wN from hn9);clear hown1 hg1 hnil1 hat1 hn9)
   clear q2 qz
   have q3:=(HNo.out.blk.cell 3).trans rfl
   have q4:=(HNo.out.blk.cell 4).trans rfl
   have qz:=HNo.out.blk.lt
   refine wp_region_E (fun w9=>Below wN.heap.size wN w9) [(0,0),(1,1),(3,0),(4,1),(2,2),(5,2),(6,0)] (by kernel_rfl) (by kernel_rfl) (fun KK hKK=>?_)
   simp only [beside,List.filterMap_cons,List.filterMap_nil,List.getElem?_toArray,List.getElem?_cons_zero,List.getElem?_cons_succ,Option.map_some]
   repeat ((first | (refine wpX_w ?_ (Or.inl ⟨by rfl,fun w9=>?_⟩) ?_;rotate_left 1;go_simp;with_reducible rfl) | (refine wpX_l ?_ (((Below.refl _ _).drew)) (Or.inl ⟨by rfl,fun w9 hw9=>?_⟩) ?_;rotate_left 1;obtain ⟨hc9,hf9⟩:=bcell hw9;go_simp;with_reducible rfl) | refine wpX_w undef (Or.inr ⟨by rfl,rfl⟩) ?_ | refine wpX_l undef (((Below.refl _ _).drew)) (Or.inr ⟨by rfl,rfl⟩) ?_);go_frame)
   refine wpX_es (fun K9_ hK9_=>?_)
   refine step_append_src _ rfl _ _ 48 rfl 65 t0 _ 6 80 Try.underlying48 ht0 hy0 hyy1 hyy2 rfl (by omega) (.slice none 0 0) 0 [] rfl (owns_nilC _ _ _) A1 c.attr.length a1 (xs1.flatMap (fun v:V6=>v.1)) rfl (by rw [← HL1.out];exact flat_length v6_len xs1) (by rw [← HL1.out];exact ((HD1.out.new_ HNo.out.bel).new_ ((Below.refl _ _).drew)).news v6_len (by omega)) (v6_one _) (by have:=HL1.out;unfold maxLen;omega) (by have:=HL1.out;omega) ?_
   intro vb w3 hown1 hg1 hnil1 hat1
   rw [Nat.zero_add,List.nil_append] at hown1
   obtain ⟨Ad,cd,rfl,_⟩:=own_form2 hown1
   have HB3:=Lib.hid (show Below wN.heap.size wN w3 from ((Below.refl wN.heap.size wN).drew).trans ((Below.refl _ _).grown hg1 (Nat.le_refl _) (fun k hk=>by cases hk)))
   have HO3:=Lib.hid hown1
   have HA3:=Lib.hid (show AIn Ad (wN.heap.size≤·) from fun a ha=>by
    subst ha
    rcases hat1 with h | h
    · cases h
    · simp only [Value.ownBlock,Option.some.injEq] at h
      exact Nat.le_of_eq h.symm)
   clear hown1 hg1 hnil1 hat1
   refine hK9_ _ _ HB3.out ?_
   clear hK9_ K9_
   refine wpX_es (fun K9_ hK9_=>?_)
   refine step_append_src _ rfl _ _ 48 rfl 65 t0 _ 6 80 Try.underlying48 ht0 hy0 hyy1 hyy2 rfl (by omega) (.slice Ad c.attr.length cd) c.attr.length (xs1.flatMap (fun v:V6=>v.1)) rfl HO3.out A2 c.value.length a2 (xs2.flatMap (fun v:V6=>v.1)) rfl (by rw [← HL2.out];exact flat_length v6_len xs2) (by rw [← HL2.out];exact ((HD2.out.new_ HNo.out.bel).new_ HB3.out).news v6_len (by omega)) (v6_one _) (by have:=HL1.out;have:=HL2.out;unfold maxLen;omega) (by have:=HL1.out;have:=HL2.out;omega) ?_
   intro vb w4 hown1 hg1 hnil1 hat1
   rw [← List.flatMap_append] at hown1
   obtain ⟨Al,cl,rfl,_⟩:=own_form2 hown1
   have HB4:=Lib.hid (show Below wN.heap.size wN w4 from HB3.out.grown hg1 HB3.out.size (fun k hk=>by
    cases Ad with
    | none=>cases hk
    | some a=>simp only [Value.ownBlock,Option.some.injEq] at hk;rw [← hk];exact HA3.out a rfl))
   have HO4:=Lib.hid hown1
   clear hown1 hg1 hnil1 hat1 HO3 HA3 HB3
   obtain ⟨tl,htl⟩ : ∃tl,tl=c.attr++c.value:=⟨_,rfl⟩
   have htll:c.attr.length+c.value.length=tl.length:=by rw [htl,List.length_append]
   rw [htll] at HO4 ⊢
   have HTL:=Lib.hid htl
   clear htl htll
   refine hK9_ _ _ HB4.out ?_
   clear hK9_ K9_
   repeat ((first | (refine wpX_w ?_ (Or.inl ⟨by rfl,fun w9=>?_⟩) ?_;rotate_left 1;go_simp;with_reducible rfl) | (refine wpX_l ?_ (HB3.out) (Or.inl ⟨by rfl,fun w9 hw9=>?_⟩) ?_;rotate_left 1;obtain ⟨hc9,hf9⟩:=bcell hw9;go_simp;with_reducible rfl) | refine wpX_w undef (Or.inr ⟨by rfl,rfl⟩) ?_ | refine wpX_l undef (HB3.out) (Or.inr ⟨by rfl,rfl⟩) ?_);go_frame)
   refine wpX_nil ?_
   simp only [OnlyN_normal]
   refine hKK _ _ ?_
   clear hKK KK
   obtain ⟨xs,hxs⟩ : ∃xs,xs=xs1++xs2:=⟨_,rfl⟩
   rw [← hxs] at HO4 HRW
   rw [← HTL.out] at HRW
   have HN4:=Lib.hid (HNo.out.new_ HB4.out)
   have htc:tl.length≤2000:=by rw [HTL.out,List.length_append];have:=HL1.out;have:=HL2.out;omega
   have HXL:=Lib.hid (show xs.length=tl.length from HRW.out.len)
   clear q3 q4 qz HNo hxs
   go_wp2_with fail
   go_loopw [3,5] (fun v s wr=>∃(i:Nat) (out:List ByteArray) (A:Option Addr) (cp:Nat),s = .int .i64 i∧v = .slice A out.length cp∧i≤tl.length∧out = [c.id]++varsT (tl.take i)∧RN X c A1 a1 A2 a2 A3 a3 out A cp wr∧wr.ownsRow 0 65 6 (.slice Al tl.length cl) tl.length (xs.flatMap (fun v:V6=>v.1))) (fun v s wr=>tl.length - (intOf s).toNat)
   case atStart=>exact ⟨0,[c.id],Ao,co,rfl,rfl,Nat.zero_le _,by simp [varsT],HN4.out,HO4.out⟩
   case round=>
    obtain ⟨i,out,A,cp,rfl,rfl,hi,hout,hn,ho⟩:=hrel
    have HNR:=Lib.hid hn
    have HOR:=Lib.hid ho
    have HOUT:=Lib.hid hout
    clear hn ho hout HN4 HO4
    by_cases hlt:i<tl.length
    · obtain ⟨y,hy⟩ : ∃y,y=tl[i]:=⟨_,rfl⟩
      have hxi:i<xs.length:=by rw [HXL.out];exact hlt
      have hrd:RowRd wr 6 (fun v:V6=>v.1) Al cl xs:=by
       have h:=HOR.out
       rw [← HXL.out] at h
       exact ownsRow_rd v6_len h
      obtain ⟨g,off,hA0,hg,hcel⟩:=hrd.at_ hxi
      have q1:wr.cell? ⟨g,off+i*6+1,none⟩=some (.string y.var):=hcel 1 _ (by rw [(HRW.out.get hlt hxi).2,hy])
      subst hA0
      have HVT:=Lib.hid (show varsT (tl.take (i+1))=varsT (tl.take i)++oneN y.var by unfold varsT;rw [← take_snoc hlt,List.flatMap_append,hy];simp)
      have hol:out.length≤100000:=by
       have h1:=varsT_len (tl.take i)
       have h2:=HOSL.out
       rw [HOUT.out,List.length_append]
       have h3:(tl.take i).length≤tl.length:=Nat.le_trans (List.length_take_le _ _) hi
       omega
      have j1:(0:Int)≤(i:Int):=by omega
      have j2:(i:Int)<(tl.length:Int):=by omega
      clear hy hrd hcel
      by_cases hve:y.var.toList = []
      · have va:(y.var.toList == [])=true:=by simp [hve]
        have vb:y.var.toList.isEmpty=true:=by simp [hve]
        have vc:decide (y.var.toList = [])=true:=by simp [hve]
        have HON:=Lib.hid (show out = [c.id]++varsT (tl.take (i+1)) by rw [HVT.out,oneN_no hve,List.append_nil];exact HOUT.out)
        clear hve
        go_wp2_with fail
        go_roundw
        case rel=>exact ⟨i+1,out,A,cp,by go_num,rfl,by omega,HON.out,HNR.out,HOR.out⟩
        case measure=>simp [intOf]<;>omega
      · have va:(y.var.toList == [])=false:=by simp [hve]
        have vb:y.var.toList.isEmpty=false:=by simp [hve]
        have vc:decide (y.var.toList = [])=false:=by simp [hve]
        have HON:=Lib.hid (show out ++ [y.var] = [c.id]++varsT (tl.take (i+1)) by rw [HVT.out,oneN_yes hve,HOUT.out];simp)
        clear hve
        obtain ⟨Y9,hY9⟩ : ∃Y9,Y9=wr.alloc (.cells #[.string y.var] 9):=⟨_,rfl⟩
        have hb9:Below wr.heap.size wr Y9:=by rw [hY9];exact (Below.refl _ _).alloc (Nat.le_refl _) _
        have HY9:=Lib.hid hY9
        have HN9:=Lib.hid (HNR.out.new_ hb9)
        have HO9:=Lib.hid (ownsRow_new HOR.out hb9)
        have HW9:=Lib.hid (show 0<1→∃ad,(some (⟨wr.heap.size,0,none⟩:Addr))=some ad∧∀j u,([y.var].flatMap strC)[j]? = some u→Y9.cell? (ad.add j)=some u from fun _=>⟨_,rfl,by rw [hY9];exact World.news_of_block (heap_alloc_new _ _)⟩)
        clear hY9 hb9
        go_wp2_with (at_builtin;rw [← HY9.out];refine wpList_append_src Y9 rfl (.tmp 33) (.tmp 39) 28 rfl 9 i0 _ 1 16 Try.underlying28 hi0 hz0 hz1 hz2 rfl (by decide) (.slice A out.length cp) out.length (out.flatMap strC) rfl HN9.out.own (some ⟨wr.heap.size,0,none⟩) 1 1 ([y.var].flatMap strC) rfl rfl HW9.out (str_one _) (by unfold maxLen;omega) (by omega) ?_;intro v1 w9 hown1 hg1 hnil1 hat1;obtain ⟨A9,c9,rfl,hn9,hf9⟩:=HN9.out.app (ys:=[y.var]) hown1 hg1 hat1;have HN10:=Lib.hid hn9;have HO10:=Lib.hid (ownsRow_fr HO9.out hf9 (fun g hg e=>rows_neN HO9.out HN9.out.own (by decide) hg e));clear hown1 hg1 hnil1 hat1 hn9 hf9)
        go_roundw
        case rel=>exact ⟨i+1,out ++ [y.var],A9,c9,by go_num,by simp,by omega,HON.out,HN10.out,HO10.out⟩
        case measure=>simp [intOf]<;>omega
    · obtain rfl:i=tl.length:=by omega
      have HOC:=Lib.hid (show out = [c.id]++(varsT c.attr++varsT c.value)++((c.conds.take 0).flatMap (namesN n)) by rw [HOUT.out,List.take_length,HTL.out];simp [varsT])
      clear HOUT
      go_wp2_with fail
      go_loopw [3,6] (fun v s wr=>∃(i:Nat) (out:List ByteArray) (A:Option Addr) (cp:Nat),s = .int .i64 i∧v = .slice A out.length cp∧i≤c.conds.length∧out = [c.id]++(varsT c.attr++varsT c.value)++((c.conds.take i).flatMap (namesN n))∧RN X c A1 a1 A2 a2 A3 a3 out A cp wr) (fun v s wr=>c.conds.length - (intOf s).toNat)
      case atStart=>exact ⟨0,out,A,cp,rfl,rfl,Nat.zero_le _,HOC.out,HNR.out⟩
      case round=>
       clear HOC HNR HOR
       obtain ⟨i,out,A,cp,rfl,rfl,hi,hout,hn⟩:=hrel
       have HNR:=Lib.hid hn
       have HOUT:=Lib.hid hout
       have q6:=(hn.blk.cell 6).trans rfl
       have qz:=hn.blk.lt
       clear hn hout
       by_cases hlt:i<c.conds.length
       · obtain ⟨m,hnm⟩ : ∃m,n=m+1:=by
          cases n with
          | zero=>have:=row_zero H3.out;rw [this] at hlt;simp at hlt
          | succ m=>exact ⟨m,rfl⟩
         subst hnm
         obtain ⟨y,hy⟩ : ∃y,y=c.conds[i]:=⟨_,rfl⟩
         have hcr:=H3.out.new_ HNR.out.bel
         obtain ⟨gt,ot,B1,b1_,B2,b2_,B3,b3_,hA,_,hgt,p0,p1,p2,p3,p4,p5,p6,r1,r2,r3⟩:=at_CondT hcr hlt
         subst hA
         rw [← hy] at p0 p1 p2 p3 p4 p5 p6 r1 r2 r3
         have htk:(c.conds.take (i+1)).flatMap (namesN (m+1))=(c.conds.take i).flatMap (namesN (m+1))++namesN (m+1) y:=by rw [← take_snoc hlt,List.flatMap_append,hy];simp
         have htot:(out++namesN (m+1) y).length≤(namesN (m+1+1) c).length:=by
          have e:namesN (m+1+1) c=out++namesN (m+1) y++(c.conds.drop (i+1)).flatMap (namesN (m+1)):=by
           rw [HOUT.out,List.append_assoc,List.append_assoc,← List.append_assoc ((c.conds.take i).flatMap _),← htk,← List.flatMap_append,List.take_append_drop,namesN,← HOS.out]
           simp
          rw [e];simp only [List.length_append];omega
         rw [List.length_append] at htot
         have hl9:=HLEN.out
         have hcall:=IH.out m rfl y B1 b1_ B2 b2_ B3 b3_ D wr (HS4.out y (by rw [hy];exact List.getElem_mem hlt)) (by omega) r1 r2 r3
         obtain ⟨ns,hns⟩ : ∃ns,ns=namesN (m+1) y:=⟨_,rfl⟩
         rw [← hns] at hcall htk htot
         have HCALL:=Lib.hid hcall
         have HTK:=Lib.hid htk
         have ho1:out.length≤100000:=by omega
         have ho2:ns.length≤100000:=by omega
         have j1:(0:Int)≤(i:Int):=by omega
         have j2:(i:Int)<(c.conds.length:Int):=by omega
         clear hy hcr r1 r2 r3 htk htot hcall hns hl9
         go_wp2_with fail
         refine HCALL.out.mono ?_
         rintro e w8 ⟨A8,c8,rfl,ho8,hA8,hb8⟩
         have HO8:=Lib.hid (show RowRd w8 1 strC A8 c8 ns from ownsRow_rd strC_len ho8)
         have HN8:=Lib.hid (HNR.out.new_ hb8)
         clear ho8 hA8 hb8 p0 p1 p2 p3 p4 p5 p6 q6 qz
         go_wp2_with (at_builtin;refine wpList_append_src w8 rfl (.tmp 48) (.tmp 54) 28 rfl 9 i0 _ 1 16 Try.underlying28 hi0 hz0 hz1 hz2 rfl (by decide) (.slice A out.length cp) out.length (out.flatMap strC) rfl HN8.out.own A8 ns.length c8 (ns.flatMap strC) rfl (flat_length strC_len _) (HO8.out.news strC_len (by decide)) (str_one _) (by unfold maxLen;omega) (by omega) ?_;intro v1 w9 hown1 hg1 hnil1 hat1;obtain ⟨A9,c9,rfl,hn9,hf9⟩:=HN8.out.app hown1 hg1 hat1;have HN10:=Lib.hid hn9;clear hown1 hg1 hnil1 hat1 hn9 hf9)
         go_roundw
         case rel=>exact ⟨i+1,out++ns,A9,c9,by go_num,by simp,by omega,by rw [HTK.out,HOUT.out];simp,HN10.out⟩
         case measure=>simp [intOf]<;>omega
       · obtain rfl:i=c.conds.length:=by omega
         have HEN:=Lib.hid (show namesN (n+1) c=out by rw [HOUT.out,List.take_length,namesN,← HOS.out];simp)
         go_wp2_with fail
         go_ret
         rw [HEN.out]
         exact ⟨A,cp,rfl,HNR.out.own,HNR.out.ain,HNR.out.bel⟩
end Go.Proofs.Ytffemfglngikbaa
namespace Go.Proofs.Ytffemfglngikbaa
def fives (a:ActT):List ByteArray:=[a.id,a.attr.var,a.value.a.var,a.value.b.var,a.other.var]
def varsA (a:ActT):List ByteArray:=(fives a).flatMap oneN
def varsP (n:Nat) (p:ProdT):List ByteArray:=p.conds.flatMap (namesN n)++p.acts.flatMap varsA
end Go.Proofs.Ytffemfglngikbaa
namespace Go.Proofs.Ytffemfglngikbaa
open Go.RowKit
def oneR (t:ByteArray→ByteArray) (v:ByteArray):ByteArray:=if v.toList = [] then ⟨#[]⟩ else t v
def testR (t:ByteArray→ByteArray) (x:TestT):TestT:=⟨x.rel,oneR t x.var,x.sym,x.list⟩
def condR (t:ByteArray→ByteArray):Nat→CondT→CondT
 | 0,c=>c
 | n+1,c=>.mk c.kind c.goal (oneR t c.id) (c.attr.map (testR t)) (c.value.map (testR t)) c.acc (c.conds.map (condR t n))
def atomR (t:ByteArray→ByteArray) (a:AtomT):AtomT:=⟨oneR t a.var,a.sym⟩
def actR (t:ByteArray→ByteArray) (a:ActT):ActT:=⟨oneR t a.id,atomR t a.attr,⟨a.value.op,atomR t a.value.a,atomR t a.value.b⟩,a.pref,atomR t a.other⟩
def prodR (t:ByteArray→ByteArray) (n:Nat) (p:ProdT):ProdT:=⟨p.name,p.conds.map (condR t n),p.acts.map (actR t)⟩
structure NamerOk (gf:Nat) (lb:Array Value) (w0:World) (Q:ByteArray→Prop) (t:ByteArray→ByteArray):Prop where
 ent : ∀args w,(callFunc gf args).run Try.prog w = .ok (.enter gf args) w
 call : ∀v W,Below w0.heap.size w0 W→Q v→Calls Try.prog gf (#[.string v]++lb) W fun e W'=>e = .returned (.string (t v))∧Below W.heap.size W W'
def QT (Q:ByteArray→Prop) (l:List TestT):Prop:=∀x∈l,¬x.var.toList = []→Q x.var
def QC (Q:ByteArray→Prop):Nat→CondT→Prop
 | 0,_=>True
 | n+1,c=>(¬c.id.toList = []→Q c.id)∧QT Q c.attr∧QT Q c.value∧∀x∈c.conds,QC Q n x
def QV (Q:ByteArray→Prop) (v:ByteArray):Prop:=¬v.toList = []→Q v
def QA (Q:ByteArray→Prop) (a:ActT):Prop:=QV Q a.id∧QV Q a.attr.var∧QV Q a.value.a.var∧QV Q a.value.b.var∧QV Q a.other.var
end Go.Proofs.Ytffemfglngikbaa
namespace Go.Proofs.Ytffemfglngikbaa
open Go.RowKit
structure St where
 sn:Bool
 A:Option Addr
 c:Nat
def upd {β:Type} (S:Nat→β) (b:Nat) (l:β):Nat→β:=fun k=>if k=b then l else S k
theorem upd_same {β:Type} (S:Nat→β) (b:Nat) (l:β):upd S b l b=l:=by simp [upd]
theorem upd_ne {β:Type} (S:Nat→β) {b k:Nat} (l:β) (h:k≠b):upd S b l k=S k:=by simp [upd,h]
structure Sets {α:Type} (tSet tE size:Nat) (cells:α→List Value) (cmp:α→α→Int) (D:Nat→Prop) (w:World) (S:Nat→Option (List α)) (σ:Nat→St):Prop where
 at_ : ∀b l,S b=some l→SetAt tSet tE size cells w b (σ b).sn (σ b).A (σ b).c l
 srt : ∀b l,S b=some l→Srt cmp l
 out : ∀b l,S b=some l→¬D b∧((σ b).sn=false→AIn (σ b).A (fun k=>¬D k))
 apart : ∀b l b' l',S b=some l→S b'=some l'→b≠b'→(σ b).sn=false→∀a a',(σ b).A=some a→(σ b').A=some a'→a.block≠a'.block
 low : ∀k,D k→k<w.heap.size
section
variable {α:Type} {tSet tE size:Nat} {cells:α→List Value} {cmp:α→α→Int} {D D':Nat→Prop} {w w':World} {S:Nat→Option (List α)} {σ:Nat→St} {b b':Nat} {l l':List α}
theorem SetAt.far {sn:Bool} {A:Option Addr} {c:Nat} (h:SetAt tSet tE size cells w b sn A c l) {sn':Bool} {A':Option Addr} {c':Nat} (h':SetAt tSet tE size cells w b' sn' A' c' l') (hne:tE≠tSet):AIn A (·≠b'):=by
 intro a e hb
 have:=own_blk_ne h.row h'.blk hne
 subst e
 exact this (by simp [Value.ownBlock,hb])
theorem Sets.start (tSet tE size:Nat) (cells:α→List Value) (cmp:α→α→Int) (w:World):Sets tSet tE size cells cmp (· < w.heap.size) w (fun _=>none) (fun _=>⟨false,none,0⟩):=
 ⟨fun _ _ h=>by simp at h,fun _ _ h=>by simp at h,fun _ _ h=>by simp at h,fun _ _ _ _ h=>by simp at h,fun _ h=>h⟩
theorem Sets.lt (h:Sets tSet tE size cells cmp D w S σ) (hb:S b=some l):b<w.heap.size:=(h.at_ b l hb).lt
theorem Sets.below (h:Sets tSet tE size cells cmp D w S σ) (hw:Below w.heap.size w w'):Sets tSet tE size cells cmp D w' S σ:=
 ⟨fun b l hb=>(h.at_ b l hb).new_ hw,h.srt,h.out,h.apart,fun k hk=>Nat.lt_of_lt_of_le (h.low k hk) hw.size⟩
theorem Sets.weaken (h:Sets tSet tE size cells cmp D w S σ) (hD : ∀k,D' k→D k):Sets tSet tE size cells cmp D' w S σ:=
 ⟨h.at_,h.srt,fun b l hb=>⟨fun hk=>(h.out b l hb).1 (hD _ hk),fun hs=>((h.out b l hb).2 hs).mono (fun _ hk hd=>hk (hD _ hd))⟩,h.apart,fun k hk=>h.low k (hD k hk)⟩
theorem Sets.add (h:Sets tSet tE size cells cmp D w S σ) {k:Nat} {sn':Bool} {A':Option Addr} {c':Nat} (hk:w.heap.size≤k) (h1:SetAt tSet tE size cells w' k sn' A' c' l') (hs:Srt cmp l')
 (hA:AIn A' (w.heap.size≤·)∨(sn'=true∧∃b l,S b=some l∧(σ b).sn=true∧(σ b).A=A')) (hF:Below w.heap.size w w'):Sets tSet tE size cells cmp D w' (upd S k (some l')) (upd σ k ⟨sn',A',c'⟩):=by
 have hnk : ∀b l,S b=some l→b≠k:=fun b l hb e=>by have:=h.lt hb;omega
 refine ⟨fun b m hb=>?_,fun b m hb=>?_,fun b m hb=>?_,fun b m b' m' hb hb' hkk hsk a a' ha ha'=>?_,fun k hk=>Nat.lt_of_lt_of_le (h.low k hk) hF.size⟩
 · by_cases e:b=k
   · subst e;rw [upd_same] at hb ⊢;cases hb;exact h1
   · rw [upd_ne _ _ e] at hb ⊢;exact (h.at_ b m hb).new_ hF
 · by_cases e:b=k
   · subst e;rw [upd_same] at hb;cases hb;exact hs
   · rw [upd_ne _ _ e] at hb;exact h.srt b m hb
 · by_cases e:b=k
   · subst e;rw [upd_same] at hb ⊢;cases hb
     refine ⟨fun hd=>by have:=h.low _ hd;omega,fun hs2 a ha hd=>?_⟩
     have h3:=h.low _ hd
     rcases hA with hA | ⟨hA,_⟩
     · have:=hA a ha;omega
     · simp only at hs2;rw [hA] at hs2;cases hs2
   · rw [upd_ne _ _ e] at hb ⊢;exact h.out b m hb
 · by_cases e:b=k
   · subst e
     rw [upd_ne _ _ (Ne.symm hkk)] at hb' ha'
     rw [upd_same] at hsk ha
     simp only at hsk ha
     have h3:=(h.at_ b' m' hb').row_lt a' ha'
     rcases hA with hA | ⟨hA,_⟩
     · have:=hA a ha;omega
     · rw [hA] at hsk;cases hsk
   · rw [upd_ne _ _ e] at hb hsk ha
     have h3:=(h.at_ b m hb).row_lt a ha
     by_cases e2:b'=k
     · subst e2
       rw [upd_same] at ha'
       simp only at ha'
       rcases hA with hA | ⟨_,b2,l2,hb2,hs2,hA⟩
       · have:=hA a' ha';omega
       · by_cases e3:b=b2
         · subst e3;rw [hsk] at hs2;cases hs2
         · exact h.apart b m b2 l2 hb hb2 e3 hsk a a' ha (hA.trans ha')
     · rw [upd_ne _ _ e2] at hb' ha'
       exact h.apart b m b' m' hb hb' hkk hsk a a' ha ha'
end
end Go.Proofs.Ytffemfglngikbaa
namespace Go.Proofs.Ytffemfglngikbaa
open Go.RowKit
structure PgW where
 kk:ByteArray
 v:ByteArray
 deriving DecidableEq
def PgW.cells (x:PgW):List Value:=[.string x.kk,.string x.v]
theorem PgW.cells_length (x:PgW):x.cells.length=2:=rfl
def cmpPgW (a b:PgW):Int:=cmpStr a.kk b.kk
theorem tc_pgw:TC cmpPgW:=⟨fun _=>tc_str.refl _,fun _ _=>tc_str.symm _ _,fun _ _ _=>tc_str.trans _ _ _⟩
theorem cmpPgW_eq {a b:PgW}:cmpPgW a b=0↔a.kk=b.kk:=cmpStr_eq
set_option maxHeartbeats 400000 in
theorem cmp_word (a b:ByteArray) (w:World):Calls Try.prog 133 #[.string a,.string b] w fun e w'=>e = .returned (.int .i64 (cmpStr a b))∧w=w':=by
 go_enter Try.func133,Try.ntmps133
 go_wp2
 all_goals (go_ret;refine ⟨?_,rfl⟩;unfold cmpStr;simp_all)
theorem nilAhead_word (k : ByteArray) (w : World) : (nilAhead 260 83 (.string k) "Compare").run Try.prog w = .ok (some false) w := by kernel_rfl
theorem method_word (k : ByteArray) (w : World) : (method 260 83 (.string k) "Compare").run Try.prog w = .ok (133, .string k) w := by kernel_rfl
set_option maxHeartbeats 1000000 in
theorem cmp_pgw (a b:PgW) (w:World):Calls Try.prog 134 #[.agg #[.string a.kk,.string a.v],.agg #[.string b.kk,.string b.v]] w fun e w'=>e = .returned (.int .i64 (cmpPgW a b))∧Below w.heap.size w w':=by
 have N:=nilAhead_word
 have M:=method_word
 go_enter Try.func134,Try.ntmps134
 go_wp2_with fail
 refine (cmp_word a.kk b.kk _).mono ?_
 rintro e w' ⟨rfl,rfl⟩
 go_wp2_with fail
 go_ret
 exact ⟨rfl,((Below.refl _ _).alloc (Nat.le_refl _) _).alloc (by simp) _⟩
end Go.Proofs.Ytffemfglngikbaa
namespace Go.Proofs.Ytffemfglngikbaa
open Go.RowKit
abbrev PgWSet:=SetAt (α:=PgW) 121 104 2 PgW.cells
theorem nilAhead_PgW (k0 : ByteArray) (k1 : ByteArray) (w : World) : (nilAhead 260 104 (.agg #[.string k0, .string k1]) "Compare").run Try.prog w = .ok (some false) w := by kernel_rfl
theorem method_PgW (k0 : ByteArray) (k1 : ByteArray) (w : World) : (method 260 104 (.agg #[.string k0, .string k1]) "Compare").run Try.prog w = .ok (134, .agg #[.string k0, .string k1]) w := by kernel_rfl
def FoundPgW (l:List PgW) (x:PgW) (w:World) (e:Ending) (w':World):Prop:=
 e = .returned (.tuple #[.int .i64 (rank cmpPgW l x),.bool (has cmpPgW l x)])∧Below w.heap.size w w'
set_option maxRecDepth 100000 in
set_option maxHeartbeats 4000000 in
theorem find_PgW (b c:Nat) (sn:Bool) (A:Option Addr) (l:List PgW) (x:PgW) (w:World) (hS:PgWSet w b sn A c l) (hs:Srt cmpPgW l) (hl:(l.length:Int)≤4611686018427387904) :
 Calls Try.prog 75 #[.pointer (some ⟨b,0,none⟩),.agg #[.string x.kk,.string x.v]] w (FoundPgW l x w):=by
 have hrd:=hS.rd PgW.cells_length
 have h0:=hS.cell0
 have hb:=hS.lt
 clear hS
 have HS:=Lib.hid hs
 have HRD:=Lib.hid hrd
 clear hs hrd
 go_enter Try.func75,Try.ntmps75
 go_wp2_with fail
 go_quiet (fail)
 go_wp2_with fail
 obtain ⟨W0,hW0⟩ : ∃W0,W0=((w.alloc (Obj.cells #[Value.string x.kk,Value.string x.v] 104)).drewN nq):=⟨_,rfl⟩
 have hB0:Below w.heap.size w W0:=by rw [hW0];exact Below.drewN' ((Below.refl _ _).alloc (Nat.le_refl _) _) _
 have hx0:W0.cell? ⟨w.heap.size,0,none⟩=some (.string x.kk):=by rw [hW0];go_simp
 have hx1:W0.cell? ⟨w.heap.size,1,none⟩=some (.string x.v):=by rw [hW0];go_simp
 rw [← hW0]
 clear hW0
 have HB0:=Lib.hid hB0
 clear hB0
 go_loopw [6,7] (fun lo hi wr=>∃i j:Nat,lo = .int .i64 i∧hi = .int .i64 j∧i≤j∧j≤l.length∧(∀k,(h:k<l.length)→k<i→cmpPgW l[k] x<0)∧(∀k,(h:k<l.length)→j≤k→0<cmpPgW l[k] x)∧Below W0.heap.size W0 wr) (fun lo hi wr=>(intOf hi).toNat - (intOf lo).toNat)
 case atStart=>exact ⟨0,l.length,rfl,rfl,Nat.zero_le _,Nat.le_refl _,fun k _ h=>absurd h (by omega),fun k h h'=>absurd h (by omega),Below.refl _ _⟩
 case round=>
  obtain ⟨i,j,rfl,rfl,hij,hj,hlo,hhi,hB⟩:=hrel
  have HLO:=Lib.hid hlo
  have HHI:=Lib.hid hhi
  clear hlo hhi
  have hsz:w.heap.size<W0.heap.size:=World.block_lt_of_cell? W0 _ hx0
  by_cases hlt:i<j
  · obtain ⟨m,hm⟩ : ∃m,m=i+(j - i) / 2:=⟨_,rfl⟩
    have hml:m<l.length:=by omega
    have hmj:m<j:=by omega
    have hmi:i≤m:=by omega
    have e1:((i:Int)+((j:Int) - (i:Int)) / 2)=(m:Int):=by omega
    have E1:=Lib.hid e1
    clear e1 hm
    obtain ⟨g,off,rfl,hgs,hcell⟩:=HRD.out.at_ hml
    have low : ∀(p:Addr),p.block<w.heap.size→wr.cell? p=w.cell? p:=fun p hp=>(hB.cell (p:=p) (by omega)).trans (HB0.out.cell (p:=p) hp)
    have r0:=(low ⟨b,0,none⟩ hb).trans h0
    have q0:=(low ⟨g,off+m*2,none⟩ hgs).trans (hcell 0 _ rfl)
    have q1:=(low ⟨g,off+m*2+1,none⟩ hgs).trans (hcell 1 _ rfl)
    have y0:=(hB.cell (p:=⟨w.heap.size,0,none⟩) hsz).trans hx0
    have y1:=(hB.cell (p:=⟨w.heap.size,1,none⟩) hsz).trans hx1
    have b1:(0:Int)≤(m:Int):=by omega
    have b2:(m:Int)<(l.length:Int):=by omega
    have hsw:W0.heap.size≤wr.heap.size:=hB.size
    have N:=nilAhead_PgW
    have M:=method_PgW
    clear low hcell hx0 hx1 h0
    have HB:=Lib.hid hB
    clear hB
    obtain ⟨y,hy⟩ : ∃y,y=l[m]:=⟨_,rfl⟩
    rw [← hy] at q0 q1
    have HY:=Lib.hid hy
    clear hy
    have hbw:b<wr.heap.size:=by omega
    have hgw:g<wr.heap.size:=by omega
    have hww:w.heap.size<wr.heap.size:=by omega
    go_wp2_with fail
    rw [E1.out]
    go_region_held3 (fun w'=>w'.cell? ⟨b,0,none⟩=some (.slice (some ⟨g,off,none⟩) l.length c)∧w'.cell? ⟨g,off+m*2,none⟩=some (.string y.kk)∧w'.cell? ⟨g,off+m*2+1,none⟩=some (.string y.v)∧w'.cell? ⟨w.heap.size,0,none⟩=some (.string x.kk)∧w'.cell? ⟨w.heap.size,1,none⟩=some (.string x.v))
     (first | go_keep | (refine ⟨?_,?_,?_,?_,?_⟩<;>exact (hb1.cell (by simpa using by assumption)).trans (by simp [*])))
     ((go_at_call 134;refine (cmp_pgw y x _).mono ?_;rintro e w1 ⟨rfl,hb1⟩))
    have HB1:Below W0.heap.size W0 w1:=HB.out.drew.trans (hb1.mono hsw)
    clear r0 q0 q1 y0 y1 N M
    by_cases hc:cmpPgW y x=0
    · have HC:=Lib.hid hc
      have t1:(cmpPgW y x == 0)=true:=by simp [hc]
      clear hc
      go_wp2_with fail
      go_ret2
      have e:=HC.out
      rw [HY.out] at e
      refine ⟨?_,HB0.out.trans (HB1.mono (by omega))⟩
      rw [rank_some tc_pgw HS.out hml e,(at_some tc_pgw HS.out hml e).2.2.1]
      rfl
    · have t1:(cmpPgW y x == 0)=false:=by simp [hc]
      by_cases hc2:cmpPgW y x<0
      · have HC:=Lib.hid hc2
        have t2:decide (cmpPgW y x<0)=true:=by simpa using hc2
        clear hc hc2
        go_wp2_with fail
        go_roundw
        case rel=>
         refine ⟨m+1,j,by go_num,rfl,by omega,hj,fun k h1 h2=>?_,HHI.out,HB1⟩
         have e:=HC.out
         rw [HY.out] at e
         rcases Nat.lt_or_ge k m with h3 | h3
         · exact tc_pgw.lt_of_lt_of_le (HS.out.lt h3 hml) (by omega)
         · obtain rfl:k=m:=by omega
           exact e
        case measure=>simp [intOf];omega
      · have t2:decide (cmpPgW y x<0)=false:=by simpa using hc2
        have hc3:0<cmpPgW y x:=by omega
        have HC:=Lib.hid hc3
        clear hc hc2 hc3
        go_wp2_with fail
        go_roundw
        case rel=>
         refine ⟨i,m,rfl,rfl,by omega,by omega,HLO.out,fun k h1 h2=>?_,HB1⟩
         have e:=HC.out
         rw [HY.out] at e
         rcases Nat.lt_or_ge m k with h3 | h3
         · exact (tc_pgw.symm _ _).1 (tc_pgw.lt_trans ((tc_pgw.symm _ _).2 e) (HS.out.lt h3 h1))
         · obtain rfl:k=m:=by omega
           exact e
        case measure=>simp [intOf];omega
  · obtain rfl:i=j:=by omega
    have HB:=Lib.hid hB
    clear hB
    go_wp2_with fail
    go_ret2
    refine ⟨?_,HB0.out.trans (HB.out.mono (by omega))⟩
    rw [rank_none hj HLO.out HHI.out,(at_none HLO.out HHI.out).2.2]
    rfl
end Go.Proofs.Ytffemfglngikbaa
namespace Go.Proofs.Ytffemfglngikbaa
open Go.RowKit
theorem info_PgW:(Try.prog.info? 104).map (fun i=>(i.zero,i.size,i.bytes))=some (some (.agg #[.string ⟨#[]⟩,.string ⟨#[]⟩]),2,32):=by kernel_rfl
theorem PgW.one (x:PgW) : ∀u∈PgW.cells x,u.oneCell'=true:=by intro u hu;simp [PgW.cells] at hu;rcases hu with rfl | rfl<;>rfl
theorem PgW.oneAll (l:List PgW) : ∀u∈l.flatMap PgW.cells,u.oneCell'=true:=by intro u hu;obtain ⟨x,_,hx⟩:=List.mem_flatMap.1 hu;exact PgW.one x u hx
def OwnPostPgW (w:World) (b:Nat) (sn:Bool) (A:Option Addr) (l:List PgW) (e:Ending) (w':World):Prop:=
 e = .returned (.tuple #[])∧∃A' c',PgWSet w' b false A' c' l∧Fr (· = b) w w'∧Moved w sn A false A'
set_option maxRecDepth 100000 in
set_option maxHeartbeats 1000000 in
theorem own_no_PgW (b c:Nat) (A:Option Addr) (l:List PgW) (w:World) (hS:PgWSet w b false A c l) :
 Calls Try.prog 76 #[.pointer (some ⟨b,0,none⟩)] w (OwnPostPgW w b false A l):=by
 have h1:=hS.cell1
 have HS:=Lib.hid hS
 clear hS
 go_enter Try.func76,Try.ntmps76
 go_wp2
 go_end0
 exact ⟨rfl,A,c,HS.out,Fr.refl _ _,.inl ⟨rfl,rfl⟩⟩
set_option maxRecDepth 100000 in
set_option maxHeartbeats 1000000 in
theorem own_yes_PgW (b c:Nat) (A:Option Addr) (l:List PgW) (w:World) (hS:PgWSet w b true A c l) (hl:(l.length:Int)≤1000000000) :
 Calls Try.prog 76 #[.pointer (some ⟨b,0,none⟩)] w (OwnPostPgW w b true A l):=by
 obtain ⟨i0,hi,hz0,hz1,hz2⟩:=info_parts info_PgW
 have h0:=hS.cell0
 have h1:=hS.cell1
 have hb:=hS.lt
 have f0:=hS.blk.frozen 0
 have f1:=hS.blk.frozen 1
 have hrd:=hS.rd PgW.cells_length
 have HB:=Lib.hid hS.blk
 have HRD:=Lib.hid hrd
 clear hS hrd
 have e1:IntKind.i64.wrap ((l.length:Int)+1)=(l.length:Int)+1:=IntWalk.i64_in _ (by omega)
 have hmk : ∀W:World,(Instr.makeSlice 119 (.int .i64 0) (.int .i64 ((l.length:Int)+1))).run Try.prog W = .ok (.slice (some ⟨W.heap.size,0,none⟩) 0 (l.length+1)) (W.alloc (.cells (madeCells (Value.cells (.agg #[.string ⟨#[]⟩,.string ⟨#[]⟩])) ((l.length+1)*2)) 104)):=fun W=>by
  have h:=run_make (P:=Try.prog) W 119 104 i0 _ Try.underlying119 hi hz0 .i64 .i64 0 ((l.length:Int)+1) (by omega) (by omega) (by rw [hz2];omega) (by omega)
  rw [hz1] at h
  simpa [show ((l.length:Int)+1).toNat=l.length+1 by omega] using h
 go_enter Try.func76,Try.ntmps76
 go_wp2_with fail
 refine wp_region_E (fun w9=>Below w.heap.size w w9) [(0,0),(1,0),(2,0),(3,0),(4,1),(5,0),(6,0),(8,0),(9,0),(10,0),(11,1),(7,2),(12,2),(13,0),(14,0),(15,2)] (by kernel_rfl) (by kernel_rfl) (fun KK hKK=>?_)
 simp only [beside,List.filterMap_cons,List.filterMap_nil,List.getElem?_toArray,List.getElem?_cons_zero,List.getElem?_cons_succ,Option.map_some]
 repeat ((first | (refine wpX_w ?_ (Or.inl ⟨by rfl,fun w9=>?_⟩) ?_;rotate_left 1;go_simp;with_reducible rfl) | (refine wpX_l ?_ (((Below.refl _ _).drew)) (Or.inl ⟨by rfl,fun w9 hw9=>?_⟩) ?_;rotate_left 1;obtain ⟨hc9,hf9⟩:=bcell hw9;go_simp;with_reducible rfl) | refine wpX_w undef (Or.inr ⟨by rfl,rfl⟩) ?_ | refine wpX_l undef (((Below.refl _ _).drew)) (Or.inr ⟨by rfl,rfl⟩) ?_);go_frame)
 refine wpX_es (fun K9 hK9=>?_)
 go_simp
 refine hK9 _ _ (((Below.refl _ _).drew).alloc (Nat.le_refl _) _) ?_
 clear hK9 K9
 refine wpX_e (by kernel_rfl) (fun K9 hK9=>?_)
 refine step_append_src _ (by rfl) _ _ _ (by rfl) 104 i0 _ 2 32 Try.underlying119 hi hz0 hz1 hz2 rfl (by omega) _ 0 [] (by rfl) (World.ownsRow_made _ _ _ (Nat.zero_le _) (by unfold maxLen;omega) (by simp [madeCells])) A l.length c (l.flatMap PgW.cells) (by rfl) (flat_length PgW.cells_length l)
  ((HRD.out.drew.alloc _).news PgW.cells_length (by omega)) (PgW.oneAll l) (by unfold maxLen;omega) (by omega) ?_
 intro v2 w2 hown hgr hnil hat
 refine hK9 _ _ ?_
 clear hK9 K9
 rw [Nat.zero_add,List.nil_append] at hown
 obtain ⟨A',c',rfl,_,_,hz⟩:=own_form2 hown
 have HB1:=(HB.out.drew.alloc (.cells (madeCells (Value.cells (.agg #[.string ⟨#[]⟩,.string ⟨#[]⟩])) ((l.length+1)*2)) 104)).grown hgr (by simp [Value.ownBlock];omega)
 have c0:=(HB1.cell 0).trans rfl
 have c1:=(HB1.cell 1).trans rfl
 have z0:=HB1.frozen 0
 have z1:=HB1.frozen 1
 have HB2:=Lib.hid HB1
 clear HB1
 repeat ((first | (refine wpX_w ?_ (Or.inl ⟨by rfl,fun w9=>?_⟩) ?_;rotate_left 1;go_simp;with_reducible rfl) | (refine wpX_l ?_ (((Below.refl _ _).drew).alloc (Nat.le_refl _) _) (Or.inl ⟨by rfl,fun w9 hw9=>?_⟩) ?_;rotate_left 1;obtain ⟨hc9,hf9⟩:=bcell hw9;go_simp;with_reducible rfl) | refine wpX_w undef (Or.inr ⟨by rfl,rfl⟩) ?_ | refine wpX_l undef (((Below.refl _ _).drew).alloc (Nat.le_refl _) _) (Or.inr ⟨by rfl,rfl⟩) ?_);go_frame)
 refine wpX_e (by kernel_rfl) (fun K9 hK9=>?_)
 go_simp
 refine hK9 _ _ ?_
 clear hK9 K9
 refine wpX_nil ?_
 simp only [OnlyN_normal]
 refine hKK _ _ ?_
 clear hKK KK
 go_wp2
 go_end0
 have hb2:(Value.slice A' l.length c').ownBlock=some w.heap.size∨(Value.slice A' l.length c').ownBlock=some (w.heap.size+1):=by
  rcases hat with h | h
  · left;rw [h];rfl
  · right;rw [h];simp
 have hA : ∃g,w.heap.size≤g∧A'=some ⟨g,0,none⟩:=by
  rcases A' with _ | a
  · exfalso;simp [Value.ownBlock] at hb2
  · obtain ⟨g,rfl⟩:=hz a rfl
    refine ⟨g,?_,rfl⟩
    simp [Value.ownBlock] at hb2
    omega
 obtain ⟨g,hg,rfl⟩:=hA
 have HB1:=HB2.out
 have HF:Fr (· = b) w w2:=((Fr.refl (· = b) w).drew.alloc _).grown hgr (fun k e=>by simp [Value.ownBlock] at e;right;omega)
 refine ⟨rfl,some ⟨g,0,none⟩,c',⟨(HB1.set_ 0 _).set_ 1 _,?_⟩,(HF.setCell (p:=⟨b,0,none⟩) (.inl rfl) _).setCell (p:=⟨b,1,none⟩) (.inl rfl) _,.inr ⟨rfl,g,hg,rfl⟩⟩
 have hne:(Value.slice (some ⟨g,0,none⟩) l.length c').ownBlock≠some b:=by simp [Value.ownBlock];omega
 exact ownsRow_setCell_other (a:=⟨b,1,none⟩) (ownsRow_setCell_other (a:=⟨b,0,none⟩) hown hne _) hne _
theorem own_PgW (b c:Nat) (sn:Bool) (A:Option Addr) (l:List PgW) (w:World) (hS:PgWSet w b sn A c l) (hl:(l.length:Int)≤1000000000) :
 Calls Try.prog 76 #[.pointer (some ⟨b,0,none⟩)] w (OwnPostPgW w b sn A l):=by
 cases sn
 · exact own_no_PgW b c A l w hS
 · exact own_yes_PgW b c A l w hS hl
end Go.Proofs.Ytffemfglngikbaa
namespace Go.Proofs.Ytffemfglngikbaa
open Go.RowKit
def PutPostPgW (w:World) (b:Nat) (sn:Bool) (A:Option Addr) (l:List PgW) (x:PgW) (e:Ending) (w':World):Prop:=
 e = .returned (.bool (!has cmpPgW l x))∧∃sn' A' c',PgWSet w' b sn' A' c' (put cmpPgW l x)∧Fr (SetMod b sn A) w w'∧Moved w sn A sn' A'
set_option maxRecDepth 100000 in
set_option maxHeartbeats 1000000 in
theorem put_there_PgW (b c:Nat) (sn:Bool) (A:Option Addr) (l:List PgW) (x:PgW) (w:World) (hS:PgWSet w b sn A c l) (hs:Srt cmpPgW l) (hl:(l.length:Int)≤100000000) (hh:has cmpPgW l x=true) :
 Calls Try.prog 64 #[.pointer (some ⟨b,0,none⟩),.agg #[.string x.kk,.string x.v]] w (PutPostPgW w b sn A l x):=by
 have HS:=Lib.hid hS
 have HO:=Lib.hid hs
 clear hS hs
 go_enter Try.func64,Try.ntmps64
 go_wp2_with fail
 refine (find_PgW b c sn A l x _ (HS.out.new_ ((Below.refl _ _).alloc (Nat.le_refl _) _)) HO.out (by omega)).mono ?_
 rintro e w1 ⟨rfl,hb1⟩
 go_wp2_with fail
 go_ret
 refine ⟨by rw [hh];rfl,sn,A,c,?_,Fr.of_new (((Below.refl _ _).alloc (Nat.le_refl _) _).trans (hb1.mono (by simp))),.inl ⟨rfl,rfl⟩⟩
 rw [put_has hh]
 exact HS.out.new_ (((Below.refl _ _).alloc (Nat.le_refl _) _).trans (hb1.mono (by simp)))
set_option maxRecDepth 100000 in
set_option maxHeartbeats 4000000 in
theorem put_new_PgW (b c:Nat) (sn:Bool) (A:Option Addr) (l:List PgW) (x:PgW) (w:World) (hS:PgWSet w b sn A c l) (hs:Srt cmpPgW l) (hl:(l.length:Int)≤100000000) (hh:has cmpPgW l x=false) :
 Calls Try.prog 64 #[.pointer (some ⟨b,0,none⟩),.agg #[.string x.kk,.string x.v]] w (PutPostPgW w b sn A l x):=by
 obtain ⟨i0,hi,hz0,hz1,hz2⟩:=info_parts info_PgW
 have HS:=Lib.hid hS
 have HO:=Lib.hid hs
 have hb:=hS.lt
 clear hS hs
 have hrk:=rank_le (cmp:=cmpPgW) l x
 go_enter Try.func64,Try.ntmps64
 go_wp2_with fail
 have hSa:=HS.out.new_ ((Below.refl w.heap.size w).alloc (Nat.le_refl _) (.cells #[Value.string x.kk,Value.string x.v] 104))
 have HSa:=Lib.hid hSa
 clear hSa
 refine (find_PgW b c sn A l x _ HSa.out HO.out (by omega)).mono ?_
 rintro e w1 ⟨rfl,hb1⟩
 have HS1:=Lib.hid (HSa.out.new_ hb1)
 have hsz1:w.heap.size+1≤w1.heap.size:=by have:=hb1.size;(try simp at this);omega
 have y0:=(hb1.cell (p:=⟨w.heap.size,0,none⟩) (by simp)).trans ((Blk.new w 104 #[Value.string x.kk,Value.string x.v]).cell 0)
 have y1:=(hb1.cell (p:=⟨w.heap.size,1,none⟩) (by simp)).trans ((Blk.new w 104 #[Value.string x.kk,Value.string x.v]).cell 1)
 have HB1:=Lib.hid hb1
 clear hb1
 go_wp2_with fail
 refine (own_PgW b c sn A l _ HS1.out (by omega)).mono ?_
 rintro e w2 ⟨rfl,A1,c1,hS2,hF2,hM2⟩
 have hsz2:w1.heap.size≤w2.heap.size:=hF2.size
 have x0:w2.cell? ⟨w.heap.size,0,none⟩=some (.string x.kk):=(hF2.cell (p:=⟨w.heap.size,0,none⟩) (by dsimp only;omega) (by dsimp only;omega)).trans y0
 have x1:w2.cell? ⟨w.heap.size,1,none⟩=some (.string x.v):=(hF2.cell (p:=⟨w.heap.size,1,none⟩) (by dsimp only;omega) (by dsimp only;omega)).trans y1
 have s0:=hS2.cell0
 have f0:=hS2.blk.frozen 0
 have hb2:b<w2.heap.size:=by omega
 have hk2:w.heap.size<w2.heap.size:=by omega
 have HS2:=Lib.hid hS2
 have HF2:=Lib.hid hF2
 have HM2:=Lib.hid hM2
 clear hS2 hF2 hM2 y0 y1
 go_wp2_with fail
 refine wp_region_E (fun w9=>Below w2.heap.size w2 w9) [(0,0),(1,0),(2,0),(3,0),(4,1),(5,1),(6,2),(7,2),(8,0),(9,0),(10,2)] (by kernel_rfl) (by kernel_rfl) (fun KK hKK=>?_)
 simp only [beside,List.filterMap_cons,List.filterMap_nil,List.getElem?_toArray,List.getElem?_cons_zero,List.getElem?_cons_succ,Option.map_some]
 repeat ((first | (refine wpX_w ?_ (Or.inl ⟨by rfl,fun w9=>?_⟩) ?_;rotate_left 1;go_simp;with_reducible rfl) | (refine wpX_l ?_ (((Below.refl _ _).drew)) (Or.inl ⟨by rfl,fun w9 hw9=>?_⟩) ?_;rotate_left 1;obtain ⟨hc9,hf9⟩:=bcell hw9;go_simp;with_reducible rfl) | refine wpX_w undef (Or.inr ⟨by rfl,rfl⟩) ?_ | refine wpX_l undef (((Below.refl _ _).drew)) (Or.inr ⟨by rfl,rfl⟩) ?_);go_frame)
 refine wpX_es (fun K9 hK9=>?_)
 go_simp
 refine hK9 _ _ (((Below.refl _ _).drew).alloc (Nat.le_refl _) _) ?_
 clear hK9 K9
 refine wpX_e (by kernel_rfl) (fun K9 hK9=>?_)
 refine step_append_src _ (by rfl) _ _ _ (by rfl) 104 i0 _ 2 32 Try.underlying119 hi hz0 hz1 hz2 rfl (by omega) _ l.length (l.flatMap PgW.cells) (by rfl) (ownsRow_new HS2.out.row (((Below.refl _ _).drew).alloc (Nat.le_refl _) _)) (some ⟨w2.heap.size,0,none⟩) 1 1 (PgW.cells x) (by rfl) (by rfl)
  (fun _=>⟨_,rfl,World.news_of_block (heap_alloc_new _ _)⟩) (PgW.one x) (by unfold maxLen;omega) (by omega) ?_
 intro v2 w3 hown hgr hnil hat
 refine hK9 _ _ ?_
 clear hK9 K9
 obtain ⟨g,c2,rfl⟩ : ∃g c2,v2 = .slice (some ⟨g,0,none⟩) (l.length+1) c2:=by
  rcases ownsRow_form hown with ⟨_,h0,_⟩ | ⟨g,c2,h,_⟩
  · omega
  · exact ⟨g,c2,h⟩
 have HXN:(Value.slice A1 l.length c1).ownBlock≠some w.heap.size:=by
  intro h
  rcases HM2.out with ⟨hsn,hA⟩ | ⟨_,g2,hg2,hA⟩
  · rcases A1 with _ | a1
    · cases h
    · have h1:=HS.out.row_lt _ hA.symm
      simp only [Value.ownBlock,Option.some.injEq] at h
      omega
  · subst hA
    simp only [Value.ownBlock,Option.some.injEq] at h
    omega
 have HB3':=(HS2.out.blk.drew.alloc (.cells #[Value.string x.kk,Value.string x.v] 104)).grown hgr (own_blk_ne HS2.out.row HS2.out.blk (by decide))
 have c0:=(HB3'.cell 0).trans rfl
 have z0:=HB3'.frozen 0
 have HB3:=Lib.hid HB3'
 have HOWN:=Lib.hid hown
 have HGR:=Lib.hid hgr
 clear HB3' hown hgr
 repeat ((first | (refine wpX_w ?_ (Or.inl ⟨by rfl,fun w9=>?_⟩) ?_;rotate_left 1;go_simp;with_reducible rfl) | (refine wpX_l ?_ (((Below.refl _ _).drew).alloc (Nat.le_refl _) _) (Or.inl ⟨by rfl,fun w9 hw9=>?_⟩) ?_;rotate_left 1;obtain ⟨hc9,hf9⟩:=bcell hw9;go_simp;with_reducible rfl) | refine wpX_w undef (Or.inr ⟨by rfl,rfl⟩) ?_ | refine wpX_l undef (((Below.refl _ _).drew).alloc (Nat.le_refl _) _) (Or.inr ⟨by rfl,rfl⟩) ?_);go_frame)
 refine wpX_e (by kernel_rfl) (fun K9 hK9=>?_)
 go_simp
 refine hK9 _ _ ?_
 clear hK9 K9
 refine wpX_nil ?_
 simp only [OnlyN_normal]
 refine hKK _ _ ?_
 clear hKK KK
 have hlg:((l.length+1:Nat):Int)=(l.length:Int)+1:=by omega
 have hG:(SetMod b sn A g∨w.heap.size≤g)∧Moved w sn A false (some ⟨g,0,none⟩)∧g≠w.heap.size∧g≠b:=by
  rcases hat with h | h
  · rcases A1 with _ | a1
    · simp [Value.ownBlock] at h
    · obtain ⟨A',c',hv,_,_,hz⟩:=own_form2 HS2.out.row
      injection hv with hv _ _
      obtain ⟨g',rfl⟩:=hz a1 hv.symm
      have hgg:g'=g:=by simpa [Value.ownBlock] using h.symm
      subst hgg
      have hne:g'≠b:=HS2.out.row_ne (by decide) _ rfl
      rcases HM2.out with ⟨hsn,hA⟩ | ⟨_,g2,hg2,hA⟩
      · have h1:=HS.out.row_lt _ hA.symm
        exact ⟨.inl (.inr ⟨hsn.symm,_,hA.symm,rfl⟩),.inl ⟨hsn,hA⟩,by dsimp only at h1;omega,hne⟩
      · injection hA with hA
        injection hA with hA
        subst hA
        exact ⟨.inr (by omega),.inr ⟨rfl,_,by omega,rfl⟩,by omega,hne⟩
  · have hgg:g=w2.heap.size+1:=by simpa [Value.ownBlock] using h
    subst hgg
    exact ⟨.inr (by omega),.inr ⟨rfl,_,by omega,rfl⟩,by omega,by omega⟩
 obtain ⟨hgM,hgMv,hgk1,hgb⟩:=hG
 obtain ⟨w4,hw4⟩ : ∃w4,w4=w3.setCell ⟨b,0,none⟩ (.slice (some ⟨g,0,none⟩) (l.length+1) c2):=⟨_,rfl⟩
 have hB4:Blk w4 b 121 #[.slice (some ⟨g,0,none⟩) (l.length+1) c2,.bool false]:=by rw [hw4];exact HB3.out.set_ 0 _
 have hR4:w4.ownsRow 0 104 2 (.slice (some ⟨g,0,none⟩) (l.length+1) c2) (l.length+1) ((shiftAt l x l.length).flatMap PgW.cells):=by
  rw [hw4,shiftAt_start]
  refine ownsRow_setCell_other (a:=⟨b,0,none⟩) ?_ (by simpa [Value.ownBlock] using hgb) _
  rw [List.flatMap_append,List.flatMap_singleton]
  exact HOWN.out
 have hF4:Fr (SetMod b sn A) w w4:=by
  rw [hw4]
  have h1:Fr (SetMod b sn A) w w1:=Fr.of_new (((Below.refl _ _).alloc (Nat.le_refl _) _).trans (HB1.out.mono (by simp)))
  have h2:Fr (SetMod b sn A) w w2:=h1.trans (HF2.out.mono (fun k _ h=>.inl h))
  refine ((h2.drew.alloc _).grown HGR.out (fun k hk=>?_)).setCell (p:=⟨b,0,none⟩) (.inl (.inl rfl)) _
  rcases A1 with _ | a1
  · cases hk
  · simp only [Value.ownBlock,Option.some.injEq] at hk
    subst hk
    rcases HM2.out with ⟨hsn,hA⟩ | ⟨_,g',hg',hA⟩
    · left;right;exact ⟨hsn.symm,a1,hA.symm,rfl⟩
    · injection hA with hA
      subst hA
      right;dsimp only;omega
 have z0:w4.cell? ⟨w.heap.size,0,none⟩=some (.string x.kk):=by
  rw [hw4,World.cell?_setCell_other _ _ _ _ (by intro h;injection h;omega)]
  refine HGR.out.cell ((World.cell?_alloc_lt w2.drew _ ⟨w.heap.size,0,none⟩ hk2).trans x0) ?_
  intro h
  exact HXN (by simpa using h.symm)
 have z1:w4.cell? ⟨w.heap.size,1,none⟩=some (.string x.v):=by
  rw [hw4,World.cell?_setCell_other _ _ _ _ (by intro h;injection h;omega)]
  refine HGR.out.cell ((World.cell?_alloc_lt w2.drew _ ⟨w.heap.size,1,none⟩ hk2).trans x1) ?_
  intro h
  exact HXN (by simpa using h.symm)
 have hk4:w.heap.size<w4.heap.size:=by rw [hw4];have:=HGR.out.size;simp at this ⊢;omega
 rw [← hw4]
 have HgM:=Lib.hid hgM
 have HgMv:=Lib.hid hgMv
 have HB4:=Lib.hid hB4
 have HR4:=Lib.hid hR4
 have HF4:=Lib.hid hF4
 have s4:=hB4.cell 0
 have s4':w4.cell? ⟨b,0,none⟩=some (.slice (some ⟨g,0,none⟩) (l.length+1) c2):=s4
 clear s4 hw4 hB4 hR4 hF4 hat hgM hgMv hnil x0 x1 s0 f0
 go_wp2_with fail
 go_loopw [7] (fun s wr=>∃i:Nat,s = .int .i64 i∧rank cmpPgW l x≤i∧i≤l.length∧wr.ownsRow 0 104 2 (.slice (some ⟨g,0,none⟩) (l.length+1) c2) (l.length+1) ((shiftAt l x i).flatMap PgW.cells)∧Fr (· = g) w4 wr) (fun s wr=>(intOf s).toNat)
 case atStart=>exact ⟨l.length,by go_num,hrk,Nat.le_refl _,HR4.out,Fr.refl _ _⟩
 case round=>
  obtain ⟨i,rfl,hi1,hi2,hown,hfr⟩:=hrel
  have hgw:g<wr.heap.size:=(hown.lt g rfl).2
  have r0:wr.cell? ⟨b,0,none⟩=some (.slice (some ⟨g,0,none⟩) (l.length+1) c2):=(hfr.cell (p:=⟨b,0,none⟩) HB4.out.lt (fun h=>hgb h.symm)).trans s4'
  have fz : ∀o,wr.frozen? ⟨g,o,none⟩=false:=fun o=>hown.frozenAt o
  have HOW:=Lib.hid hown
  have HFR:=Lib.hid hfr
  clear hown hfr
  by_cases hlt:rank cmpPgW l x<i
  · obtain ⟨j,rfl⟩ : ∃j,i=j+1:=⟨i - 1,by omega⟩
    have hj:j<l.length:=by omega
    have hrd:=ownsRow_rd (A:=some ⟨g,0,none⟩) (c:=c2) (l:=shiftAt l x (j+1)) PgW.cells_length (by rw [shiftAt_length l x hi2];exact HOW.out)
    obtain ⟨g',o',hgo,_,hcell⟩:=hrd.at_ (k:=j) (by rw [shiftAt_length l x hi2];omega)
    injection hgo with hgo
    injection hgo with hg1 hg2
    subst hg1;subst hg2
    rw [shiftAt_read l x hj] at hcell
    have q0:wr.cell? ⟨g,j*2,none⟩=some (.string l[j].kk):=by simpa using hcell 0 _ rfl
    have q1:wr.cell? ⟨g,j*2+1,none⟩=some (.string l[j].v):=by simpa using hcell 1 _ rfl
    have rmj:Room wr g 104 (c2*2)∧l.length+1≤c2:=by
     rcases ownsRow_form HOW.out with ⟨hv,_⟩ | ⟨g',cap,hv,hn,_,hr,_⟩
     · cases hv
     · injection hv with hA _ hc
       injection hA with hA
       injection hA with hA
       subst hA;subst hc
       exact ⟨hr,hn⟩
    obtain ⟨hrm,hcap⟩:=rmj
    obtain ⟨u0,t0⟩:=hrm.cell (i:=(j+1)*2) (by omega)
    obtain ⟨u1,t1⟩:=hrm.cell (i:=(j+1)*2+1) (by omega)
    have b0:(0:Int)≤(j:Int)+1:=by omega
    have b1:(0:Int)≤(j:Int):=by omega
    have b4:(j:Int)<(l.length:Int):=by omega
    have b2:(j:Int)<(l.length:Int)+1:=by omega
    have b3:(j:Int)+1<(l.length:Int)+1:=by omega
    have w1:IntKind.i64.wrap ((j:Int))=(j:Int):=IntWalk.i64_in _ (by omega)
    have w2:IntKind.i64.wrap ((j:Int)+1 - 1)=(j:Int):=by rw [IntWalk.i64_in _ (by omega)];omega
    clear hcell hrd hrm
    obtain ⟨y,hy⟩ : ∃y,y=l[j]:=⟨_,rfl⟩
    rw [← hy] at q0 q1
    have HY:=Lib.hid hy
    have hbw:b<wr.heap.size:=World.block_lt_of_cell? wr _ r0
    clear hy
    go_wp2_with fail
    refine wp_region_E (fun w9=>Below wr.heap.size wr w9) [(0,0),(1,0),(2,0),(3,1),(4,0),(5,0),(6,0),(7,0),(8,1),(9,0),(10,0),(11,0),(12,1),(13,0),(14,2)] (by kernel_rfl) (by kernel_rfl) (fun KK hKK=>?_)
    simp only [beside,List.filterMap_cons,List.filterMap_nil,List.getElem?_toArray,List.getElem?_cons_zero,List.getElem?_cons_succ,Option.map_some]
    repeat ((first | (refine wpX_w ?_ (Or.inl ⟨by rfl,fun w9=>?_⟩) ?_;rotate_left 1;go_simp;with_reducible rfl) | (refine wpX_l ?_ (((Below.refl _ _).drew)) (Or.inl ⟨by rfl,fun w9 hw9=>?_⟩) ?_;rotate_left 1;obtain ⟨hc9,hf9⟩:=bcell hw9;go_simp;with_reducible rfl) | refine wpX_w undef (Or.inr ⟨by rfl,rfl⟩) ?_ | refine wpX_l undef (((Below.refl _ _).drew)) (Or.inr ⟨by rfl,rfl⟩) ?_);go_frame)
    refine wpX_e (by kernel_rfl) (fun K9 hK9=>?_)
    go_simp
    refine hK9 _ _ ?_
    clear hK9 K9
    refine wpX_nil ?_
    simp only [OnlyN_normal]
    refine hKK _ _ ?_
    clear hKK KK
    go_wp2_with fail
    go_roundw
    case rel=>
     refine ⟨j,by go_num,by omega,by omega,?_,Fr.drew (((HFR.out).setCell (p:=⟨g,(j+1)*2,none⟩) (.inl rfl) (_)).setCell (p:=⟨g,(j+1)*2+1,none⟩) (.inl rfl) (_))⟩
     have hst:=((((HOW.out).stored ((j+1)*2) (.string y.kk)).1).stored ((j+1)*2+1) (.string y.v)).1
     have he:setAll ((shiftAt l x (j+1)).flatMap PgW.cells) ((j+1)*2) (PgW.cells y)=(shiftAt l x j).flatMap PgW.cells:=by
      rw [flat_set PgW.cells_length (by omega) _ (j+1) (by rw [shiftAt_length l x hi2];omega),HY.out,shiftAt_step l x hj]
     rw [← he]
     exact hst
    case measure=>simp [intOf]<;>omega
  · obtain rfl:i=rank cmpPgW l x:=by omega
    have rmj:Room wr g 104 (c2*2)∧l.length+1≤c2:=by
     rcases ownsRow_form HOW.out with ⟨hv,_⟩ | ⟨g',cap,hv,hn,_,hr,_⟩
     · cases hv
     · injection hv with hA _ hc
       injection hA with hA
       injection hA with hA
       subst hA;subst hc
       exact ⟨hr,hn⟩
    obtain ⟨hrm,hcap⟩:=rmj
    obtain ⟨k,hk⟩ : ∃k,k=rank cmpPgW l x:=⟨_,rfl⟩
    rw [← hk] at hi2 hlt ⊢
    obtain ⟨u0,t0⟩:=hrm.cell (i:=k*2) (by omega)
    obtain ⟨u1,t1⟩:=hrm.cell (i:=k*2+1) (by omega)
    have x0:=(HFR.out.cell (p:=⟨w.heap.size,0,none⟩) hk4 (fun h=>hgk1 h.symm)).trans z0
    have x1:=(HFR.out.cell (p:=⟨w.heap.size,1,none⟩) hk4 (fun h=>hgk1 h.symm)).trans z1
    have b1:(0:Int)≤(k:Int):=by omega
    have b2:(k:Int)<(l.length:Int)+1:=by omega
    have HK:=Lib.hid hk
    have hkw:w.heap.size<wr.heap.size:=by have:=HFR.out.size;omega
    have hbw:b<wr.heap.size:=World.block_lt_of_cell? wr _ r0
    clear hrm hk z0 z1
    go_wp2_with fail
    refine wp_region_E (fun w9=>Below wr.heap.size wr w9) [(0,0),(1,0),(2,0),(3,1),(4,0),(5,1),(6,0),(7,2)] (by kernel_rfl) (by kernel_rfl) (fun KK hKK=>?_)
    simp only [beside,List.filterMap_cons,List.filterMap_nil,List.getElem?_toArray,List.getElem?_cons_zero,List.getElem?_cons_succ,Option.map_some]
    repeat ((first | (refine wpX_w ?_ (Or.inl ⟨by rfl,fun w9=>?_⟩) ?_;rotate_left 1;go_simp;with_reducible rfl) | (refine wpX_l ?_ (((Below.refl _ _).drew)) (Or.inl ⟨by rfl,fun w9 hw9=>?_⟩) ?_;rotate_left 1;obtain ⟨hc9,hf9⟩:=bcell hw9;go_simp;with_reducible rfl) | refine wpX_w undef (Or.inr ⟨by rfl,rfl⟩) ?_ | refine wpX_l undef (((Below.refl _ _).drew)) (Or.inr ⟨by rfl,rfl⟩) ?_);go_frame)
    refine wpX_e (by kernel_rfl) (fun K9 hK9=>?_)
    go_simp
    refine hK9 _ _ ?_
    clear hK9 K9
    refine wpX_nil ?_
    simp only [OnlyN_normal]
    refine hKK _ _ ?_
    clear hKK KK
    go_wp2_with fail
    go_ret
    have HOWk:=HOW.out
    rw [← HK.out] at HOWk
    have hst:=((((HOWk).stored (k*2) (.string x.kk)).1).stored (k*2+1) (.string x.v)).1
    have he:setAll ((shiftAt l x k).flatMap PgW.cells) (k*2) (PgW.cells x)=(put cmpPgW l x).flatMap PgW.cells:=by
     rw [flat_set PgW.cells_length (by omega) _ k (by rw [shiftAt_length l x hi2];omega),shiftAt_end l x hi2,put_eq tc_pgw HO.out hh,HK.out]
    have hln:=length_put tc_pgw HO.out hh
    refine ⟨by rw [hh];rfl,false,some ⟨g,0,none⟩,c2,⟨?_,?_⟩,?_,?_⟩
    · rw [hln]
      exact ((HB4.out.fr HFR.out (fun h=>hgb h.symm)).far (p:=⟨g,k*2,none⟩) (fun h=>hgb h.symm) _).far (p:=⟨g,k*2+1,none⟩) (fun h=>hgb h.symm) _
    · rw [hln,← he]
      exact hst
    · exact HF4.out.into (Fr.drew (((HFR.out).setCell (p:=⟨g,k*2,none⟩) (.inl rfl) (_)).setCell (p:=⟨g,k*2+1,none⟩) (.inl rfl) (_))) (fun k hk=>by subst hk;exact HgM.out)
    · exact HgMv.out
theorem put_PgW (b c:Nat) (sn:Bool) (A:Option Addr) (l:List PgW) (x:PgW) (w:World) (hS:PgWSet w b sn A c l) (hs:Srt cmpPgW l) (hl:(l.length:Int)≤100000000) :
 Calls Try.prog 64 #[.pointer (some ⟨b,0,none⟩),.agg #[.string x.kk,.string x.v]] w (PutPostPgW w b sn A l x):=by
 cases hh:has cmpPgW l x
 · exact put_new_PgW b c sn A l x w hS hs hl hh
 · exact put_there_PgW b c sn A l x w hS hs hl hh
end Go.Proofs.Ytffemfglngikbaa
namespace Go.Proofs.Ytffemfglngikbaa
open Go.RowKit
set_option maxHeartbeats 400000 in
theorem len_PgW (b c:Nat) (sn:Bool) (A:Option Addr) (l:List PgW) (w:World) (hS:PgWSet w b sn A c l) :
 Calls Try.prog 66 #[.pointer (some ⟨b,0,none⟩)] w fun e w'=>e = .returned (.int .i64 l.length)∧w=w':=by
 have s0:=hS.cell0
 clear hS
 go_enter Try.func66,Try.ntmps66
 go_wp2
 go_ret
 exact ⟨rfl,rfl⟩
set_option maxRecDepth 100000 in
set_option maxHeartbeats 1000000 in
theorem get_no_PgW (b c:Nat) (sn:Bool) (A:Option Addr) (l:List PgW) (x:PgW) (w:World) (hS:PgWSet w b sn A c l) (hs:Srt cmpPgW l) (hl:(l.length:Int)≤1000000000) (hh:has cmpPgW l x=false) :
 Calls Try.prog 62 #[.pointer (some ⟨b,0,none⟩),.agg #[.string x.kk,.string x.v]] w fun e w'=>e = .returned (.tuple #[.agg #[.string ⟨#[]⟩,.string ⟨#[]⟩],.bool false])∧Below w.heap.size w w':=by
 have HS:=Lib.hid hS
 have HO:=Lib.hid hs
 clear hS hs
 go_enter Try.func62,Try.ntmps62
 go_wp2_with fail
 refine (find_PgW b c sn A l x _ (HS.out.new_ ((((Below.refl _ _).alloc (Nat.le_refl _) _).alloc (by simp) _).alloc (by simp;omega) _)) HO.out (by omega)).mono ?_
 rintro e w1 ⟨rfl,hb1⟩
 obtain ⟨hc1,hf1⟩:=bcell hb1
 have hz1:w.heap.size+2<w1.heap.size:=by have:=hb1.size;simp at this;omega
 have HB:=Lib.hid ((((((Below.refl w.heap.size w).alloc (Nat.le_refl _) _).alloc (by simp) _).alloc (by simp;omega) _)).trans (hb1.mono (by simp;omega)))
 clear hb1
 go_wp2_with fail
 exact bodyPost_ret (v:=.tuple #[.agg #[.string ⟨#[]⟩,.string ⟨#[]⟩],.bool false]) (by simp [results,Try.results62,go_sem,hc1]) rfl ⟨rfl,by (repeat (first | exact Below.refl _ _ | exact HB.out | refine Below.drew ?_ | refine Below.al ?_ _ | refine Below.sc ?_ _))⟩
set_option maxRecDepth 100000 in
set_option maxHeartbeats 1000000 in
theorem get_is_PgW (b c:Nat) (sn:Bool) (A:Option Addr) (l:List PgW) (x y:PgW) (w:World) (hS:PgWSet w b sn A c l) (hs:Srt cmpPgW l) (hl:(l.length:Int)≤1000000000) (hh:has cmpPgW l x=true) (hy:l[rank cmpPgW l x]? = some y) :
 Calls Try.prog 62 #[.pointer (some ⟨b,0,none⟩),.agg #[.string x.kk,.string x.v]] w fun e w'=>e = .returned (.tuple #[.agg #[.string y.kk,.string y.v],.bool true])∧Below w.heap.size w w':=by
 have HS:=Lib.hid hS
 have HO:=Lib.hid hs
 obtain ⟨hrk,hye⟩:=List.getElem?_eq_some_iff.1 hy
 have hrd:=hS.rd PgW.cells_length
 have s0:=hS.cell0
 have hb:=hS.lt
 clear hS hs hy
 obtain ⟨g,off,rfl,hgs,hcell⟩:=hrd.at_ hrk
 rw [hye] at hcell
 obtain ⟨k,hk⟩ : ∃k,k=rank cmpPgW l x:=⟨_,rfl⟩
 rw [← hk] at hcell hrk
 have q0:w.cell? ⟨g,off+k*2,none⟩=some (.string y.kk):=by simpa using hcell 0 _ rfl
 have q1:w.cell? ⟨g,off+k*2+1,none⟩=some (.string y.v):=by simpa using hcell 1 _ rfl
 have b1:(0:Int)≤(k:Int):=by omega
 have b2:(k:Int)<(l.length:Int):=by omega
 have HK:=Lib.hid hk
 clear hcell hrd hye hk
 go_enter Try.func62,Try.ntmps62
 go_wp2_with fail
 refine (find_PgW b c sn _ l x _ (HS.out.new_ ((((Below.refl _ _).alloc (Nat.le_refl _) _).alloc (by simp) _).alloc (by simp;omega) _)) HO.out (by omega)).mono ?_
 rintro e w1 ⟨rfl,hb1⟩
 rw [← HK.out]
 obtain ⟨hc1,hf1⟩:=bcell hb1
 have hz1:w.heap.size+2<w1.heap.size:=by have:=hb1.size;simp at this;omega
 have HB:=Lib.hid ((((((Below.refl w.heap.size w).alloc (Nat.le_refl _) _).alloc (by simp) _).alloc (by simp;omega) _)).trans (hb1.mono (by simp;omega)))
 clear hb1
 have r0:=(HB.out.cell (p:=⟨b,0,none⟩) hb).trans s0
 have r1:=(HB.out.cell (p:=⟨g,off+k*2,none⟩) hgs).trans q0
 have r2:=(HB.out.cell (p:=⟨g,off+k*2+1,none⟩) hgs).trans q1
 clear s0 q0 q1
 go_wp2_with fail
 exact bodyPost_ret (v:=.tuple #[.agg #[.string y.kk,.string y.v],.bool true]) (by simp [results,Try.results62,go_sem,hc1]) rfl ⟨rfl,by (repeat (first | exact Below.refl _ _ | exact HB.out | refine Below.drew ?_ | refine Below.al ?_ _ | refine Below.sc ?_ _))⟩
end Go.Proofs.Ytffemfglngikbaa
namespace Go.Proofs.Ytffemfglngikbaa
open Go.RowKit
def NewPostPgW (w:World) (xs:List PgW) (e:Ending) (w':World):Prop:=
 ∃k,e = .returned (.pointer (some ⟨k,0,none⟩))∧w.heap.size≤k∧∃sn A c,PgWSet w' k sn A c (puts cmpPgW [] xs)∧AIn A (w.heap.size≤·)∧Below w.heap.size w w'
set_option maxRecDepth 100000 in
set_option maxHeartbeats 2000000 in
theorem new_PgW (A:Option Addr) (c:Nat) (xs:List PgW) (w:World) (hrd:RowRd w 2 PgW.cells A c xs) (hl:(xs.length:Int)≤10000000) :
 Calls Try.prog 61 #[.slice A xs.length c] w (NewPostPgW w xs):=by
 have HRD:=Lib.hid hrd
 clear hrd
 go_enter Try.func61,Try.ntmps61
 go_wp2_with fail
 obtain ⟨W0,hW0⟩ : ∃W0,W0=w.alloc (.cells #[.slice none 0 0,.bool false] 121):=⟨_,rfl⟩
 have hb0:Below w.heap.size w W0:=by rw [hW0];exact (Below.refl _ _).alloc (Nat.le_refl _) _
 have hS0:PgWSet W0 w.heap.size false none 0 []:=⟨by rw [hW0];exact Blk.new _ _ _,⟨by simp,.inl ⟨rfl,rfl⟩⟩⟩
 rw [← hW0]
 clear hW0
 have HB0:=Lib.hid hb0
 have HS0:=Lib.hid hS0
 clear hb0 hS0
 go_loopw [10] (fun s wr=>∃i:Nat,s = .int .i64 i∧i≤xs.length∧∃sn A' c',PgWSet wr w.heap.size sn A' c' (puts cmpPgW [] (xs.take i))∧AIn A' (w.heap.size≤·)∧Below w.heap.size w wr) (fun s wr=>xs.length - (intOf s).toNat)
 case atStart=>exact ⟨0,rfl,Nat.zero_le _,false,none,0,HS0.out,AIn.none_ _,HB0.out⟩
 case round=>
  obtain ⟨i,rfl,hi,sn,A',c',hS,hA',hB⟩:=hrel
  have HS:=Lib.hid hS
  have HA:=Lib.hid hA'
  have HB:=Lib.hid hB
  clear hS hA' hB
  by_cases hlt:i<xs.length
  · obtain ⟨x,hx⟩ : ∃x,x=xs[i]:=⟨_,rfl⟩
    obtain ⟨g,off,rfl,hgs,hcell⟩:=(HRD.out.fr (Fr.of_new (M:=fun _=>False) HB.out) (fun _ _ h=>h)).at_ hlt
    rw [← hx] at hcell
    have q0:wr.cell? ⟨g,off+i*2,none⟩=some (.string x.kk):=by simpa using hcell 0 _ rfl
    have q1:wr.cell? ⟨g,off+i*2+1,none⟩=some (.string x.v):=by simpa using hcell 1 _ rfl
    have b1:(0:Int)≤(i:Int):=by omega
    have b2:(i:Int)<(xs.length:Int):=by omega
    have HX:=Lib.hid hx
    clear hcell hx
    go_wp2_with fail
    have hsr:=Srt.puts tc_pgw (xs.take i) (Srt.nil (cmp:=cmpPgW))
    have hlen:(((puts cmpPgW [] (xs.take i)).length:Nat):Int)≤100000000:=by
     have:=length_puts_le tc_pgw (xs.take i) (Srt.nil (cmp:=cmpPgW))
     simp at this
     omega
    refine (put_PgW w.heap.size c' sn A' _ x _ (HS.out.new_ ((Below.refl _ _).alloc (Nat.le_refl _) _)) hsr hlen).mono ?_
    rintro e w1 ⟨rfl,sn2,A2,c2,hS2,hF2,hM2⟩
    have hB1:Below w.heap.size w w1:=(HB.out.alloc HB.out.size _).trans (hF2.below (by have:=HB.out.size;(try simp);omega) (fun k hk hm=>by
     rcases hm with hm | ⟨_,a,ha,hm⟩
     · omega
     · have:=HA.out a ha;omega))
    have hA2:AIn A2 (w.heap.size≤·):=by
     rcases hM2 with ⟨_,rfl⟩ | ⟨_,g2,hg2,rfl⟩
     · exact HA.out
     · intro a ha;cases ha;have:=HB.out.size;(try simp at hg2 ⊢);omega
    have HS2:=Lib.hid hS2
    have HB1:=Lib.hid hB1
    have HA2:=Lib.hid hA2
    clear hS2 hB1 hA2 hF2 hM2 hsr hlen q0 q1
    go_wp2_with fail
    go_roundw
    case rel=>
     refine ⟨i+1,by go_num,by omega,sn2,A2,c2,?_,HA2.out,HB1.out⟩
     rw [List.take_add_one,List.getElem?_eq_getElem hlt,← HX.out]
     simp only [Option.toList_some,puts_snoc]
     exact HS2.out
    case measure=>simp [intOf]<;>omega
  · have hie:i=xs.length:=by omega
    subst hie
    go_wp2_with fail
    go_ret
    refine ⟨w.heap.size,rfl,Nat.le_refl _,sn,A',c',?_,HA.out,HB.out⟩
    have:=HS.out
    rwa [List.take_length] at this
end Go.Proofs.Ytffemfglngikbaa
