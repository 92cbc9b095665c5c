/-
  Texts put together: Show4, Show5, Shape3.
-/
import Derived.Test.YtffemfglngikbaaRg
import Derived.Test.YtffemfglngikbaaRb
import Derived.Test.YtffemfglngikbaaRe
import Derived.Maps.RangeWalk
namespace Go.Proofs.Ytffemfglngikbaa
open Go.RowKit Go.Shelf
attribute [local go_sem] Oper.semAt_some
set_option linter.unusedSimpArgs false
set_option maxRecDepth 100000 in
set_option maxHeartbeats 8000000 in
theorem scond_body (n:Nat) (ih : ∀m,n=m+1→SCond m):SCond n:=by
 intro c A1 c1 A2 c2 A3 c3 D w h1 h2 h3 hz
 by_cases hk:c.kind=3
 case neg=>
  have e:condX (n+1) c=leafX c:=by rw [condX,if_neg hk]
  rw [e] at hz ⊢
  exact scond_leaf c A1 c1 A2 c2 A3 c3 w h1 h2 hk hz
 have HR:=Lib.hid (show condX (n+1) c=(c.conds.foldl (allF (condX n)) (0,(⟨#[45,123]⟩:ByteArray))).2++(⟨#[125]⟩:ByteArray) by rw [condX,if_pos hk])
 rw [HR.out,ByteArray.size_append] at hz
 obtain ⟨T,hT⟩ : ∃T,T=(c.conds.foldl (allF (condX n)) (0,(⟨#[45,123]⟩:ByteArray))).2:=⟨_,rfl⟩
 rw [← hT] at HR hz
 have HT:=Lib.hid hT
 have hz9 : ¬MAXS<T.size+1:=Nat.not_lt.2 hz
 have hzz:T.size≤MAXS:=by unfold MAXS at hz9 ⊢;omega
 have H3:=Lib.hid h3
 have IH:=Lib.hid ih
 have hc1:=h1.cap
 have hc2:=h2.cap
 have hc3:=h3.cap
 have ka:(c.kind == 3)=true:=by simp [hk]
 have kb:decide (c.kind=3)=true:=by simp [hk]
 clear hk h1 h2 h3 ih hz hT
 go_enter Try.func80,Try.ntmps80
 go_upto_region 1 with fail
 obtain ⟨w1,hw1⟩ : ∃w1,w1=(w.alloc (.cells #[.int .i64 c.kind,.bool c.goal,.string c.id,.slice A1 c.attr.length c1,.slice A2 c.value.length c2,.bool c.acc,.slice A3 c.conds.length c3] 50)):=⟨_,rfl⟩
 rw [← hw1]
 have HB:=Lib.hid (show Below w.heap.size w w1 by rw [hw1];exact (by repeat (first | exact Below.refl _ _ | refine Below.drew ?_ | refine Below.al ?_ _ | refine Below.sc ?_ _)))
 have Kb:=Lib.hid (show Blk w1 (w.heap.size) 50 #[.int .i64 c.kind,.bool c.goal,.string c.id,.slice A1 c.attr.length c1,.slice A2 c.value.length c2,.bool c.acc,.slice A3 c.conds.length c3] by rw [hw1];exact (Blk.new w 50 #[.int .i64 c.kind,.bool c.goal,.string c.id,.slice A1 c.attr.length c1,.slice A2 c.value.length c2,.bool c.acc,.slice A3 c.conds.length c3]))
 clear hw1
 obtain ⟨b0,b1,b2,b3,b4,b5,b6⟩:=Kb.out.c7
 have bz:=Kb.out.lt
 go_wp2_with fail
 clear b0 b1 b2 b3 b4 b5 b6 bz 
 go_loopw [3,13] (fun s i wr=>∃k:Nat,i = .int .i64 k∧k≤c.conds.length∧s = .string ((c.conds.take k).foldl (allF (condX n)) (0,(⟨#[45,123]⟩:ByteArray))).2∧Below w1.heap.size w1 wr) (fun s i wr=>c.conds.length - (intOf i).toNat)
 case atStart=>exact ⟨0,rfl,Nat.zero_le _,rfl,Below.refl _ _⟩
 case round=>
  obtain ⟨k,rfl,hk,rfl,hb⟩:=hrel
  have HBR:=Lib.hid hb
  have HBW:=Lib.hid (HB.out.trans (hb.mono HB.out.size))
  clear hb
  by_cases hlt:k<c.conds.length
  · have hrw:=H3.out.new_ HBW.out
    obtain ⟨m,hnm⟩ : ∃m,n=m+1:=by
     cases n with
     | zero=>rw [row0 hrw] at hlt;simp at hlt
     | succ m=>exact ⟨m,rfl⟩
    subst hnm
    obtain ⟨g,off,B1,d1,B2,d2,B3,d3,hA0,_,hg,q0,q1,q2,q3,q4,q5,q6,hy1,hy2,hy3⟩:=at_CondT hrw hlt
    subst hA0
    obtain ⟨y,hy⟩ : ∃y,y=c.conds[k]:=⟨_,rfl⟩
    obtain ⟨S,hS⟩ : ∃S,S=((c.conds.take k).foldl (allF (condX (m+1))) (0,(⟨#[45,123]⟩:ByteArray))).2:=⟨_,rfl⟩
    have HN:=Lib.hid (show ((c.conds.take (k+1)).foldl (allF (condX (m+1))) (0,(⟨#[45,123]⟩:ByteArray))).2=(if 0<k then S++(⟨#[32]⟩:ByteArray) else S)++condX (m+1) y by rw [allF_snoc _ hlt,← hS,← hy])
    have hle:=allF_take (condX (m+1)) (l:=c.conds) (i:=k+1) (⟨#[45,123]⟩:ByteArray)
    rw [HN.out,← HT.out,ByteArray.size_append] at hle
    rw [← hy] at q0 q1 q2 q3 q4 q5 q6 hy1 hy2 hy3
    have HZY:=Lib.hid (show (condX (m+1) y).size≤MAXS by omega)
    have bh:Below wr.heap.size wr (wr.alloc (.cells #[.int .i64 y.kind,.bool y.goal,.string y.id,.slice B1 y.attr.length d1,.slice B2 y.value.length d2,.bool y.acc,.slice B3 y.conds.length d3] 50)):=(Below.refl _ _).alloc (Nat.le_refl _) _
    have HIH:=Lib.hid (IH.out m rfl y B1 d1 B2 d2 B3 d3 D (wr.alloc (.cells #[.int .i64 y.kind,.bool y.goal,.string y.id,.slice B1 y.attr.length d1,.slice B2 y.value.length d2,.bool y.acc,.slice B3 y.conds.length d3] 50)) (hy1.new_ bh) (hy2.new_ bh) (hy3.new_ bh) HZY.out)
    have b1_:(0:Int)≤(k:Int):=by omega
    have b2_:(k:Int)<(c.conds.length:Int):=by omega
    rw [← hS]
    by_cases hk0:0<k
    · have g1:decide ((0:Int)<(k:Int))=true:=decide_eq_true (by omega)
      have g2:decide (0<k)=true:=decide_eq_true hk0
      rw [if_pos hk0] at HN hle
      rw [ByteArray.size_append] at hle
      have y1 : ¬MAXS<S.size+1:=Nat.not_lt.2 (by have e:((⟨#[32]⟩:ByteArray)).size=1:=rfl;unfold MAXS at *;omega)
      have y2 : ¬MAXS<S.size+1+(condX (m+1) y).size:=Nat.not_lt.2 (by have e:((⟨#[32]⟩:ByteArray)).size=1:=rfl;unfold MAXS at *;omega)
      clear hy hS hle hrw hy1 hy2 hy3 hz9 hzz
      go_wp2_with fail
      refine HIH.out.mono ?_
      rintro e w5 ⟨rfl,hb5⟩
      have HB5:=Lib.hid (HBR.out.trans ((bh.trans (hb5.mono bh.size)).mono HBR.out.size))
      clear hb5 bh q0 q1 q2 q3 q4 q5 q6
      go_wp2_with fail
      go_roundw
      case rel=>exact ⟨k+1,by go_num,by omega,by rw [HN.out],HB5.out⟩
      case measure=>simp [intOf]<;>omega
    · have g1:decide ((0:Int)<(k:Int))=false:=decide_eq_false (by omega)
      have g2:decide (0<k)=false:=decide_eq_false hk0
      rw [if_neg hk0] at HN hle
      have y2 : ¬MAXS<S.size+(condX (m+1) y).size:=Nat.not_lt.2 (by unfold MAXS at *;omega)
      clear hy hS hle hrw hy1 hy2 hy3 hz9 hzz
      go_wp2_with fail
      refine HIH.out.mono ?_
      rintro e w5 ⟨rfl,hb5⟩
      have HB5:=Lib.hid (HBR.out.trans ((bh.trans (hb5.mono bh.size)).mono HBR.out.size))
      clear hb5 bh q0 q1 q2 q3 q4 q5 q6
      go_wp2_with fail
      go_roundw
      case rel=>exact ⟨k+1,by go_num,by omega,by rw [HN.out],HB5.out⟩
      case measure=>simp [intOf]<;>omega
  · obtain rfl:k=c.conds.length:=by omega
    rw [List.take_length,← HT.out]
    go_wp2_with fail
    go_ret
    exact ⟨by rw [HR.out]<;>rfl,HBW.out⟩
theorem scond_is : ∀n,SCond n
 | 0=>scond_body 0 (fun m h=>by omega)
 | n+1=>scond_body (n+1) (fun m h=>by obtain rfl:m=n:=by omega
                                      exact scond_is m)
set_option maxRecDepth 100000 in
set_option maxHeartbeats 8000000 in
theorem sterm_is (t:TermT) (w:World) (hz:(termX t).size≤MAXS):Calls Try.prog 94 #[.agg #[.int .i64 t.op,.string t.a.var,.int .i64 t.a.sym.kind,.string t.a.sym.text,.int .i64 t.a.sym.n,.string t.b.var,.int .i64 t.b.sym.kind,.string t.b.sym.text,.int .i64 t.b.sym.n]] w fun e w'=>e = .returned (.string (termX t))∧Below w.heap.size w w':=by
 by_cases h1:t.op=1
 · skip
   have oa:(t.op == 1)=true:=by simp [h1]
   have ob:decide (t.op=1)=true:=by simp [h1]
   have HR:=Lib.hid (show termX t=(⟨#[40]⟩:ByteArray)++(⟨#[43]⟩:ByteArray)++(⟨#[32]⟩:ByteArray)++atomX t.a.var t.a.sym++(⟨#[32]⟩:ByteArray)++atomX t.b.var t.b.sym++(⟨#[41]⟩:ByteArray) by
    unfold termX
    rw [if_pos (by omega),show opX t.op=(⟨#[43]⟩:ByteArray) by unfold opX;simp [h1]])
   rw [HR.out] at hz
   simp only [ByteArray.size_append] at hz
   have ez:((⟨#[40]⟩:ByteArray)).size=1:=rfl
   have eg:((⟨#[43]⟩:ByteArray)).size=1:=rfl
   have es:((⟨#[32]⟩:ByteArray)).size=1:=rfl
   have ec:((⟨#[41]⟩:ByteArray)).size=1:=rfl
   rw [ez,eg,es,ec] at hz
   have y1 : ¬MAXS<1+1+1+(atomX t.a.var t.a.sym).size:=by unfold MAXS at *;omega
   have y2 : ¬MAXS<1+1+1+(atomX t.a.var t.a.sym).size+1:=by unfold MAXS at *;omega
   have y3 : ¬MAXS<1+1+1+(atomX t.a.var t.a.sym).size+1+(atomX t.b.var t.b.sym).size:=by unfold MAXS at *;omega
   have y4 : ¬MAXS<1+1+1+(atomX t.a.var t.a.sym).size+1+(atomX t.b.var t.b.sym).size+1:=by unfold MAXS at *;omega
   have x1 : ¬MAXS<3+(atomX t.a.var t.a.sym).size:=y1
   have x2 : ¬MAXS<3+(atomX t.a.var t.a.sym).size+1:=y2
   have x3 : ¬MAXS<3+(atomX t.a.var t.a.sym).size+1+(atomX t.b.var t.b.sym).size:=y3
   have x4 : ¬MAXS<3+(atomX t.a.var t.a.sym).size+1+(atomX t.b.var t.b.sym).size+1:=y4
   have HA:=Lib.hid (show (atomX t.a.var t.a.sym).size≤MAXS by unfold MAXS at *;omega)
   have HBB:=Lib.hid (show (atomX t.b.var t.b.sym).size≤MAXS by unfold MAXS at *;omega)
   clear hz ez eg es ec h1
   go_enter Try.func94,Try.ntmps94
   go_upto_region 1 with fail
   obtain ⟨w1,hw1⟩ : ∃w1,w1=(w.alloc (.cells #[.int .i64 t.op,.string t.a.var,.int .i64 t.a.sym.kind,.string t.a.sym.text,.int .i64 t.a.sym.n,.string t.b.var,.int .i64 t.b.sym.kind,.string t.b.sym.text,.int .i64 t.b.sym.n] 56)):=⟨_,rfl⟩
   rw [← hw1]
   have HB:=Lib.hid (show Below w.heap.size w w1 by rw [hw1];exact (by repeat (first | exact Below.refl _ _ | refine Below.drew ?_ | refine Below.al ?_ _ | refine Below.sc ?_ _)))
   have Kb:=Lib.hid (show Blk w1 (w.heap.size) 56 #[.int .i64 t.op,.string t.a.var,.int .i64 t.a.sym.kind,.string t.a.sym.text,.int .i64 t.a.sym.n,.string t.b.var,.int .i64 t.b.sym.kind,.string t.b.sym.text,.int .i64 t.b.sym.n] by rw [hw1];exact (Blk.new w 56 #[.int .i64 t.op,.string t.a.var,.int .i64 t.a.sym.kind,.string t.a.sym.text,.int .i64 t.a.sym.n,.string t.b.var,.int .i64 t.b.sym.kind,.string t.b.sym.text,.int .i64 t.b.sym.n]))
   clear hw1
   obtain ⟨b0,b1,b2,b3,b4,b5,b6,b7,b8⟩:=Kb.out.c9
   have bz:=Kb.out.lt
   go_upto_region 10 with fail
   refine wp_region_E (fun w9=>Below w1.heap.size w1 w9) [(0,0),(1,0),(2,0),(3,0),(4,0),(5,1),(6,0),(7,0),(8,1),(12,0),(13,0),(14,1),(15,0),(16,0),(17,1),(9,2),(10,0),(11,0),(18,2),(19,0),(20,0),(21,0)] (by kernel_rfl) (by kernel_rfl) (fun KK hKK=>?_)
   simp only [beside,List.filterMap_cons,List.filterMap_nil,List.getElem?_toArray,List.getElem?_cons_zero,List.getElem?_cons_succ,Option.map_some]
   repeat ((first | (refine wpX_w ?_ (Or.inl ⟨by rfl,fun w9=>?_⟩) ?_;rotate_left 1;go_simp;with_reducible rfl) | (refine wpX_l ?_ (((Below.refl _ _).drew)) (Or.inl ⟨by rfl,fun w9 hw9=>?_⟩) ?_;rotate_left 1;obtain ⟨hc9,hf9⟩:=bcell hw9;go_simp;with_reducible rfl) | refine wpX_w undef (Or.inr ⟨by rfl,rfl⟩) ?_ | refine wpX_l undef (((Below.refl _ _).drew)) (Or.inr ⟨by rfl,rfl⟩) ?_);go_frame)
   refine wpX_es (fun K9 hK9=>?_)
   go_simp
   refine (satom_is t.a.var t.a.sym _ HA.out).mono ?_
   rintro e w5 ⟨rfl,hb5⟩
   have HBa:=Lib.hid (show Below w1.heap.size w1 w5 from ((Below.refl w1.heap.size w1).drew).trans (hb5.mono (by first | exact Nat.le_refl _ | (have:=HBa.out.size;omega))))
   clear hb5
   refine hK9 _ _ HBa.out ?_
   clear hK9 K9
   repeat ((first | (refine wpX_w ?_ (Or.inl ⟨by rfl,fun w9=>?_⟩) ?_;rotate_left 1;go_simp;with_reducible rfl) | (refine wpX_l ?_ (HBa.out) (Or.inl ⟨by rfl,fun w9 hw9=>?_⟩) ?_;rotate_left 1;obtain ⟨hc9,hf9⟩:=bcell hw9;go_simp;with_reducible rfl) | refine wpX_w undef (Or.inr ⟨by rfl,rfl⟩) ?_ | refine wpX_l undef (HBa.out) (Or.inr ⟨by rfl,rfl⟩) ?_);go_frame)
   refine wpX_es (fun K9 hK9=>?_)
   go_simp
   refine (satom_is t.b.var t.b.sym _ HBB.out).mono ?_
   rintro e w6 ⟨rfl,hb5⟩
   have HBb:=Lib.hid (show Below w1.heap.size w1 w6 from (HBa.out).trans (hb5.mono (by first | exact Nat.le_refl _ | (have:=HBa.out.size;omega))))
   clear hb5
   refine hK9 _ _ HBb.out ?_
   clear hK9 K9
   repeat ((first | (refine wpX_w ?_ (Or.inl ⟨by rfl,fun w9=>?_⟩) ?_;rotate_left 1;go_simp;with_reducible rfl) | (refine wpX_l ?_ (HBa.out) (Or.inl ⟨by rfl,fun w9 hw9=>?_⟩) ?_;rotate_left 1;obtain ⟨hc9,hf9⟩:=bcell hw9;go_simp;with_reducible rfl) | refine wpX_w undef (Or.inr ⟨by rfl,rfl⟩) ?_ | refine wpX_l undef (HBa.out) (Or.inr ⟨by rfl,rfl⟩) ?_);go_frame)
   refine wpX_nil ?_
   simp only [OnlyN_normal]
   refine hKK _ _ ?_
   clear hKK KK
   go_wp2_with fail
   go_ret
   exact ⟨by rw [HR.out]<;>rfl,HB.out.trans (HBb.out.mono HB.out.size)⟩
 · skip
   by_cases h2:t.op=2
   · skip
     have u1:(t.op == 1)=false:=by simp [h2]
     have v1:decide (t.op=1)=false:=by simp [h2]
     have oa:(t.op == 2)=true:=by simp [h2]
     have ob:decide (t.op=2)=true:=by simp [h2]
     have HR:=Lib.hid (show termX t=(⟨#[40]⟩:ByteArray)++(⟨#[45]⟩:ByteArray)++(⟨#[32]⟩:ByteArray)++atomX t.a.var t.a.sym++(⟨#[32]⟩:ByteArray)++atomX t.b.var t.b.sym++(⟨#[41]⟩:ByteArray) by
      unfold termX
      rw [if_pos (by omega),show opX t.op=(⟨#[45]⟩:ByteArray) by unfold opX;simp [h2]])
     rw [HR.out] at hz
     simp only [ByteArray.size_append] at hz
     have ez:((⟨#[40]⟩:ByteArray)).size=1:=rfl
     have eg:((⟨#[45]⟩:ByteArray)).size=1:=rfl
     have es:((⟨#[32]⟩:ByteArray)).size=1:=rfl
     have ec:((⟨#[41]⟩:ByteArray)).size=1:=rfl
     rw [ez,eg,es,ec] at hz
     have y1 : ¬MAXS<1+1+1+(atomX t.a.var t.a.sym).size:=by unfold MAXS at *;omega
     have y2 : ¬MAXS<1+1+1+(atomX t.a.var t.a.sym).size+1:=by unfold MAXS at *;omega
     have y3 : ¬MAXS<1+1+1+(atomX t.a.var t.a.sym).size+1+(atomX t.b.var t.b.sym).size:=by unfold MAXS at *;omega
     have y4 : ¬MAXS<1+1+1+(atomX t.a.var t.a.sym).size+1+(atomX t.b.var t.b.sym).size+1:=by unfold MAXS at *;omega
     have x1 : ¬MAXS<3+(atomX t.a.var t.a.sym).size:=y1
     have x2 : ¬MAXS<3+(atomX t.a.var t.a.sym).size+1:=y2
     have x3 : ¬MAXS<3+(atomX t.a.var t.a.sym).size+1+(atomX t.b.var t.b.sym).size:=y3
     have x4 : ¬MAXS<3+(atomX t.a.var t.a.sym).size+1+(atomX t.b.var t.b.sym).size+1:=y4
     have HA:=Lib.hid (show (atomX t.a.var t.a.sym).size≤MAXS by unfold MAXS at *;omega)
     have HBB:=Lib.hid (show (atomX t.b.var t.b.sym).size≤MAXS by unfold MAXS at *;omega)
     clear hz ez eg es ec h1 h2
     go_enter Try.func94,Try.ntmps94
     go_upto_region 1 with fail
     obtain ⟨w1,hw1⟩ : ∃w1,w1=(w.alloc (.cells #[.int .i64 t.op,.string t.a.var,.int .i64 t.a.sym.kind,.string t.a.sym.text,.int .i64 t.a.sym.n,.string t.b.var,.int .i64 t.b.sym.kind,.string t.b.sym.text,.int .i64 t.b.sym.n] 56)):=⟨_,rfl⟩
     rw [← hw1]
     have HB:=Lib.hid (show Below w.heap.size w w1 by rw [hw1];exact (by repeat (first | exact Below.refl _ _ | refine Below.drew ?_ | refine Below.al ?_ _ | refine Below.sc ?_ _)))
     have Kb:=Lib.hid (show Blk w1 (w.heap.size) 56 #[.int .i64 t.op,.string t.a.var,.int .i64 t.a.sym.kind,.string t.a.sym.text,.int .i64 t.a.sym.n,.string t.b.var,.int .i64 t.b.sym.kind,.string t.b.sym.text,.int .i64 t.b.sym.n] by rw [hw1];exact (Blk.new w 56 #[.int .i64 t.op,.string t.a.var,.int .i64 t.a.sym.kind,.string t.a.sym.text,.int .i64 t.a.sym.n,.string t.b.var,.int .i64 t.b.sym.kind,.string t.b.sym.text,.int .i64 t.b.sym.n]))
     clear hw1
     obtain ⟨b0,b1,b2,b3,b4,b5,b6,b7,b8⟩:=Kb.out.c9
     have bz:=Kb.out.lt
     go_upto_region 10 with fail
     refine wp_region_E (fun w9=>Below w1.heap.size w1 w9) [(0,0),(1,0),(2,0),(3,0),(4,0),(5,1),(6,0),(7,0),(8,1),(12,0),(13,0),(14,1),(15,0),(16,0),(17,1),(9,2),(10,0),(11,0),(18,2),(19,0),(20,0),(21,0)] (by kernel_rfl) (by kernel_rfl) (fun KK hKK=>?_)
     simp only [beside,List.filterMap_cons,List.filterMap_nil,List.getElem?_toArray,List.getElem?_cons_zero,List.getElem?_cons_succ,Option.map_some]
     repeat ((first | (refine wpX_w ?_ (Or.inl ⟨by rfl,fun w9=>?_⟩) ?_;rotate_left 1;go_simp;with_reducible rfl) | (refine wpX_l ?_ (((Below.refl _ _).drew)) (Or.inl ⟨by rfl,fun w9 hw9=>?_⟩) ?_;rotate_left 1;obtain ⟨hc9,hf9⟩:=bcell hw9;go_simp;with_reducible rfl) | refine wpX_w undef (Or.inr ⟨by rfl,rfl⟩) ?_ | refine wpX_l undef (((Below.refl _ _).drew)) (Or.inr ⟨by rfl,rfl⟩) ?_);go_frame)
     refine wpX_es (fun K9 hK9=>?_)
     go_simp
     refine (satom_is t.a.var t.a.sym _ HA.out).mono ?_
     rintro e w5 ⟨rfl,hb5⟩
     have HBa:=Lib.hid (show Below w1.heap.size w1 w5 from ((Below.refl w1.heap.size w1).drew).trans (hb5.mono (by first | exact Nat.le_refl _ | (have:=HBa.out.size;omega))))
     clear hb5
     refine hK9 _ _ HBa.out ?_
     clear hK9 K9
     repeat ((first | (refine wpX_w ?_ (Or.inl ⟨by rfl,fun w9=>?_⟩) ?_;rotate_left 1;go_simp;with_reducible rfl) | (refine wpX_l ?_ (HBa.out) (Or.inl ⟨by rfl,fun w9 hw9=>?_⟩) ?_;rotate_left 1;obtain ⟨hc9,hf9⟩:=bcell hw9;go_simp;with_reducible rfl) | refine wpX_w undef (Or.inr ⟨by rfl,rfl⟩) ?_ | refine wpX_l undef (HBa.out) (Or.inr ⟨by rfl,rfl⟩) ?_);go_frame)
     refine wpX_es (fun K9 hK9=>?_)
     go_simp
     refine (satom_is t.b.var t.b.sym _ HBB.out).mono ?_
     rintro e w6 ⟨rfl,hb5⟩
     have HBb:=Lib.hid (show Below w1.heap.size w1 w6 from (HBa.out).trans (hb5.mono (by first | exact Nat.le_refl _ | (have:=HBa.out.size;omega))))
     clear hb5
     refine hK9 _ _ HBb.out ?_
     clear hK9 K9
     repeat ((first | (refine wpX_w ?_ (Or.inl ⟨by rfl,fun w9=>?_⟩) ?_;rotate_left 1;go_simp;with_reducible rfl) | (refine wpX_l ?_ (HBa.out) (Or.inl ⟨by rfl,fun w9 hw9=>?_⟩) ?_;rotate_left 1;obtain ⟨hc9,hf9⟩:=bcell hw9;go_simp;with_reducible rfl) | refine wpX_w undef (Or.inr ⟨by rfl,rfl⟩) ?_ | refine wpX_l undef (HBa.out) (Or.inr ⟨by rfl,rfl⟩) ?_);go_frame)
     refine wpX_nil ?_
     simp only [OnlyN_normal]
     refine hKK _ _ ?_
     clear hKK KK
     go_wp2_with fail
     go_ret
     exact ⟨by rw [HR.out]<;>rfl,HB.out.trans (HBb.out.mono HB.out.size)⟩
   · skip
     by_cases h3:t.op=3
     · skip
       have u1:(t.op == 1)=false:=by simp [h3]
       have v1:decide (t.op=1)=false:=by simp [h3]
       have u2:(t.op == 2)=false:=by simp [h3]
       have v2:decide (t.op=2)=false:=by simp [h3]
       have oa:(t.op == 3)=true:=by simp [h3]
       have ob:decide (t.op=3)=true:=by simp [h3]
       have HR:=Lib.hid (show termX t=(⟨#[40]⟩:ByteArray)++(⟨#[42]⟩:ByteArray)++(⟨#[32]⟩:ByteArray)++atomX t.a.var t.a.sym++(⟨#[32]⟩:ByteArray)++atomX t.b.var t.b.sym++(⟨#[41]⟩:ByteArray) by
        unfold termX
        rw [if_pos (by omega),show opX t.op=(⟨#[42]⟩:ByteArray) by unfold opX;simp [h3]])
       rw [HR.out] at hz
       simp only [ByteArray.size_append] at hz
       have ez:((⟨#[40]⟩:ByteArray)).size=1:=rfl
       have eg:((⟨#[42]⟩:ByteArray)).size=1:=rfl
       have es:((⟨#[32]⟩:ByteArray)).size=1:=rfl
       have ec:((⟨#[41]⟩:ByteArray)).size=1:=rfl
       rw [ez,eg,es,ec] at hz
       have y1 : ¬MAXS<1+1+1+(atomX t.a.var t.a.sym).size:=by unfold MAXS at *;omega
       have y2 : ¬MAXS<1+1+1+(atomX t.a.var t.a.sym).size+1:=by unfold MAXS at *;omega
       have y3 : ¬MAXS<1+1+1+(atomX t.a.var t.a.sym).size+1+(atomX t.b.var t.b.sym).size:=by unfold MAXS at *;omega
       have y4 : ¬MAXS<1+1+1+(atomX t.a.var t.a.sym).size+1+(atomX t.b.var t.b.sym).size+1:=by unfold MAXS at *;omega
       have x1 : ¬MAXS<3+(atomX t.a.var t.a.sym).size:=y1
       have x2 : ¬MAXS<3+(atomX t.a.var t.a.sym).size+1:=y2
       have x3 : ¬MAXS<3+(atomX t.a.var t.a.sym).size+1+(atomX t.b.var t.b.sym).size:=y3
       have x4 : ¬MAXS<3+(atomX t.a.var t.a.sym).size+1+(atomX t.b.var t.b.sym).size+1:=y4
       have HA:=Lib.hid (show (atomX t.a.var t.a.sym).size≤MAXS by unfold MAXS at *;omega)
       have HBB:=Lib.hid (show (atomX t.b.var t.b.sym).size≤MAXS by unfold MAXS at *;omega)
       clear hz ez eg es ec h1 h2 h3
       go_enter Try.func94,Try.ntmps94
       go_upto_region 1 with fail
       obtain ⟨w1,hw1⟩ : ∃w1,w1=(w.alloc (.cells #[.int .i64 t.op,.string t.a.var,.int .i64 t.a.sym.kind,.string t.a.sym.text,.int .i64 t.a.sym.n,.string t.b.var,.int .i64 t.b.sym.kind,.string t.b.sym.text,.int .i64 t.b.sym.n] 56)):=⟨_,rfl⟩
       rw [← hw1]
       have HB:=Lib.hid (show Below w.heap.size w w1 by rw [hw1];exact (by repeat (first | exact Below.refl _ _ | refine Below.drew ?_ | refine Below.al ?_ _ | refine Below.sc ?_ _)))
       have Kb:=Lib.hid (show Blk w1 (w.heap.size) 56 #[.int .i64 t.op,.string t.a.var,.int .i64 t.a.sym.kind,.string t.a.sym.text,.int .i64 t.a.sym.n,.string t.b.var,.int .i64 t.b.sym.kind,.string t.b.sym.text,.int .i64 t.b.sym.n] by rw [hw1];exact (Blk.new w 56 #[.int .i64 t.op,.string t.a.var,.int .i64 t.a.sym.kind,.string t.a.sym.text,.int .i64 t.a.sym.n,.string t.b.var,.int .i64 t.b.sym.kind,.string t.b.sym.text,.int .i64 t.b.sym.n]))
       clear hw1
       obtain ⟨b0,b1,b2,b3,b4,b5,b6,b7,b8⟩:=Kb.out.c9
       have bz:=Kb.out.lt
       go_upto_region 10 with fail
       refine wp_region_E (fun w9=>Below w1.heap.size w1 w9) [(0,0),(1,0),(2,0),(3,0),(4,0),(5,1),(6,0),(7,0),(8,1),(12,0),(13,0),(14,1),(15,0),(16,0),(17,1),(9,2),(10,0),(11,0),(18,2),(19,0),(20,0),(21,0)] (by kernel_rfl) (by kernel_rfl) (fun KK hKK=>?_)
       simp only [beside,List.filterMap_cons,List.filterMap_nil,List.getElem?_toArray,List.getElem?_cons_zero,List.getElem?_cons_succ,Option.map_some]
       repeat ((first | (refine wpX_w ?_ (Or.inl ⟨by rfl,fun w9=>?_⟩) ?_;rotate_left 1;go_simp;with_reducible rfl) | (refine wpX_l ?_ (((Below.refl _ _).drew)) (Or.inl ⟨by rfl,fun w9 hw9=>?_⟩) ?_;rotate_left 1;obtain ⟨hc9,hf9⟩:=bcell hw9;go_simp;with_reducible rfl) | refine wpX_w undef (Or.inr ⟨by rfl,rfl⟩) ?_ | refine wpX_l undef (((Below.refl _ _).drew)) (Or.inr ⟨by rfl,rfl⟩) ?_);go_frame)
       refine wpX_es (fun K9 hK9=>?_)
       go_simp
       refine (satom_is t.a.var t.a.sym _ HA.out).mono ?_
       rintro e w5 ⟨rfl,hb5⟩
       have HBa:=Lib.hid (show Below w1.heap.size w1 w5 from ((Below.refl w1.heap.size w1).drew).trans (hb5.mono (by first | exact Nat.le_refl _ | (have:=HBa.out.size;omega))))
       clear hb5
       refine hK9 _ _ HBa.out ?_
       clear hK9 K9
       repeat ((first | (refine wpX_w ?_ (Or.inl ⟨by rfl,fun w9=>?_⟩) ?_;rotate_left 1;go_simp;with_reducible rfl) | (refine wpX_l ?_ (HBa.out) (Or.inl ⟨by rfl,fun w9 hw9=>?_⟩) ?_;rotate_left 1;obtain ⟨hc9,hf9⟩:=bcell hw9;go_simp;with_reducible rfl) | refine wpX_w undef (Or.inr ⟨by rfl,rfl⟩) ?_ | refine wpX_l undef (HBa.out) (Or.inr ⟨by rfl,rfl⟩) ?_);go_frame)
       refine wpX_es (fun K9 hK9=>?_)
       go_simp
       refine (satom_is t.b.var t.b.sym _ HBB.out).mono ?_
       rintro e w6 ⟨rfl,hb5⟩
       have HBb:=Lib.hid (show Below w1.heap.size w1 w6 from (HBa.out).trans (hb5.mono (by first | exact Nat.le_refl _ | (have:=HBa.out.size;omega))))
       clear hb5
       refine hK9 _ _ HBb.out ?_
       clear hK9 K9
       repeat ((first | (refine wpX_w ?_ (Or.inl ⟨by rfl,fun w9=>?_⟩) ?_;rotate_left 1;go_simp;with_reducible rfl) | (refine wpX_l ?_ (HBa.out) (Or.inl ⟨by rfl,fun w9 hw9=>?_⟩) ?_;rotate_left 1;obtain ⟨hc9,hf9⟩:=bcell hw9;go_simp;with_reducible rfl) | refine wpX_w undef (Or.inr ⟨by rfl,rfl⟩) ?_ | refine wpX_l undef (HBa.out) (Or.inr ⟨by rfl,rfl⟩) ?_);go_frame)
       refine wpX_nil ?_
       simp only [OnlyN_normal]
       refine hKK _ _ ?_
       clear hKK KK
       go_wp2_with fail
       go_ret
       exact ⟨by rw [HR.out]<;>rfl,HB.out.trans (HBb.out.mono HB.out.size)⟩
     · skip
       have u1:(t.op == 1)=false:=by simp [h1]
       have v1:decide (t.op=1)=false:=by simp [h1]
       have u2:(t.op == 2)=false:=by simp [h2]
       have v2:decide (t.op=2)=false:=by simp [h2]
       have u3:(t.op == 3)=false:=by simp [h3]
       have v3:decide (t.op=3)=false:=by simp [h3]
       have HR:=Lib.hid (show termX t=atomX t.a.var t.a.sym by unfold termX;rw [if_neg (by omega)])
       rw [HR.out] at hz
       have HZ:=Lib.hid hz
       clear h1 h2 h3 hz
       go_enter Try.func94,Try.ntmps94
       go_upto_region 1 with fail
       obtain ⟨w1,hw1⟩ : ∃w1,w1=(w.alloc (.cells #[.int .i64 t.op,.string t.a.var,.int .i64 t.a.sym.kind,.string t.a.sym.text,.int .i64 t.a.sym.n,.string t.b.var,.int .i64 t.b.sym.kind,.string t.b.sym.text,.int .i64 t.b.sym.n] 56)):=⟨_,rfl⟩
       rw [← hw1]
       have HB:=Lib.hid (show Below w.heap.size w w1 by rw [hw1];exact (by repeat (first | exact Below.refl _ _ | refine Below.drew ?_ | refine Below.al ?_ _ | refine Below.sc ?_ _)))
       have Kb:=Lib.hid (show Blk w1 (w.heap.size) 56 #[.int .i64 t.op,.string t.a.var,.int .i64 t.a.sym.kind,.string t.a.sym.text,.int .i64 t.a.sym.n,.string t.b.var,.int .i64 t.b.sym.kind,.string t.b.sym.text,.int .i64 t.b.sym.n] by rw [hw1];exact (Blk.new w 56 #[.int .i64 t.op,.string t.a.var,.int .i64 t.a.sym.kind,.string t.a.sym.text,.int .i64 t.a.sym.n,.string t.b.var,.int .i64 t.b.sym.kind,.string t.b.sym.text,.int .i64 t.b.sym.n]))
       clear hw1
       obtain ⟨b0,b1,b2,b3,b4,b5,b6,b7,b8⟩:=Kb.out.c9
       have bz:=Kb.out.lt
       go_wp2_with fail
       with_reducible refine (satom_is t.a.var t.a.sym _ HZ.out).mono ?_
       rintro e w2 ⟨rfl,hb⟩
       have hbs:=Below.trans (show Below w1.heap.size w1 _ from (by (repeat (first | exact Below.refl _ _ | refine Below.drew ?_ | refine Below.al ?_ _ | refine Below.sc ?_ _)))) (hb.mono (by simp<;>omega))
       have Kb:=Lib.hid (Kb.out.new_ hbs)
       have HB:=Lib.hid (HB.out.trans (hbs.mono HB.out.size))
       have hsz2:=hbs.size
       clear b0 b1 b2 b3 b4 b5 b6 b7 b8 bz hb hbs
       obtain ⟨b0,b1,b2,b3,b4,b5,b6,b7,b8⟩:=Kb.out.c9
       have bz:=Kb.out.lt
       go_wp2_with fail
       go_ret
       exact ⟨by rw [HR.out]<;>rfl,by (repeat (first | exact Below.refl _ _ | exact HB.out | refine Below.drew ?_ | refine Below.al ?_ _ | refine Below.sc ?_ _))⟩
end Go.Proofs.Ytffemfglngikbaa
namespace Go.Proofs.Ytffemfglngikbaa
open Go.RowKit Go.Shelf
attribute [local go_sem] Oper.semAt_some
set_option linter.unusedSimpArgs false
set_option maxRecDepth 100000 in
set_option maxHeartbeats 8000000 in
theorem sact_is (a:ActT) (w:World) (hz:(actX a).size≤MAXS):Calls Try.prog 81 #[.agg #[.string a.id,.string a.attr.var,.int .i64 a.attr.sym.kind,.string a.attr.sym.text,.int .i64 a.attr.sym.n,.int .i64 a.value.op,.string a.value.a.var,.int .i64 a.value.a.sym.kind,.string a.value.a.sym.text,.int .i64 a.value.a.sym.n,.string a.value.b.var,.int .i64 a.value.b.sym.kind,.string a.value.b.sym.text,.int .i64 a.value.b.sym.n,.int .i64 a.pref,.string a.other.var,.int .i64 a.other.sym.kind,.string a.other.sym.text,.int .i64 a.other.sym.n]] w fun e w'=>e = .returned (.string (actX a))∧Below w.heap.size w w':=by
 obtain ⟨S,hS⟩ : ∃S,S=(⟨#[40,60]⟩:ByteArray)++a.id++(⟨#[62,32,94]⟩:ByteArray)++atomX a.attr.var a.attr.sym++(⟨#[32]⟩:ByteArray)++termX a.value++(⟨#[32]⟩:ByteArray)++signX a.pref:=⟨_,rfl⟩
 have HS:=Lib.hid hS
 have HX:=Lib.hid (show actX a=(if otherB a.pref=true then S++(⟨#[32]⟩:ByteArray)++atomX a.other.var a.other.sym else S)++(⟨#[41]⟩:ByteArray) by rw [hS];rfl)
 have hle:S.size+1≤MAXS:=by
  rw [HX.out,ByteArray.size_append] at hz
  have ec:((⟨#[41]⟩:ByteArray)).size=1:=rfl
  split at hz
  · rw [ByteArray.size_append,ByteArray.size_append] at hz;omega
  · omega
 have hsz:=congrArg ByteArray.size hS
 simp only [ByteArray.size_append] at hsz
 have ep:((⟨#[40,60]⟩:ByteArray)).size=2:=rfl
 have eg:((⟨#[62,32,94]⟩:ByteArray)).size=3:=rfl
 have es:((⟨#[32]⟩:ByteArray)).size=1:=rfl
 rw [ep,eg,es] at hsz
 have y1 : ¬MAXS<2+a.id.size:=by unfold MAXS at *;omega
 have y2 : ¬MAXS<2+a.id.size+3:=by unfold MAXS at *;omega
 have y3 : ¬MAXS<2+a.id.size+3+(atomX a.attr.var a.attr.sym).size:=by unfold MAXS at *;omega
 have y4 : ¬MAXS<2+a.id.size+3+(atomX a.attr.var a.attr.sym).size+1:=by unfold MAXS at *;omega
 have y5 : ¬MAXS<2+a.id.size+3+(atomX a.attr.var a.attr.sym).size+1+(termX a.value).size:=by unfold MAXS at *;omega
 have y6 : ¬MAXS<2+a.id.size+3+(atomX a.attr.var a.attr.sym).size+1+(termX a.value).size+1:=by unfold MAXS at *;omega
 have y7 : ¬MAXS<2+a.id.size+3+(atomX a.attr.var a.attr.sym).size+1+(termX a.value).size+1+(signX a.pref).size:=by unfold MAXS at *;omega
 have y8 : ¬MAXS<S.size+1:=Nat.not_lt.2 hle
 have HA:=Lib.hid (show (atomX a.attr.var a.attr.sym).size≤MAXS by unfold MAXS at *;omega)
 have HT:=Lib.hid (show (termX a.value).size≤MAXS by unfold MAXS at *;omega)
 clear hS hsz ep eg es
 by_cases h8:a.pref=8
 · skip
   have oa:(a.pref == 8)=true:=by simp [h8]
   have ob:decide (a.pref=8)=true:=by simp [h8]
   have HR:=Lib.hid (show actX a=S++(⟨#[32]⟩:ByteArray)++atomX a.other.var a.other.sym++(⟨#[41]⟩:ByteArray) by rw [HX.out,if_pos (by simp [otherB,h8])])
   rw [HR.out] at hz
   simp only [ByteArray.size_append] at hz
   have es:((⟨#[32]⟩:ByteArray)).size=1:=rfl
   have ec:((⟨#[41]⟩:ByteArray)).size=1:=rfl
   rw [es,ec] at hz
   have x1 : ¬MAXS<S.size+1+(atomX a.other.var a.other.sym).size:=by unfold MAXS at *;omega
   have x2 : ¬MAXS<S.size+1+(atomX a.other.var a.other.sym).size+1:=by unfold MAXS at *;omega
   have HO:=Lib.hid (show (atomX a.other.var a.other.sym).size≤MAXS by unfold MAXS at *;omega)
   clear hz es ec hle h8
   go_enter Try.func81,Try.ntmps81
   go_upto_region 1 with fail
   obtain ⟨w1,hw1⟩ : ∃w1,w1=(w.alloc (.cells #[.string a.id,.string a.attr.var,.int .i64 a.attr.sym.kind,.string a.attr.sym.text,.int .i64 a.attr.sym.n,.int .i64 a.value.op,.string a.value.a.var,.int .i64 a.value.a.sym.kind,.string a.value.a.sym.text,.int .i64 a.value.a.sym.n,.string a.value.b.var,.int .i64 a.value.b.sym.kind,.string a.value.b.sym.text,.int .i64 a.value.b.sym.n,.int .i64 a.pref,.string a.other.var,.int .i64 a.other.sym.kind,.string a.other.sym.text,.int .i64 a.other.sym.n] 58)):=⟨_,rfl⟩
   rw [← hw1]
   have HB:=Lib.hid (show Below w.heap.size w w1 by rw [hw1];exact (by repeat (first | exact Below.refl _ _ | refine Below.drew ?_ | refine Below.al ?_ _ | refine Below.sc ?_ _)))
   have Kb:=Lib.hid (show Blk w1 (w.heap.size) 58 #[.string a.id,.string a.attr.var,.int .i64 a.attr.sym.kind,.string a.attr.sym.text,.int .i64 a.attr.sym.n,.int .i64 a.value.op,.string a.value.a.var,.int .i64 a.value.a.sym.kind,.string a.value.a.sym.text,.int .i64 a.value.a.sym.n,.string a.value.b.var,.int .i64 a.value.b.sym.kind,.string a.value.b.sym.text,.int .i64 a.value.b.sym.n,.int .i64 a.pref,.string a.other.var,.int .i64 a.other.sym.kind,.string a.other.sym.text,.int .i64 a.other.sym.n] by rw [hw1];exact (Blk.new w 58 #[.string a.id,.string a.attr.var,.int .i64 a.attr.sym.kind,.string a.attr.sym.text,.int .i64 a.attr.sym.n,.int .i64 a.value.op,.string a.value.a.var,.int .i64 a.value.a.sym.kind,.string a.value.a.sym.text,.int .i64 a.value.a.sym.n,.string a.value.b.var,.int .i64 a.value.b.sym.kind,.string a.value.b.sym.text,.int .i64 a.value.b.sym.n,.int .i64 a.pref,.string a.other.var,.int .i64 a.other.sym.kind,.string a.other.sym.text,.int .i64 a.other.sym.n]))
   clear hw1
   obtain ⟨b0,b1,b2,b3,b4,b5,b6,b7,b8,b9,b10,b11,b12,b13,b14,b15,b16,b17,b18⟩:=Kb.out.c19
   have bz:=Kb.out.lt
   go_upto_region 1 with fail
   refine wp_region_E (fun w9=>Below w1.heap.size w1 w9) [(0,0),(1,1),(2,0),(3,0),(4,0),(5,0),(6,1),(7,0),(8,0),(9,1),(13,0),(14,1),(18,0),(19,1),(10,2),(11,0),(12,0),(15,2),(16,0),(17,0),(20,2),(21,0),(22,0)] (by kernel_rfl) (by kernel_rfl) (fun KK hKK=>?_)
   simp only [beside,List.filterMap_cons,List.filterMap_nil,List.getElem?_toArray,List.getElem?_cons_zero,List.getElem?_cons_succ,Option.map_some]
   repeat ((first | (refine wpX_w ?_ (Or.inl ⟨by rfl,fun w9=>?_⟩) ?_;rotate_left 1;go_simp;with_reducible rfl) | (refine wpX_l ?_ (((Below.refl _ _).drew)) (Or.inl ⟨by rfl,fun w9 hw9=>?_⟩) ?_;rotate_left 1;obtain ⟨hc9,hf9⟩:=bcell hw9;go_simp;with_reducible rfl) | refine wpX_w undef (Or.inr ⟨by rfl,rfl⟩) ?_ | refine wpX_l undef (((Below.refl _ _).drew)) (Or.inr ⟨by rfl,rfl⟩) ?_);go_frame)
   refine wpX_es (fun K9 hK9=>?_)
   go_simp
   refine (satom_is a.attr.var a.attr.sym _ HA.out).mono ?_
   rintro e w5 ⟨rfl,hb5⟩
   have HBa:=Lib.hid (show Below w1.heap.size w1 w5 from ((Below.refl w1.heap.size w1).drew).trans (hb5.mono (by simp)))
   clear hb5
   refine hK9 _ _ HBa.out ?_
   clear hK9 K9
   repeat ((first | (refine wpX_w ?_ (Or.inl ⟨by rfl,fun w9=>?_⟩) ?_;rotate_left 1;go_simp;with_reducible rfl) | (refine wpX_l ?_ (HBa.out) (Or.inl ⟨by rfl,fun w9 hw9=>?_⟩) ?_;rotate_left 1;obtain ⟨hc9,hf9⟩:=bcell hw9;go_simp;with_reducible rfl) | refine wpX_w undef (Or.inr ⟨by rfl,rfl⟩) ?_ | refine wpX_l undef (HBa.out) (Or.inr ⟨by rfl,rfl⟩) ?_);go_frame)
   refine wpX_es (fun K9 hK9=>?_)
   go_simp
   refine (sterm_is a.value _ HT.out).mono ?_
   rintro e w6 ⟨rfl,hb5⟩
   have HBb:=Lib.hid (show Below w1.heap.size w1 w6 from (HBa.out).trans (hb5.mono (HBa.out.size)))
   clear hb5
   refine hK9 _ _ HBb.out ?_
   clear hK9 K9
   repeat ((first | (refine wpX_w ?_ (Or.inl ⟨by rfl,fun w9=>?_⟩) ?_;rotate_left 1;go_simp;with_reducible rfl) | (refine wpX_l ?_ (HBb.out) (Or.inl ⟨by rfl,fun w9 hw9=>?_⟩) ?_;rotate_left 1;obtain ⟨hc9,hf9⟩:=bcell hw9;go_simp;with_reducible rfl) | refine wpX_w undef (Or.inr ⟨by rfl,rfl⟩) ?_ | refine wpX_l undef (HBb.out) (Or.inr ⟨by rfl,rfl⟩) ?_);go_frame)
   refine wpX_es (fun K9 hK9=>?_)
   go_simp
   refine (ssign_is a.pref _).mono ?_
   rintro e w7 ⟨rfl,rfl⟩
   refine hK9 _ _ HBb.out ?_
   clear hK9 K9
   repeat ((first | (refine wpX_w ?_ (Or.inl ⟨by rfl,fun w9=>?_⟩) ?_;rotate_left 1;go_simp;with_reducible rfl) | (refine wpX_l ?_ (HBb.out) (Or.inl ⟨by rfl,fun w9 hw9=>?_⟩) ?_;rotate_left 1;obtain ⟨hc9,hf9⟩:=bcell hw9;go_simp;with_reducible rfl) | refine wpX_w undef (Or.inr ⟨by rfl,rfl⟩) ?_ | refine wpX_l undef (HBb.out) (Or.inr ⟨by rfl,rfl⟩) ?_);go_frame)
   refine wpX_nil ?_
   simp only [OnlyN_normal]
   refine hKK _ _ ?_
   clear hKK KK
   rw [← HS.out]
   have Kb:=Lib.hid (Kb.out.new_ HBb.out)
   have HB:=Lib.hid (HB.out.trans (HBb.out.mono HB.out.size))
   clear b0 b1 b2 b3 b4 b5 b6 b7 b8 b9 b10 b11 b12 b13 b14 b15 b16 b17 b18 bz y1 y2 y3 y4 y5 y6 y7
   obtain ⟨b0,b1,b2,b3,b4,b5,b6,b7,b8,b9,b10,b11,b12,b13,b14,b15,b16,b17,b18⟩:=Kb.out.c19
   have bz:=Kb.out.lt
   go_wp2_with fail
   with_reducible refine (satom_is a.other.var a.other.sym _ HO.out).mono ?_
   rintro e w2 ⟨rfl,hb⟩
   have hbs:=Below.trans (show Below w6.heap.size w6 _ from (by (repeat (first | exact Below.refl _ _ | refine Below.drew ?_ | refine Below.al ?_ _ | refine Below.sc ?_ _)))) (hb.mono (by simp<;>omega))
   have Kb:=Lib.hid (Kb.out.new_ hbs)
   have HB:=Lib.hid (HB.out.trans (hbs.mono HB.out.size))
   have hsz2:=hbs.size
   clear b0 b1 b2 b3 b4 b5 b6 b7 b8 b9 b10 b11 b12 b13 b14 b15 b16 b17 b18 bz hb hbs
   obtain ⟨b0,b1,b2,b3,b4,b5,b6,b7,b8,b9,b10,b11,b12,b13,b14,b15,b16,b17,b18⟩:=Kb.out.c19
   have bz:=Kb.out.lt
   go_wp2_with fail
   go_ret
   exact ⟨by rw [HR.out]<;>rfl,by (repeat (first | exact Below.refl _ _ | exact HB.out | refine Below.drew ?_ | refine Below.al ?_ _ | refine Below.sc ?_ _))⟩
 · skip
   by_cases h9:a.pref=9
   · skip
     have u8:(a.pref == 8)=false:=by simp [h9]
     have v8:decide (a.pref=8)=false:=by simp [h9]
     have oa:(a.pref == 9)=true:=by simp [h9]
     have ob:decide (a.pref=9)=true:=by simp [h9]
     have HR:=Lib.hid (show actX a=S++(⟨#[32]⟩:ByteArray)++atomX a.other.var a.other.sym++(⟨#[41]⟩:ByteArray) by rw [HX.out,if_pos (by simp [otherB,h9])])
     rw [HR.out] at hz
     simp only [ByteArray.size_append] at hz
     have es:((⟨#[32]⟩:ByteArray)).size=1:=rfl
     have ec:((⟨#[41]⟩:ByteArray)).size=1:=rfl
     rw [es,ec] at hz
     have x1 : ¬MAXS<S.size+1+(atomX a.other.var a.other.sym).size:=by unfold MAXS at *;omega
     have x2 : ¬MAXS<S.size+1+(atomX a.other.var a.other.sym).size+1:=by unfold MAXS at *;omega
     have HO:=Lib.hid (show (atomX a.other.var a.other.sym).size≤MAXS by unfold MAXS at *;omega)
     clear hz es ec hle h8 h9
     go_enter Try.func81,Try.ntmps81
     go_upto_region 1 with fail
     obtain ⟨w1,hw1⟩ : ∃w1,w1=(w.alloc (.cells #[.string a.id,.string a.attr.var,.int .i64 a.attr.sym.kind,.string a.attr.sym.text,.int .i64 a.attr.sym.n,.int .i64 a.value.op,.string a.value.a.var,.int .i64 a.value.a.sym.kind,.string a.value.a.sym.text,.int .i64 a.value.a.sym.n,.string a.value.b.var,.int .i64 a.value.b.sym.kind,.string a.value.b.sym.text,.int .i64 a.value.b.sym.n,.int .i64 a.pref,.string a.other.var,.int .i64 a.other.sym.kind,.string a.other.sym.text,.int .i64 a.other.sym.n] 58)):=⟨_,rfl⟩
     rw [← hw1]
     have HB:=Lib.hid (show Below w.heap.size w w1 by rw [hw1];exact (by repeat (first | exact Below.refl _ _ | refine Below.drew ?_ | refine Below.al ?_ _ | refine Below.sc ?_ _)))
     have Kb:=Lib.hid (show Blk w1 (w.heap.size) 58 #[.string a.id,.string a.attr.var,.int .i64 a.attr.sym.kind,.string a.attr.sym.text,.int .i64 a.attr.sym.n,.int .i64 a.value.op,.string a.value.a.var,.int .i64 a.value.a.sym.kind,.string a.value.a.sym.text,.int .i64 a.value.a.sym.n,.string a.value.b.var,.int .i64 a.value.b.sym.kind,.string a.value.b.sym.text,.int .i64 a.value.b.sym.n,.int .i64 a.pref,.string a.other.var,.int .i64 a.other.sym.kind,.string a.other.sym.text,.int .i64 a.other.sym.n] by rw [hw1];exact (Blk.new w 58 #[.string a.id,.string a.attr.var,.int .i64 a.attr.sym.kind,.string a.attr.sym.text,.int .i64 a.attr.sym.n,.int .i64 a.value.op,.string a.value.a.var,.int .i64 a.value.a.sym.kind,.string a.value.a.sym.text,.int .i64 a.value.a.sym.n,.string a.value.b.var,.int .i64 a.value.b.sym.kind,.string a.value.b.sym.text,.int .i64 a.value.b.sym.n,.int .i64 a.pref,.string a.other.var,.int .i64 a.other.sym.kind,.string a.other.sym.text,.int .i64 a.other.sym.n]))
     clear hw1
     obtain ⟨b0,b1,b2,b3,b4,b5,b6,b7,b8,b9,b10,b11,b12,b13,b14,b15,b16,b17,b18⟩:=Kb.out.c19
     have bz:=Kb.out.lt
     go_upto_region 1 with fail
     refine wp_region_E (fun w9=>Below w1.heap.size w1 w9) [(0,0),(1,1),(2,0),(3,0),(4,0),(5,0),(6,1),(7,0),(8,0),(9,1),(13,0),(14,1),(18,0),(19,1),(10,2),(11,0),(12,0),(15,2),(16,0),(17,0),(20,2),(21,0),(22,0)] (by kernel_rfl) (by kernel_rfl) (fun KK hKK=>?_)
     simp only [beside,List.filterMap_cons,List.filterMap_nil,List.getElem?_toArray,List.getElem?_cons_zero,List.getElem?_cons_succ,Option.map_some]
     repeat ((first | (refine wpX_w ?_ (Or.inl ⟨by rfl,fun w9=>?_⟩) ?_;rotate_left 1;go_simp;with_reducible rfl) | (refine wpX_l ?_ (((Below.refl _ _).drew)) (Or.inl ⟨by rfl,fun w9 hw9=>?_⟩) ?_;rotate_left 1;obtain ⟨hc9,hf9⟩:=bcell hw9;go_simp;with_reducible rfl) | refine wpX_w undef (Or.inr ⟨by rfl,rfl⟩) ?_ | refine wpX_l undef (((Below.refl _ _).drew)) (Or.inr ⟨by rfl,rfl⟩) ?_);go_frame)
     refine wpX_es (fun K9 hK9=>?_)
     go_simp
     refine (satom_is a.attr.var a.attr.sym _ HA.out).mono ?_
     rintro e w5 ⟨rfl,hb5⟩
     have HBa:=Lib.hid (show Below w1.heap.size w1 w5 from ((Below.refl w1.heap.size w1).drew).trans (hb5.mono (by simp)))
     clear hb5
     refine hK9 _ _ HBa.out ?_
     clear hK9 K9
     repeat ((first | (refine wpX_w ?_ (Or.inl ⟨by rfl,fun w9=>?_⟩) ?_;rotate_left 1;go_simp;with_reducible rfl) | (refine wpX_l ?_ (HBa.out) (Or.inl ⟨by rfl,fun w9 hw9=>?_⟩) ?_;rotate_left 1;obtain ⟨hc9,hf9⟩:=bcell hw9;go_simp;with_reducible rfl) | refine wpX_w undef (Or.inr ⟨by rfl,rfl⟩) ?_ | refine wpX_l undef (HBa.out) (Or.inr ⟨by rfl,rfl⟩) ?_);go_frame)
     refine wpX_es (fun K9 hK9=>?_)
     go_simp
     refine (sterm_is a.value _ HT.out).mono ?_
     rintro e w6 ⟨rfl,hb5⟩
     have HBb:=Lib.hid (show Below w1.heap.size w1 w6 from (HBa.out).trans (hb5.mono (HBa.out.size)))
     clear hb5
     refine hK9 _ _ HBb.out ?_
     clear hK9 K9
     repeat ((first | (refine wpX_w ?_ (Or.inl ⟨by rfl,fun w9=>?_⟩) ?_;rotate_left 1;go_simp;with_reducible rfl) | (refine wpX_l ?_ (HBb.out) (Or.inl ⟨by rfl,fun w9 hw9=>?_⟩) ?_;rotate_left 1;obtain ⟨hc9,hf9⟩:=bcell hw9;go_simp;with_reducible rfl) | refine wpX_w undef (Or.inr ⟨by rfl,rfl⟩) ?_ | refine wpX_l undef (HBb.out) (Or.inr ⟨by rfl,rfl⟩) ?_);go_frame)
     refine wpX_es (fun K9 hK9=>?_)
     go_simp
     refine (ssign_is a.pref _).mono ?_
     rintro e w7 ⟨rfl,rfl⟩
     refine hK9 _ _ HBb.out ?_
     clear hK9 K9
     repeat ((first | (refine wpX_w ?_ (Or.inl ⟨by rfl,fun w9=>?_⟩) ?_;rotate_left 1;go_simp;with_reducible rfl) | (refine wpX_l ?_ (HBb.out) (Or.inl ⟨by rfl,fun w9 hw9=>?_⟩) ?_;rotate_left 1;obtain ⟨hc9,hf9⟩:=bcell hw9;go_simp;with_reducible rfl) | refine wpX_w undef (Or.inr ⟨by rfl,rfl⟩) ?_ | refine wpX_l undef (HBb.out) (Or.inr ⟨by rfl,rfl⟩) ?_);go_frame)
     refine wpX_nil ?_
     simp only [OnlyN_normal]
     refine hKK _ _ ?_
     clear hKK KK
     rw [← HS.out]
     have Kb:=Lib.hid (Kb.out.new_ HBb.out)
     have HB:=Lib.hid (HB.out.trans (HBb.out.mono HB.out.size))
     clear b0 b1 b2 b3 b4 b5 b6 b7 b8 b9 b10 b11 b12 b13 b14 b15 b16 b17 b18 bz y1 y2 y3 y4 y5 y6 y7
     obtain ⟨b0,b1,b2,b3,b4,b5,b6,b7,b8,b9,b10,b11,b12,b13,b14,b15,b16,b17,b18⟩:=Kb.out.c19
     have bz:=Kb.out.lt
     go_wp2_with fail
     with_reducible refine (satom_is a.other.var a.other.sym _ HO.out).mono ?_
     rintro e w2 ⟨rfl,hb⟩
     have hbs:=Below.trans (show Below w6.heap.size w6 _ from (by (repeat (first | exact Below.refl _ _ | refine Below.drew ?_ | refine Below.al ?_ _ | refine Below.sc ?_ _)))) (hb.mono (by simp<;>omega))
     have Kb:=Lib.hid (Kb.out.new_ hbs)
     have HB:=Lib.hid (HB.out.trans (hbs.mono HB.out.size))
     have hsz2:=hbs.size
     clear b0 b1 b2 b3 b4 b5 b6 b7 b8 b9 b10 b11 b12 b13 b14 b15 b16 b17 b18 bz hb hbs
     obtain ⟨b0,b1,b2,b3,b4,b5,b6,b7,b8,b9,b10,b11,b12,b13,b14,b15,b16,b17,b18⟩:=Kb.out.c19
     have bz:=Kb.out.lt
     go_wp2_with fail
     go_ret
     exact ⟨by rw [HR.out]<;>rfl,by (repeat (first | exact Below.refl _ _ | exact HB.out | refine Below.drew ?_ | refine Below.al ?_ _ | refine Below.sc ?_ _))⟩
   · skip
     by_cases h10:a.pref=10
     · skip
       have u8:(a.pref == 8)=false:=by simp [h10]
       have v8:decide (a.pref=8)=false:=by simp [h10]
       have u9:(a.pref == 9)=false:=by simp [h10]
       have v9:decide (a.pref=9)=false:=by simp [h10]
       have oa:(a.pref == 10)=true:=by simp [h10]
       have ob:decide (a.pref=10)=true:=by simp [h10]
       have HR:=Lib.hid (show actX a=S++(⟨#[32]⟩:ByteArray)++atomX a.other.var a.other.sym++(⟨#[41]⟩:ByteArray) by rw [HX.out,if_pos (by simp [otherB,h10])])
       rw [HR.out] at hz
       simp only [ByteArray.size_append] at hz
       have es:((⟨#[32]⟩:ByteArray)).size=1:=rfl
       have ec:((⟨#[41]⟩:ByteArray)).size=1:=rfl
       rw [es,ec] at hz
       have x1 : ¬MAXS<S.size+1+(atomX a.other.var a.other.sym).size:=by unfold MAXS at *;omega
       have x2 : ¬MAXS<S.size+1+(atomX a.other.var a.other.sym).size+1:=by unfold MAXS at *;omega
       have HO:=Lib.hid (show (atomX a.other.var a.other.sym).size≤MAXS by unfold MAXS at *;omega)
       clear hz es ec hle h8 h9 h10
       go_enter Try.func81,Try.ntmps81
       go_upto_region 1 with fail
       obtain ⟨w1,hw1⟩ : ∃w1,w1=(w.alloc (.cells #[.string a.id,.string a.attr.var,.int .i64 a.attr.sym.kind,.string a.attr.sym.text,.int .i64 a.attr.sym.n,.int .i64 a.value.op,.string a.value.a.var,.int .i64 a.value.a.sym.kind,.string a.value.a.sym.text,.int .i64 a.value.a.sym.n,.string a.value.b.var,.int .i64 a.value.b.sym.kind,.string a.value.b.sym.text,.int .i64 a.value.b.sym.n,.int .i64 a.pref,.string a.other.var,.int .i64 a.other.sym.kind,.string a.other.sym.text,.int .i64 a.other.sym.n] 58)):=⟨_,rfl⟩
       rw [← hw1]
       have HB:=Lib.hid (show Below w.heap.size w w1 by rw [hw1];exact (by repeat (first | exact Below.refl _ _ | refine Below.drew ?_ | refine Below.al ?_ _ | refine Below.sc ?_ _)))
       have Kb:=Lib.hid (show Blk w1 (w.heap.size) 58 #[.string a.id,.string a.attr.var,.int .i64 a.attr.sym.kind,.string a.attr.sym.text,.int .i64 a.attr.sym.n,.int .i64 a.value.op,.string a.value.a.var,.int .i64 a.value.a.sym.kind,.string a.value.a.sym.text,.int .i64 a.value.a.sym.n,.string a.value.b.var,.int .i64 a.value.b.sym.kind,.string a.value.b.sym.text,.int .i64 a.value.b.sym.n,.int .i64 a.pref,.string a.other.var,.int .i64 a.other.sym.kind,.string a.other.sym.text,.int .i64 a.other.sym.n] by rw [hw1];exact (Blk.new w 58 #[.string a.id,.string a.attr.var,.int .i64 a.attr.sym.kind,.string a.attr.sym.text,.int .i64 a.attr.sym.n,.int .i64 a.value.op,.string a.value.a.var,.int .i64 a.value.a.sym.kind,.string a.value.a.sym.text,.int .i64 a.value.a.sym.n,.string a.value.b.var,.int .i64 a.value.b.sym.kind,.string a.value.b.sym.text,.int .i64 a.value.b.sym.n,.int .i64 a.pref,.string a.other.var,.int .i64 a.other.sym.kind,.string a.other.sym.text,.int .i64 a.other.sym.n]))
       clear hw1
       obtain ⟨b0,b1,b2,b3,b4,b5,b6,b7,b8,b9,b10,b11,b12,b13,b14,b15,b16,b17,b18⟩:=Kb.out.c19
       have bz:=Kb.out.lt
       go_upto_region 1 with fail
       refine wp_region_E (fun w9=>Below w1.heap.size w1 w9) [(0,0),(1,1),(2,0),(3,0),(4,0),(5,0),(6,1),(7,0),(8,0),(9,1),(13,0),(14,1),(18,0),(19,1),(10,2),(11,0),(12,0),(15,2),(16,0),(17,0),(20,2),(21,0),(22,0)] (by kernel_rfl) (by kernel_rfl) (fun KK hKK=>?_)
       simp only [beside,List.filterMap_cons,List.filterMap_nil,List.getElem?_toArray,List.getElem?_cons_zero,List.getElem?_cons_succ,Option.map_some]
       repeat ((first | (refine wpX_w ?_ (Or.inl ⟨by rfl,fun w9=>?_⟩) ?_;rotate_left 1;go_simp;with_reducible rfl) | (refine wpX_l ?_ (((Below.refl _ _).drew)) (Or.inl ⟨by rfl,fun w9 hw9=>?_⟩) ?_;rotate_left 1;obtain ⟨hc9,hf9⟩:=bcell hw9;go_simp;with_reducible rfl) | refine wpX_w undef (Or.inr ⟨by rfl,rfl⟩) ?_ | refine wpX_l undef (((Below.refl _ _).drew)) (Or.inr ⟨by rfl,rfl⟩) ?_);go_frame)
       refine wpX_es (fun K9 hK9=>?_)
       go_simp
       refine (satom_is a.attr.var a.attr.sym _ HA.out).mono ?_
       rintro e w5 ⟨rfl,hb5⟩
       have HBa:=Lib.hid (show Below w1.heap.size w1 w5 from ((Below.refl w1.heap.size w1).drew).trans (hb5.mono (by simp)))
       clear hb5
       refine hK9 _ _ HBa.out ?_
       clear hK9 K9
       repeat ((first | (refine wpX_w ?_ (Or.inl ⟨by rfl,fun w9=>?_⟩) ?_;rotate_left 1;go_simp;with_reducible rfl) | (refine wpX_l ?_ (HBa.out) (Or.inl ⟨by rfl,fun w9 hw9=>?_⟩) ?_;rotate_left 1;obtain ⟨hc9,hf9⟩:=bcell hw9;go_simp;with_reducible rfl) | refine wpX_w undef (Or.inr ⟨by rfl,rfl⟩) ?_ | refine wpX_l undef (HBa.out) (Or.inr ⟨by rfl,rfl⟩) ?_);go_frame)
       refine wpX_es (fun K9 hK9=>?_)
       go_simp
       refine (sterm_is a.value _ HT.out).mono ?_
       rintro e w6 ⟨rfl,hb5⟩
       have HBb:=Lib.hid (show Below w1.heap.size w1 w6 from (HBa.out).trans (hb5.mono (HBa.out.size)))
       clear hb5
       refine hK9 _ _ HBb.out ?_
       clear hK9 K9
       repeat ((first | (refine wpX_w ?_ (Or.inl ⟨by rfl,fun w9=>?_⟩) ?_;rotate_left 1;go_simp;with_reducible rfl) | (refine wpX_l ?_ (HBb.out) (Or.inl ⟨by rfl,fun w9 hw9=>?_⟩) ?_;rotate_left 1;obtain ⟨hc9,hf9⟩:=bcell hw9;go_simp;with_reducible rfl) | refine wpX_w undef (Or.inr ⟨by rfl,rfl⟩) ?_ | refine wpX_l undef (HBb.out) (Or.inr ⟨by rfl,rfl⟩) ?_);go_frame)
       refine wpX_es (fun K9 hK9=>?_)
       go_simp
       refine (ssign_is a.pref _).mono ?_
       rintro e w7 ⟨rfl,rfl⟩
       refine hK9 _ _ HBb.out ?_
       clear hK9 K9
       repeat ((first | (refine wpX_w ?_ (Or.inl ⟨by rfl,fun w9=>?_⟩) ?_;rotate_left 1;go_simp;with_reducible rfl) | (refine wpX_l ?_ (HBb.out) (Or.inl ⟨by rfl,fun w9 hw9=>?_⟩) ?_;rotate_left 1;obtain ⟨hc9,hf9⟩:=bcell hw9;go_simp;with_reducible rfl) | refine wpX_w undef (Or.inr ⟨by rfl,rfl⟩) ?_ | refine wpX_l undef (HBb.out) (Or.inr ⟨by rfl,rfl⟩) ?_);go_frame)
       refine wpX_nil ?_
       simp only [OnlyN_normal]
       refine hKK _ _ ?_
       clear hKK KK
       rw [← HS.out]
       have Kb:=Lib.hid (Kb.out.new_ HBb.out)
       have HB:=Lib.hid (HB.out.trans (HBb.out.mono HB.out.size))
       clear b0 b1 b2 b3 b4 b5 b6 b7 b8 b9 b10 b11 b12 b13 b14 b15 b16 b17 b18 bz y1 y2 y3 y4 y5 y6 y7
       obtain ⟨b0,b1,b2,b3,b4,b5,b6,b7,b8,b9,b10,b11,b12,b13,b14,b15,b16,b17,b18⟩:=Kb.out.c19
       have bz:=Kb.out.lt
       go_wp2_with fail
       with_reducible refine (satom_is a.other.var a.other.sym _ HO.out).mono ?_
       rintro e w2 ⟨rfl,hb⟩
       have hbs:=Below.trans (show Below w6.heap.size w6 _ from (by (repeat (first | exact Below.refl _ _ | refine Below.drew ?_ | refine Below.al ?_ _ | refine Below.sc ?_ _)))) (hb.mono (by simp<;>omega))
       have Kb:=Lib.hid (Kb.out.new_ hbs)
       have HB:=Lib.hid (HB.out.trans (hbs.mono HB.out.size))
       have hsz2:=hbs.size
       clear b0 b1 b2 b3 b4 b5 b6 b7 b8 b9 b10 b11 b12 b13 b14 b15 b16 b17 b18 bz hb hbs
       obtain ⟨b0,b1,b2,b3,b4,b5,b6,b7,b8,b9,b10,b11,b12,b13,b14,b15,b16,b17,b18⟩:=Kb.out.c19
       have bz:=Kb.out.lt
       go_wp2_with fail
       go_ret
       exact ⟨by rw [HR.out]<;>rfl,by (repeat (first | exact Below.refl _ _ | exact HB.out | refine Below.drew ?_ | refine Below.al ?_ _ | refine Below.sc ?_ _))⟩
     · skip
       have u8:(a.pref == 8)=false:=by simp [h8]
       have v8:decide (a.pref=8)=false:=by simp [h8]
       have u9:(a.pref == 9)=false:=by simp [h9]
       have v9:decide (a.pref=9)=false:=by simp [h9]
       have u10:(a.pref == 10)=false:=by simp [h10]
       have v10:decide (a.pref=10)=false:=by simp [h10]
       have HR:=Lib.hid (show actX a=S++(⟨#[41]⟩:ByteArray) by rw [HX.out,if_neg (by simp [otherB,h8,h9,h10])])
       clear h8 h9 h10 hz hle
       go_enter Try.func81,Try.ntmps81
       go_upto_region 1 with fail
       obtain ⟨w1,hw1⟩ : ∃w1,w1=(w.alloc (.cells #[.string a.id,.string a.attr.var,.int .i64 a.attr.sym.kind,.string a.attr.sym.text,.int .i64 a.attr.sym.n,.int .i64 a.value.op,.string a.value.a.var,.int .i64 a.value.a.sym.kind,.string a.value.a.sym.text,.int .i64 a.value.a.sym.n,.string a.value.b.var,.int .i64 a.value.b.sym.kind,.string a.value.b.sym.text,.int .i64 a.value.b.sym.n,.int .i64 a.pref,.string a.other.var,.int .i64 a.other.sym.kind,.string a.other.sym.text,.int .i64 a.other.sym.n] 58)):=⟨_,rfl⟩
       rw [← hw1]
       have HB:=Lib.hid (show Below w.heap.size w w1 by rw [hw1];exact (by repeat (first | exact Below.refl _ _ | refine Below.drew ?_ | refine Below.al ?_ _ | refine Below.sc ?_ _)))
       have Kb:=Lib.hid (show Blk w1 (w.heap.size) 58 #[.string a.id,.string a.attr.var,.int .i64 a.attr.sym.kind,.string a.attr.sym.text,.int .i64 a.attr.sym.n,.int .i64 a.value.op,.string a.value.a.var,.int .i64 a.value.a.sym.kind,.string a.value.a.sym.text,.int .i64 a.value.a.sym.n,.string a.value.b.var,.int .i64 a.value.b.sym.kind,.string a.value.b.sym.text,.int .i64 a.value.b.sym.n,.int .i64 a.pref,.string a.other.var,.int .i64 a.other.sym.kind,.string a.other.sym.text,.int .i64 a.other.sym.n] by rw [hw1];exact (Blk.new w 58 #[.string a.id,.string a.attr.var,.int .i64 a.attr.sym.kind,.string a.attr.sym.text,.int .i64 a.attr.sym.n,.int .i64 a.value.op,.string a.value.a.var,.int .i64 a.value.a.sym.kind,.string a.value.a.sym.text,.int .i64 a.value.a.sym.n,.string a.value.b.var,.int .i64 a.value.b.sym.kind,.string a.value.b.sym.text,.int .i64 a.value.b.sym.n,.int .i64 a.pref,.string a.other.var,.int .i64 a.other.sym.kind,.string a.other.sym.text,.int .i64 a.other.sym.n]))
       clear hw1
       obtain ⟨b0,b1,b2,b3,b4,b5,b6,b7,b8,b9,b10,b11,b12,b13,b14,b15,b16,b17,b18⟩:=Kb.out.c19
       have bz:=Kb.out.lt
       go_upto_region 1 with fail
       refine wp_region_E (fun w9=>Below w1.heap.size w1 w9) [(0,0),(1,1),(2,0),(3,0),(4,0),(5,0),(6,1),(7,0),(8,0),(9,1),(13,0),(14,1),(18,0),(19,1),(10,2),(11,0),(12,0),(15,2),(16,0),(17,0),(20,2),(21,0),(22,0)] (by kernel_rfl) (by kernel_rfl) (fun KK hKK=>?_)
       simp only [beside,List.filterMap_cons,List.filterMap_nil,List.getElem?_toArray,List.getElem?_cons_zero,List.getElem?_cons_succ,Option.map_some]
       repeat ((first | (refine wpX_w ?_ (Or.inl ⟨by rfl,fun w9=>?_⟩) ?_;rotate_left 1;go_simp;with_reducible rfl) | (refine wpX_l ?_ (((Below.refl _ _).drew)) (Or.inl ⟨by rfl,fun w9 hw9=>?_⟩) ?_;rotate_left 1;obtain ⟨hc9,hf9⟩:=bcell hw9;go_simp;with_reducible rfl) | refine wpX_w undef (Or.inr ⟨by rfl,rfl⟩) ?_ | refine wpX_l undef (((Below.refl _ _).drew)) (Or.inr ⟨by rfl,rfl⟩) ?_);go_frame)
       refine wpX_es (fun K9 hK9=>?_)
       go_simp
       refine (satom_is a.attr.var a.attr.sym _ HA.out).mono ?_
       rintro e w5 ⟨rfl,hb5⟩
       have HBa:=Lib.hid (show Below w1.heap.size w1 w5 from ((Below.refl w1.heap.size w1).drew).trans (hb5.mono (by simp)))
       clear hb5
       refine hK9 _ _ HBa.out ?_
       clear hK9 K9
       repeat ((first | (refine wpX_w ?_ (Or.inl ⟨by rfl,fun w9=>?_⟩) ?_;rotate_left 1;go_simp;with_reducible rfl) | (refine wpX_l ?_ (HBa.out) (Or.inl ⟨by rfl,fun w9 hw9=>?_⟩) ?_;rotate_left 1;obtain ⟨hc9,hf9⟩:=bcell hw9;go_simp;with_reducible rfl) | refine wpX_w undef (Or.inr ⟨by rfl,rfl⟩) ?_ | refine wpX_l undef (HBa.out) (Or.inr ⟨by rfl,rfl⟩) ?_);go_frame)
       refine wpX_es (fun K9 hK9=>?_)
       go_simp
       refine (sterm_is a.value _ HT.out).mono ?_
       rintro e w6 ⟨rfl,hb5⟩
       have HBb:=Lib.hid (show Below w1.heap.size w1 w6 from (HBa.out).trans (hb5.mono (HBa.out.size)))
       clear hb5
       refine hK9 _ _ HBb.out ?_
       clear hK9 K9
       repeat ((first | (refine wpX_w ?_ (Or.inl ⟨by rfl,fun w9=>?_⟩) ?_;rotate_left 1;go_simp;with_reducible rfl) | (refine wpX_l ?_ (HBb.out) (Or.inl ⟨by rfl,fun w9 hw9=>?_⟩) ?_;rotate_left 1;obtain ⟨hc9,hf9⟩:=bcell hw9;go_simp;with_reducible rfl) | refine wpX_w undef (Or.inr ⟨by rfl,rfl⟩) ?_ | refine wpX_l undef (HBb.out) (Or.inr ⟨by rfl,rfl⟩) ?_);go_frame)
       refine wpX_es (fun K9 hK9=>?_)
       go_simp
       refine (ssign_is a.pref _).mono ?_
       rintro e w7 ⟨rfl,rfl⟩
       refine hK9 _ _ HBb.out ?_
       clear hK9 K9
       repeat ((first | (refine wpX_w ?_ (Or.inl ⟨by rfl,fun w9=>?_⟩) ?_;rotate_left 1;go_simp;with_reducible rfl) | (refine wpX_l ?_ (HBb.out) (Or.inl ⟨by rfl,fun w9 hw9=>?_⟩) ?_;rotate_left 1;obtain ⟨hc9,hf9⟩:=bcell hw9;go_simp;with_reducible rfl) | refine wpX_w undef (Or.inr ⟨by rfl,rfl⟩) ?_ | refine wpX_l undef (HBb.out) (Or.inr ⟨by rfl,rfl⟩) ?_);go_frame)
       refine wpX_nil ?_
       simp only [OnlyN_normal]
       refine hKK _ _ ?_
       clear hKK KK
       rw [← HS.out]
       have Kb:=Lib.hid (Kb.out.new_ HBb.out)
       have HB:=Lib.hid (HB.out.trans (HBb.out.mono HB.out.size))
       clear b0 b1 b2 b3 b4 b5 b6 b7 b8 b9 b10 b11 b12 b13 b14 b15 b16 b17 b18 bz y1 y2 y3 y4 y5 y6 y7
       obtain ⟨b0,b1,b2,b3,b4,b5,b6,b7,b8,b9,b10,b11,b12,b13,b14,b15,b16,b17,b18⟩:=Kb.out.c19
       have bz:=Kb.out.lt
       go_wp2_with fail
       go_ret
       exact ⟨by rw [HR.out]<;>rfl,by (repeat (first | exact Below.refl _ _ | exact HB.out | refine Below.drew ?_ | refine Below.al ?_ _ | refine Below.sc ?_ _))⟩
end Go.Proofs.Ytffemfglngikbaa
namespace Go.Proofs.Ytffemfglngikbaa
open Go.RowKit Go.Shelf
set_option maxRecDepth 100000 in
set_option maxHeartbeats 8000000 in
theorem test_is (t:TestT) (A:Option Addr) (c:Nat) (w:World) (hrd:RowRd w 3 Sym.cells A c t.list):Calls Try.prog 105 #[.agg #[.int .i64 t.rel,.string t.var,.int .i64 t.sym.kind,.string t.sym.text,.int .i64 t.sym.n,.slice A t.list.length c]] w fun e w'=>e = .returned (.bool (testB t))∧Below w.heap.size w w':=by
 have HRD:=Lib.hid hrd
 have hlc:=hrd.cap
 clear hrd
 by_cases h8:t.rel=8
 · by_cases hv:t.var.toList = []
   · by_cases hn:noneB t.sym=false
     · have r1:(t.rel == 8)=true:=by simp [h8]
       have r2:decide (t.rel=8)=true:=by simp [h8]
       have v1:(t.var.toList == [])=true:=by simp [hv]
       have v2:t.var.toList.isEmpty=true:=by simp [hv]
       have v3:decide (t.var.toList = [])=true:=by simp [hv]
       have n1:=hn
       have HR:=Lib.hid (show testB t=false by simp [testB, *])
       clear h8 hv hn
       go_enter Try.func105,Try.ntmps105
       go_upto_region 1 with fail
       obtain ⟨W1,hW1⟩ : ∃W1,W1=w.alloc (.cells #[.int .i64 t.rel,.string t.var,.int .i64 t.sym.kind,.string t.sym.text,.int .i64 t.sym.n,.slice A t.list.length c] 65):=⟨_,rfl⟩
       rw [← hW1]
       have hBk:Blk W1 w.heap.size 65 #[.int .i64 t.rel,.string t.var,.int .i64 t.sym.kind,.string t.sym.text,.int .i64 t.sym.n,.slice A t.list.length c]:=by rw [hW1];exact Blk.new _ _ _
       have HB:=Lib.hid (show Below w.heap.size w W1 by rw [hW1];exact (Below.refl _ _).alloc (Nat.le_refl _) _)
       have e0:W1.cell? ⟨w.heap.size,0,none⟩=some (.int .i64 t.rel):=(hBk.cell 0).trans rfl
       have e1:W1.cell? ⟨w.heap.size,1,none⟩=some (.string t.var):=(hBk.cell 1).trans rfl
       have e2:W1.cell? ⟨w.heap.size,2,none⟩=some (.int .i64 t.sym.kind):=(hBk.cell 2).trans rfl
       have e3:W1.cell? ⟨w.heap.size,3,none⟩=some (.string t.sym.text):=(hBk.cell 3).trans rfl
       have e4:W1.cell? ⟨w.heap.size,4,none⟩=some (.int .i64 t.sym.n):=(hBk.cell 4).trans rfl
       have e5:W1.cell? ⟨w.heap.size,5,none⟩=some (.slice A t.list.length c):=(hBk.cell 5).trans rfl
       have hbl:=hBk.lt
       clear hW1 hBk
       go_wp2_with (first | (go_at_call 106;refine (none_is t.sym _).mono ?_;rintro e w9 ⟨rfl,hb9⟩;have HB:=Lib.hid (HB.out.trans (hb9.mono HB.out.size));replace e0:=(hb9.cell (p:=⟨w.heap.size,0,none⟩) hbl).trans e0;replace e1:=(hb9.cell (p:=⟨w.heap.size,1,none⟩) hbl).trans e1;replace e2:=(hb9.cell (p:=⟨w.heap.size,2,none⟩) hbl).trans e2;replace e3:=(hb9.cell (p:=⟨w.heap.size,3,none⟩) hbl).trans e3;replace e4:=(hb9.cell (p:=⟨w.heap.size,4,none⟩) hbl).trans e4;replace e5:=(hb9.cell (p:=⟨w.heap.size,5,none⟩) hbl).trans e5;replace hbl:=Nat.lt_of_lt_of_le hbl hb9.size;clear hb9) | (go_at_call 107;refine (constant_is t.sym _).mono ?_;rintro e w9 ⟨rfl,hb9⟩;have HB:=Lib.hid (HB.out.trans (hb9.mono HB.out.size));replace e0:=(hb9.cell (p:=⟨w.heap.size,0,none⟩) hbl).trans e0;replace e1:=(hb9.cell (p:=⟨w.heap.size,1,none⟩) hbl).trans e1;replace e2:=(hb9.cell (p:=⟨w.heap.size,2,none⟩) hbl).trans e2;replace e3:=(hb9.cell (p:=⟨w.heap.size,3,none⟩) hbl).trans e3;replace e4:=(hb9.cell (p:=⟨w.heap.size,4,none⟩) hbl).trans e4;replace e5:=(hb9.cell (p:=⟨w.heap.size,5,none⟩) hbl).trans e5;replace hbl:=Nat.lt_of_lt_of_le hbl hb9.size;clear hb9) | (go_at_call 86;refine (word_is t.var _).mono ?_;rintro e w9 ⟨rfl,rfl⟩))
       go_ret
       exact ⟨by rw [HR.out]<;>rfl,HB.out⟩
     by_cases h1:t.list.length<1
     · have r1:(t.rel == 8)=true:=by simp [h8]
       have r2:decide (t.rel=8)=true:=by simp [h8]
       have v1:(t.var.toList == [])=true:=by simp [hv]
       have v2:t.var.toList.isEmpty=true:=by simp [hv]
       have v3:decide (t.var.toList = [])=true:=by simp [hv]
       have n1:noneB t.sym=true:=by simpa using hn
       have l1:decide ((t.list.length:Int)<1)=true:=decide_eq_true (by omega)
       have l2:decide (t.list.length<1)=true:=decide_eq_true (by omega)
       have l3:t.list.length=0:=by omega
       have l4:=l3
       have HR:=Lib.hid (show testB t=false by simp [testB, *])
       clear h8 hv hn h1 l3 l4
       go_enter Try.func105,Try.ntmps105
       go_upto_region 1 with fail
       obtain ⟨W1,hW1⟩ : ∃W1,W1=w.alloc (.cells #[.int .i64 t.rel,.string t.var,.int .i64 t.sym.kind,.string t.sym.text,.int .i64 t.sym.n,.slice A t.list.length c] 65):=⟨_,rfl⟩
       rw [← hW1]
       have hBk:Blk W1 w.heap.size 65 #[.int .i64 t.rel,.string t.var,.int .i64 t.sym.kind,.string t.sym.text,.int .i64 t.sym.n,.slice A t.list.length c]:=by rw [hW1];exact Blk.new _ _ _
       have HB:=Lib.hid (show Below w.heap.size w W1 by rw [hW1];exact (Below.refl _ _).alloc (Nat.le_refl _) _)
       have e0:W1.cell? ⟨w.heap.size,0,none⟩=some (.int .i64 t.rel):=(hBk.cell 0).trans rfl
       have e1:W1.cell? ⟨w.heap.size,1,none⟩=some (.string t.var):=(hBk.cell 1).trans rfl
       have e2:W1.cell? ⟨w.heap.size,2,none⟩=some (.int .i64 t.sym.kind):=(hBk.cell 2).trans rfl
       have e3:W1.cell? ⟨w.heap.size,3,none⟩=some (.string t.sym.text):=(hBk.cell 3).trans rfl
       have e4:W1.cell? ⟨w.heap.size,4,none⟩=some (.int .i64 t.sym.n):=(hBk.cell 4).trans rfl
       have e5:W1.cell? ⟨w.heap.size,5,none⟩=some (.slice A t.list.length c):=(hBk.cell 5).trans rfl
       have hbl:=hBk.lt
       clear hW1 hBk
       go_wp2_with (first | (go_at_call 106;refine (none_is t.sym _).mono ?_;rintro e w9 ⟨rfl,hb9⟩;have HB:=Lib.hid (HB.out.trans (hb9.mono HB.out.size));replace e0:=(hb9.cell (p:=⟨w.heap.size,0,none⟩) hbl).trans e0;replace e1:=(hb9.cell (p:=⟨w.heap.size,1,none⟩) hbl).trans e1;replace e2:=(hb9.cell (p:=⟨w.heap.size,2,none⟩) hbl).trans e2;replace e3:=(hb9.cell (p:=⟨w.heap.size,3,none⟩) hbl).trans e3;replace e4:=(hb9.cell (p:=⟨w.heap.size,4,none⟩) hbl).trans e4;replace e5:=(hb9.cell (p:=⟨w.heap.size,5,none⟩) hbl).trans e5;replace hbl:=Nat.lt_of_lt_of_le hbl hb9.size;clear hb9) | (go_at_call 107;refine (constant_is t.sym _).mono ?_;rintro e w9 ⟨rfl,hb9⟩;have HB:=Lib.hid (HB.out.trans (hb9.mono HB.out.size));replace e0:=(hb9.cell (p:=⟨w.heap.size,0,none⟩) hbl).trans e0;replace e1:=(hb9.cell (p:=⟨w.heap.size,1,none⟩) hbl).trans e1;replace e2:=(hb9.cell (p:=⟨w.heap.size,2,none⟩) hbl).trans e2;replace e3:=(hb9.cell (p:=⟨w.heap.size,3,none⟩) hbl).trans e3;replace e4:=(hb9.cell (p:=⟨w.heap.size,4,none⟩) hbl).trans e4;replace e5:=(hb9.cell (p:=⟨w.heap.size,5,none⟩) hbl).trans e5;replace hbl:=Nat.lt_of_lt_of_le hbl hb9.size;clear hb9) | (go_at_call 86;refine (word_is t.var _).mono ?_;rintro e w9 ⟨rfl,rfl⟩))
       go_ret
       exact ⟨by rw [HR.out]<;>rfl,HB.out⟩
     by_cases h9:8<t.list.length
     · have r1:(t.rel == 8)=true:=by simp [h8]
       have r2:decide (t.rel=8)=true:=by simp [h8]
       have v1:(t.var.toList == [])=true:=by simp [hv]
       have v2:t.var.toList.isEmpty=true:=by simp [hv]
       have v3:decide (t.var.toList = [])=true:=by simp [hv]
       have n1:noneB t.sym=true:=by simpa using hn
       have l1:decide ((t.list.length:Int)<1)=false:=decide_eq_false (by omega)
       have l2:decide (t.list.length<1)=false:=decide_eq_false (by omega)
       have l3:decide ((8:Int)<(t.list.length:Int))=true:=decide_eq_true (by omega)
       have l4:decide (8<t.list.length)=true:=decide_eq_true (by omega)
       have l5 : ¬t.list.length≤8:=by omega
       have HR:=Lib.hid (show testB t=false by simp [testB, *])
       clear h8 hv hn h1 h9 l5
       go_enter Try.func105,Try.ntmps105
       go_upto_region 1 with fail
       obtain ⟨W1,hW1⟩ : ∃W1,W1=w.alloc (.cells #[.int .i64 t.rel,.string t.var,.int .i64 t.sym.kind,.string t.sym.text,.int .i64 t.sym.n,.slice A t.list.length c] 65):=⟨_,rfl⟩
       rw [← hW1]
       have hBk:Blk W1 w.heap.size 65 #[.int .i64 t.rel,.string t.var,.int .i64 t.sym.kind,.string t.sym.text,.int .i64 t.sym.n,.slice A t.list.length c]:=by rw [hW1];exact Blk.new _ _ _
       have HB:=Lib.hid (show Below w.heap.size w W1 by rw [hW1];exact (Below.refl _ _).alloc (Nat.le_refl _) _)
       have e0:W1.cell? ⟨w.heap.size,0,none⟩=some (.int .i64 t.rel):=(hBk.cell 0).trans rfl
       have e1:W1.cell? ⟨w.heap.size,1,none⟩=some (.string t.var):=(hBk.cell 1).trans rfl
       have e2:W1.cell? ⟨w.heap.size,2,none⟩=some (.int .i64 t.sym.kind):=(hBk.cell 2).trans rfl
       have e3:W1.cell? ⟨w.heap.size,3,none⟩=some (.string t.sym.text):=(hBk.cell 3).trans rfl
       have e4:W1.cell? ⟨w.heap.size,4,none⟩=some (.int .i64 t.sym.n):=(hBk.cell 4).trans rfl
       have e5:W1.cell? ⟨w.heap.size,5,none⟩=some (.slice A t.list.length c):=(hBk.cell 5).trans rfl
       have hbl:=hBk.lt
       clear hW1 hBk
       go_wp2_with (first | (go_at_call 106;refine (none_is t.sym _).mono ?_;rintro e w9 ⟨rfl,hb9⟩;have HB:=Lib.hid (HB.out.trans (hb9.mono HB.out.size));replace e0:=(hb9.cell (p:=⟨w.heap.size,0,none⟩) hbl).trans e0;replace e1:=(hb9.cell (p:=⟨w.heap.size,1,none⟩) hbl).trans e1;replace e2:=(hb9.cell (p:=⟨w.heap.size,2,none⟩) hbl).trans e2;replace e3:=(hb9.cell (p:=⟨w.heap.size,3,none⟩) hbl).trans e3;replace e4:=(hb9.cell (p:=⟨w.heap.size,4,none⟩) hbl).trans e4;replace e5:=(hb9.cell (p:=⟨w.heap.size,5,none⟩) hbl).trans e5;replace hbl:=Nat.lt_of_lt_of_le hbl hb9.size;clear hb9) | (go_at_call 107;refine (constant_is t.sym _).mono ?_;rintro e w9 ⟨rfl,hb9⟩;have HB:=Lib.hid (HB.out.trans (hb9.mono HB.out.size));replace e0:=(hb9.cell (p:=⟨w.heap.size,0,none⟩) hbl).trans e0;replace e1:=(hb9.cell (p:=⟨w.heap.size,1,none⟩) hbl).trans e1;replace e2:=(hb9.cell (p:=⟨w.heap.size,2,none⟩) hbl).trans e2;replace e3:=(hb9.cell (p:=⟨w.heap.size,3,none⟩) hbl).trans e3;replace e4:=(hb9.cell (p:=⟨w.heap.size,4,none⟩) hbl).trans e4;replace e5:=(hb9.cell (p:=⟨w.heap.size,5,none⟩) hbl).trans e5;replace hbl:=Nat.lt_of_lt_of_le hbl hb9.size;clear hb9) | (go_at_call 86;refine (word_is t.var _).mono ?_;rintro e w9 ⟨rfl,rfl⟩))
       go_ret
       exact ⟨by rw [HR.out]<;>rfl,HB.out⟩
     have r1:(t.rel == 8)=true:=by simp [h8]
     have r2:decide (t.rel=8)=true:=by simp [h8]
     have v1:(t.var.toList == [])=true:=by simp [hv]
     have v2:t.var.toList.isEmpty=true:=by simp [hv]
     have v3:decide (t.var.toList = [])=true:=by simp [hv]
     have n1:noneB t.sym=true:=by simpa using hn
     have l1:decide ((t.list.length:Int)<1)=false:=decide_eq_false (by omega)
     have l2:decide (t.list.length<1)=false:=decide_eq_false (by omega)
     have l3:decide ((8:Int)<(t.list.length:Int))=false:=decide_eq_false (by omega)
     have l4:decide (8<t.list.length)=false:=decide_eq_false (by omega)
     have l5:t.list.length≤8:=by omega
     have l6:1≤t.list.length:=by omega
     have HR:=Lib.hid (show testB t=t.list.all constB by simp [testB, *])
     clear h8 hv hn h1 h9 l5 l6
     go_enter Try.func105,Try.ntmps105
     go_upto_region 1 with fail
     obtain ⟨W1,hW1⟩ : ∃W1,W1=w.alloc (.cells #[.int .i64 t.rel,.string t.var,.int .i64 t.sym.kind,.string t.sym.text,.int .i64 t.sym.n,.slice A t.list.length c] 65):=⟨_,rfl⟩
     rw [← hW1]
     have hBk:Blk W1 w.heap.size 65 #[.int .i64 t.rel,.string t.var,.int .i64 t.sym.kind,.string t.sym.text,.int .i64 t.sym.n,.slice A t.list.length c]:=by rw [hW1];exact Blk.new _ _ _
     have HB:=Lib.hid (show Below w.heap.size w W1 by rw [hW1];exact (Below.refl _ _).alloc (Nat.le_refl _) _)
     have e0:W1.cell? ⟨w.heap.size,0,none⟩=some (.int .i64 t.rel):=(hBk.cell 0).trans rfl
     have e1:W1.cell? ⟨w.heap.size,1,none⟩=some (.string t.var):=(hBk.cell 1).trans rfl
     have e2:W1.cell? ⟨w.heap.size,2,none⟩=some (.int .i64 t.sym.kind):=(hBk.cell 2).trans rfl
     have e3:W1.cell? ⟨w.heap.size,3,none⟩=some (.string t.sym.text):=(hBk.cell 3).trans rfl
     have e4:W1.cell? ⟨w.heap.size,4,none⟩=some (.int .i64 t.sym.n):=(hBk.cell 4).trans rfl
     have e5:W1.cell? ⟨w.heap.size,5,none⟩=some (.slice A t.list.length c):=(hBk.cell 5).trans rfl
     have hbl:=hBk.lt
     clear hW1 hBk
     go_wp2_with (first | (go_at_call 106;refine (none_is t.sym _).mono ?_;rintro e w9 ⟨rfl,hb9⟩;have HB:=Lib.hid (HB.out.trans (hb9.mono HB.out.size));replace e0:=(hb9.cell (p:=⟨w.heap.size,0,none⟩) hbl).trans e0;replace e1:=(hb9.cell (p:=⟨w.heap.size,1,none⟩) hbl).trans e1;replace e2:=(hb9.cell (p:=⟨w.heap.size,2,none⟩) hbl).trans e2;replace e3:=(hb9.cell (p:=⟨w.heap.size,3,none⟩) hbl).trans e3;replace e4:=(hb9.cell (p:=⟨w.heap.size,4,none⟩) hbl).trans e4;replace e5:=(hb9.cell (p:=⟨w.heap.size,5,none⟩) hbl).trans e5;replace hbl:=Nat.lt_of_lt_of_le hbl hb9.size;clear hb9) | (go_at_call 107;refine (constant_is t.sym _).mono ?_;rintro e w9 ⟨rfl,hb9⟩;have HB:=Lib.hid (HB.out.trans (hb9.mono HB.out.size));replace e0:=(hb9.cell (p:=⟨w.heap.size,0,none⟩) hbl).trans e0;replace e1:=(hb9.cell (p:=⟨w.heap.size,1,none⟩) hbl).trans e1;replace e2:=(hb9.cell (p:=⟨w.heap.size,2,none⟩) hbl).trans e2;replace e3:=(hb9.cell (p:=⟨w.heap.size,3,none⟩) hbl).trans e3;replace e4:=(hb9.cell (p:=⟨w.heap.size,4,none⟩) hbl).trans e4;replace e5:=(hb9.cell (p:=⟨w.heap.size,5,none⟩) hbl).trans e5;replace hbl:=Nat.lt_of_lt_of_le hbl hb9.size;clear hb9) | (go_at_call 86;refine (word_is t.var _).mono ?_;rintro e w9 ⟨rfl,rfl⟩))
     clear e0 e1 e2 e3 e4 e5
     have HBX:=Lib.hid HB.out
     go_loopw [32] (fun s wr=>∃i:Nat,s = .int .i64 i∧i≤t.list.length∧(∀k,(h:k<t.list.length)→k<i→constB t.list[k]=true)∧Below w.heap.size w wr) (fun s wr=>t.list.length - (intOf s).toNat)
     case atStart=>exact ⟨0,rfl,Nat.zero_le _,fun k _ h=>absurd h (by omega),HBX.out⟩
     case round=>
      obtain ⟨i,rfl,hi,hall,hB⟩:=hrel
      have HALL:=Lib.hid hall
      have HBr:=Lib.hid hB
      clear hall hB
      by_cases hlt:i<t.list.length
      · obtain ⟨y,hy⟩ : ∃y,y=t.list[i]:=⟨_,rfl⟩
        obtain ⟨g,off,rfl,hg,q0,q1,q2⟩:=sym_at (HRD.out.new_ HBr.out) hlt
        rw [← hy] at q0 q1 q2
        have HY:=Lib.hid hy
        have b1:(0:Int)≤(i:Int):=by omega
        have b2:(i:Int)<(t.list.length:Int):=by omega
        have hzr:=HBr.out.size
        clear hy
        go_wp2_with fail
        refine (constant_is y _).mono ?_
        rintro e w9 ⟨rfl,hb9⟩
        have HB9:=Lib.hid (HBr.out.trans ((Below.trans (show Below wr.heap.size wr _ from (by (repeat (first | exact Below.refl _ _ | refine Below.drew ?_ | refine Below.al ?_ _ | refine Below.sc ?_ _)))) (hb9.mono (by simp)):Below wr.heap.size wr w9).mono hzr))
        clear hb9 q0 q1 q2
        cases hcb:constB y
        · have HRf:=Lib.hid (show t.list.all constB=false from List.all_eq_false.2 ⟨y,by rw [HY.out];exact List.getElem_mem hlt,by rw [hcb];simp⟩)
          clear hcb
          go_wp2_with fail
          go_ret
          exact ⟨by rw [HR.out,HRf.out]<;>rfl,HB9.out⟩
        · have HCB:=Lib.hid hcb
          clear hcb
          go_wp2_with fail
          go_roundw
          case rel=>exact ⟨i+1,by go_num,by omega,fun k hk hki=>by
           by_cases e:k=i
           · subst e;rw [← HY.out];exact HCB.out
           · exact HALL.out k hk (by omega),HB9.out⟩
          case measure=>simp [intOf]<;>omega
      · have hie:i=t.list.length:=by omega
        subst hie
        have HRt:=Lib.hid (show t.list.all constB=true from List.all_eq_true.2 (fun x hx=>by
         obtain ⟨k,hk,rfl⟩:=List.getElem_of_mem hx
         exact HALL.out k hk hk))
        go_wp2_with fail
        go_ret
        exact ⟨by rw [HR.out,HRt.out]<;>rfl,HBr.out⟩
   · have r1:(t.rel == 8)=true:=by simp [h8]
     have r2:decide (t.rel=8)=true:=by simp [h8]
     have v1:(t.var.toList == [])=false:=by simp [hv]
     have v2:t.var.toList.isEmpty=false:=by simp [hv]
     have v3:decide (t.var.toList = [])=false:=by simp [hv]
     have HR:=Lib.hid (show testB t=false by simp [testB, *])
     clear h8 hv
     go_enter Try.func105,Try.ntmps105
     go_upto_region 1 with fail
     obtain ⟨W1,hW1⟩ : ∃W1,W1=w.alloc (.cells #[.int .i64 t.rel,.string t.var,.int .i64 t.sym.kind,.string t.sym.text,.int .i64 t.sym.n,.slice A t.list.length c] 65):=⟨_,rfl⟩
     rw [← hW1]
     have hBk:Blk W1 w.heap.size 65 #[.int .i64 t.rel,.string t.var,.int .i64 t.sym.kind,.string t.sym.text,.int .i64 t.sym.n,.slice A t.list.length c]:=by rw [hW1];exact Blk.new _ _ _
     have HB:=Lib.hid (show Below w.heap.size w W1 by rw [hW1];exact (Below.refl _ _).alloc (Nat.le_refl _) _)
     have e0:W1.cell? ⟨w.heap.size,0,none⟩=some (.int .i64 t.rel):=(hBk.cell 0).trans rfl
     have e1:W1.cell? ⟨w.heap.size,1,none⟩=some (.string t.var):=(hBk.cell 1).trans rfl
     have e2:W1.cell? ⟨w.heap.size,2,none⟩=some (.int .i64 t.sym.kind):=(hBk.cell 2).trans rfl
     have e3:W1.cell? ⟨w.heap.size,3,none⟩=some (.string t.sym.text):=(hBk.cell 3).trans rfl
     have e4:W1.cell? ⟨w.heap.size,4,none⟩=some (.int .i64 t.sym.n):=(hBk.cell 4).trans rfl
     have e5:W1.cell? ⟨w.heap.size,5,none⟩=some (.slice A t.list.length c):=(hBk.cell 5).trans rfl
     have hbl:=hBk.lt
     clear hW1 hBk
     go_wp2_with (first | (go_at_call 106;refine (none_is t.sym _).mono ?_;rintro e w9 ⟨rfl,hb9⟩;have HB:=Lib.hid (HB.out.trans (hb9.mono HB.out.size));replace e0:=(hb9.cell (p:=⟨w.heap.size,0,none⟩) hbl).trans e0;replace e1:=(hb9.cell (p:=⟨w.heap.size,1,none⟩) hbl).trans e1;replace e2:=(hb9.cell (p:=⟨w.heap.size,2,none⟩) hbl).trans e2;replace e3:=(hb9.cell (p:=⟨w.heap.size,3,none⟩) hbl).trans e3;replace e4:=(hb9.cell (p:=⟨w.heap.size,4,none⟩) hbl).trans e4;replace e5:=(hb9.cell (p:=⟨w.heap.size,5,none⟩) hbl).trans e5;replace hbl:=Nat.lt_of_lt_of_le hbl hb9.size;clear hb9) | (go_at_call 107;refine (constant_is t.sym _).mono ?_;rintro e w9 ⟨rfl,hb9⟩;have HB:=Lib.hid (HB.out.trans (hb9.mono HB.out.size));replace e0:=(hb9.cell (p:=⟨w.heap.size,0,none⟩) hbl).trans e0;replace e1:=(hb9.cell (p:=⟨w.heap.size,1,none⟩) hbl).trans e1;replace e2:=(hb9.cell (p:=⟨w.heap.size,2,none⟩) hbl).trans e2;replace e3:=(hb9.cell (p:=⟨w.heap.size,3,none⟩) hbl).trans e3;replace e4:=(hb9.cell (p:=⟨w.heap.size,4,none⟩) hbl).trans e4;replace e5:=(hb9.cell (p:=⟨w.heap.size,5,none⟩) hbl).trans e5;replace hbl:=Nat.lt_of_lt_of_le hbl hb9.size;clear hb9) | (go_at_call 86;refine (word_is t.var _).mono ?_;rintro e w9 ⟨rfl,rfl⟩))
     go_ret
     exact ⟨by rw [HR.out]<;>rfl,HB.out⟩
 by_cases h1:t.rel<1
 · have r1:(t.rel == 8)=false:=by simp [h8]
   have r2:decide (t.rel=8)=false:=by simp [h8]
   have r3:decide (t.rel<1)=true:=decide_eq_true (by omega)
   have HR:=Lib.hid (show testB t=false by simp [testB, *])
   clear h8 h1
   go_enter Try.func105,Try.ntmps105
   go_upto_region 1 with fail
   obtain ⟨W1,hW1⟩ : ∃W1,W1=w.alloc (.cells #[.int .i64 t.rel,.string t.var,.int .i64 t.sym.kind,.string t.sym.text,.int .i64 t.sym.n,.slice A t.list.length c] 65):=⟨_,rfl⟩
   rw [← hW1]
   have hBk:Blk W1 w.heap.size 65 #[.int .i64 t.rel,.string t.var,.int .i64 t.sym.kind,.string t.sym.text,.int .i64 t.sym.n,.slice A t.list.length c]:=by rw [hW1];exact Blk.new _ _ _
   have HB:=Lib.hid (show Below w.heap.size w W1 by rw [hW1];exact (Below.refl _ _).alloc (Nat.le_refl _) _)
   have e0:W1.cell? ⟨w.heap.size,0,none⟩=some (.int .i64 t.rel):=(hBk.cell 0).trans rfl
   have e1:W1.cell? ⟨w.heap.size,1,none⟩=some (.string t.var):=(hBk.cell 1).trans rfl
   have e2:W1.cell? ⟨w.heap.size,2,none⟩=some (.int .i64 t.sym.kind):=(hBk.cell 2).trans rfl
   have e3:W1.cell? ⟨w.heap.size,3,none⟩=some (.string t.sym.text):=(hBk.cell 3).trans rfl
   have e4:W1.cell? ⟨w.heap.size,4,none⟩=some (.int .i64 t.sym.n):=(hBk.cell 4).trans rfl
   have e5:W1.cell? ⟨w.heap.size,5,none⟩=some (.slice A t.list.length c):=(hBk.cell 5).trans rfl
   have hbl:=hBk.lt
   clear hW1 hBk
   go_wp2_with (first | (go_at_call 106;refine (none_is t.sym _).mono ?_;rintro e w9 ⟨rfl,hb9⟩;have HB:=Lib.hid (HB.out.trans (hb9.mono HB.out.size));replace e0:=(hb9.cell (p:=⟨w.heap.size,0,none⟩) hbl).trans e0;replace e1:=(hb9.cell (p:=⟨w.heap.size,1,none⟩) hbl).trans e1;replace e2:=(hb9.cell (p:=⟨w.heap.size,2,none⟩) hbl).trans e2;replace e3:=(hb9.cell (p:=⟨w.heap.size,3,none⟩) hbl).trans e3;replace e4:=(hb9.cell (p:=⟨w.heap.size,4,none⟩) hbl).trans e4;replace e5:=(hb9.cell (p:=⟨w.heap.size,5,none⟩) hbl).trans e5;replace hbl:=Nat.lt_of_lt_of_le hbl hb9.size;clear hb9) | (go_at_call 107;refine (constant_is t.sym _).mono ?_;rintro e w9 ⟨rfl,hb9⟩;have HB:=Lib.hid (HB.out.trans (hb9.mono HB.out.size));replace e0:=(hb9.cell (p:=⟨w.heap.size,0,none⟩) hbl).trans e0;replace e1:=(hb9.cell (p:=⟨w.heap.size,1,none⟩) hbl).trans e1;replace e2:=(hb9.cell (p:=⟨w.heap.size,2,none⟩) hbl).trans e2;replace e3:=(hb9.cell (p:=⟨w.heap.size,3,none⟩) hbl).trans e3;replace e4:=(hb9.cell (p:=⟨w.heap.size,4,none⟩) hbl).trans e4;replace e5:=(hb9.cell (p:=⟨w.heap.size,5,none⟩) hbl).trans e5;replace hbl:=Nat.lt_of_lt_of_le hbl hb9.size;clear hb9) | (go_at_call 86;refine (word_is t.var _).mono ?_;rintro e w9 ⟨rfl,rfl⟩))
   go_ret
   exact ⟨by rw [HR.out]<;>rfl,HB.out⟩
 by_cases h7:7<t.rel
 · have r1:(t.rel == 8)=false:=by simp [h8]
   have r2:decide (t.rel=8)=false:=by simp [h8]
   have r3:decide (t.rel<1)=false:=decide_eq_false (by omega)
   have r4:decide (7<t.rel)=true:=decide_eq_true (by omega)
   have HR:=Lib.hid (show testB t=false by simp [testB, *])
   clear h8 h1 h7
   go_enter Try.func105,Try.ntmps105
   go_upto_region 1 with fail
   obtain ⟨W1,hW1⟩ : ∃W1,W1=w.alloc (.cells #[.int .i64 t.rel,.string t.var,.int .i64 t.sym.kind,.string t.sym.text,.int .i64 t.sym.n,.slice A t.list.length c] 65):=⟨_,rfl⟩
   rw [← hW1]
   have hBk:Blk W1 w.heap.size 65 #[.int .i64 t.rel,.string t.var,.int .i64 t.sym.kind,.string t.sym.text,.int .i64 t.sym.n,.slice A t.list.length c]:=by rw [hW1];exact Blk.new _ _ _
   have HB:=Lib.hid (show Below w.heap.size w W1 by rw [hW1];exact (Below.refl _ _).alloc (Nat.le_refl _) _)
   have e0:W1.cell? ⟨w.heap.size,0,none⟩=some (.int .i64 t.rel):=(hBk.cell 0).trans rfl
   have e1:W1.cell? ⟨w.heap.size,1,none⟩=some (.string t.var):=(hBk.cell 1).trans rfl
   have e2:W1.cell? ⟨w.heap.size,2,none⟩=some (.int .i64 t.sym.kind):=(hBk.cell 2).trans rfl
   have e3:W1.cell? ⟨w.heap.size,3,none⟩=some (.string t.sym.text):=(hBk.cell 3).trans rfl
   have e4:W1.cell? ⟨w.heap.size,4,none⟩=some (.int .i64 t.sym.n):=(hBk.cell 4).trans rfl
   have e5:W1.cell? ⟨w.heap.size,5,none⟩=some (.slice A t.list.length c):=(hBk.cell 5).trans rfl
   have hbl:=hBk.lt
   clear hW1 hBk
   go_wp2_with (first | (go_at_call 106;refine (none_is t.sym _).mono ?_;rintro e w9 ⟨rfl,hb9⟩;have HB:=Lib.hid (HB.out.trans (hb9.mono HB.out.size));replace e0:=(hb9.cell (p:=⟨w.heap.size,0,none⟩) hbl).trans e0;replace e1:=(hb9.cell (p:=⟨w.heap.size,1,none⟩) hbl).trans e1;replace e2:=(hb9.cell (p:=⟨w.heap.size,2,none⟩) hbl).trans e2;replace e3:=(hb9.cell (p:=⟨w.heap.size,3,none⟩) hbl).trans e3;replace e4:=(hb9.cell (p:=⟨w.heap.size,4,none⟩) hbl).trans e4;replace e5:=(hb9.cell (p:=⟨w.heap.size,5,none⟩) hbl).trans e5;replace hbl:=Nat.lt_of_lt_of_le hbl hb9.size;clear hb9) | (go_at_call 107;refine (constant_is t.sym _).mono ?_;rintro e w9 ⟨rfl,hb9⟩;have HB:=Lib.hid (HB.out.trans (hb9.mono HB.out.size));replace e0:=(hb9.cell (p:=⟨w.heap.size,0,none⟩) hbl).trans e0;replace e1:=(hb9.cell (p:=⟨w.heap.size,1,none⟩) hbl).trans e1;replace e2:=(hb9.cell (p:=⟨w.heap.size,2,none⟩) hbl).trans e2;replace e3:=(hb9.cell (p:=⟨w.heap.size,3,none⟩) hbl).trans e3;replace e4:=(hb9.cell (p:=⟨w.heap.size,4,none⟩) hbl).trans e4;replace e5:=(hb9.cell (p:=⟨w.heap.size,5,none⟩) hbl).trans e5;replace hbl:=Nat.lt_of_lt_of_le hbl hb9.size;clear hb9) | (go_at_call 86;refine (word_is t.var _).mono ?_;rintro e w9 ⟨rfl,rfl⟩))
   go_ret
   exact ⟨by rw [HR.out]<;>rfl,HB.out⟩
 by_cases hl:0<t.list.length
 · have r1:(t.rel == 8)=false:=by simp [h8]
   have r2:decide (t.rel=8)=false:=by simp [h8]
   have r3:decide (t.rel<1)=false:=decide_eq_false (by omega)
   have r4:decide (7<t.rel)=false:=decide_eq_false (by omega)
   have l1:decide ((0:Int)<(t.list.length:Int))=true:=decide_eq_true (by omega)
   have l2:decide (0<t.list.length)=true:=decide_eq_true (by omega)
   have HR:=Lib.hid (show testB t=false by simp [testB, *])
   clear h8 h1 h7 hl
   go_enter Try.func105,Try.ntmps105
   go_upto_region 1 with fail
   obtain ⟨W1,hW1⟩ : ∃W1,W1=w.alloc (.cells #[.int .i64 t.rel,.string t.var,.int .i64 t.sym.kind,.string t.sym.text,.int .i64 t.sym.n,.slice A t.list.length c] 65):=⟨_,rfl⟩
   rw [← hW1]
   have hBk:Blk W1 w.heap.size 65 #[.int .i64 t.rel,.string t.var,.int .i64 t.sym.kind,.string t.sym.text,.int .i64 t.sym.n,.slice A t.list.length c]:=by rw [hW1];exact Blk.new _ _ _
   have HB:=Lib.hid (show Below w.heap.size w W1 by rw [hW1];exact (Below.refl _ _).alloc (Nat.le_refl _) _)
   have e0:W1.cell? ⟨w.heap.size,0,none⟩=some (.int .i64 t.rel):=(hBk.cell 0).trans rfl
   have e1:W1.cell? ⟨w.heap.size,1,none⟩=some (.string t.var):=(hBk.cell 1).trans rfl
   have e2:W1.cell? ⟨w.heap.size,2,none⟩=some (.int .i64 t.sym.kind):=(hBk.cell 2).trans rfl
   have e3:W1.cell? ⟨w.heap.size,3,none⟩=some (.string t.sym.text):=(hBk.cell 3).trans rfl
   have e4:W1.cell? ⟨w.heap.size,4,none⟩=some (.int .i64 t.sym.n):=(hBk.cell 4).trans rfl
   have e5:W1.cell? ⟨w.heap.size,5,none⟩=some (.slice A t.list.length c):=(hBk.cell 5).trans rfl
   have hbl:=hBk.lt
   clear hW1 hBk
   go_wp2_with (first | (go_at_call 106;refine (none_is t.sym _).mono ?_;rintro e w9 ⟨rfl,hb9⟩;have HB:=Lib.hid (HB.out.trans (hb9.mono HB.out.size));replace e0:=(hb9.cell (p:=⟨w.heap.size,0,none⟩) hbl).trans e0;replace e1:=(hb9.cell (p:=⟨w.heap.size,1,none⟩) hbl).trans e1;replace e2:=(hb9.cell (p:=⟨w.heap.size,2,none⟩) hbl).trans e2;replace e3:=(hb9.cell (p:=⟨w.heap.size,3,none⟩) hbl).trans e3;replace e4:=(hb9.cell (p:=⟨w.heap.size,4,none⟩) hbl).trans e4;replace e5:=(hb9.cell (p:=⟨w.heap.size,5,none⟩) hbl).trans e5;replace hbl:=Nat.lt_of_lt_of_le hbl hb9.size;clear hb9) | (go_at_call 107;refine (constant_is t.sym _).mono ?_;rintro e w9 ⟨rfl,hb9⟩;have HB:=Lib.hid (HB.out.trans (hb9.mono HB.out.size));replace e0:=(hb9.cell (p:=⟨w.heap.size,0,none⟩) hbl).trans e0;replace e1:=(hb9.cell (p:=⟨w.heap.size,1,none⟩) hbl).trans e1;replace e2:=(hb9.cell (p:=⟨w.heap.size,2,none⟩) hbl).trans e2;replace e3:=(hb9.cell (p:=⟨w.heap.size,3,none⟩) hbl).trans e3;replace e4:=(hb9.cell (p:=⟨w.heap.size,4,none⟩) hbl).trans e4;replace e5:=(hb9.cell (p:=⟨w.heap.size,5,none⟩) hbl).trans e5;replace hbl:=Nat.lt_of_lt_of_le hbl hb9.size;clear hb9) | (go_at_call 86;refine (word_is t.var _).mono ?_;rintro e w9 ⟨rfl,rfl⟩))
   go_ret
   exact ⟨by rw [HR.out]<;>rfl,HB.out⟩
 by_cases hv:t.var.toList = []
 · have r1:(t.rel == 8)=false:=by simp [h8]
   have r2:decide (t.rel=8)=false:=by simp [h8]
   have r3:decide (t.rel<1)=false:=decide_eq_false (by omega)
   have r4:decide (7<t.rel)=false:=decide_eq_false (by omega)
   have l1:decide ((0:Int)<(t.list.length:Int))=false:=decide_eq_false (by omega)
   have l2:decide (0<t.list.length)=false:=decide_eq_false (by omega)
   have l3:t.list.length=0:=by omega
   have l9:t.list = []:=List.length_eq_zero_iff.1 l3
   have v1:(t.var.toList == [])=true:=by simp [hv]
   have v2:t.var.toList.isEmpty=true:=by simp [hv]
   have v3:decide (t.var.toList = [])=true:=by simp [hv]
   have HR:=Lib.hid (show testB t=constB t.sym by simp [testB, *])
   clear h8 h1 h7 hl hv l3 l9
   go_enter Try.func105,Try.ntmps105
   go_upto_region 1 with fail
   obtain ⟨W1,hW1⟩ : ∃W1,W1=w.alloc (.cells #[.int .i64 t.rel,.string t.var,.int .i64 t.sym.kind,.string t.sym.text,.int .i64 t.sym.n,.slice A t.list.length c] 65):=⟨_,rfl⟩
   rw [← hW1]
   have hBk:Blk W1 w.heap.size 65 #[.int .i64 t.rel,.string t.var,.int .i64 t.sym.kind,.string t.sym.text,.int .i64 t.sym.n,.slice A t.list.length c]:=by rw [hW1];exact Blk.new _ _ _
   have HB:=Lib.hid (show Below w.heap.size w W1 by rw [hW1];exact (Below.refl _ _).alloc (Nat.le_refl _) _)
   have e0:W1.cell? ⟨w.heap.size,0,none⟩=some (.int .i64 t.rel):=(hBk.cell 0).trans rfl
   have e1:W1.cell? ⟨w.heap.size,1,none⟩=some (.string t.var):=(hBk.cell 1).trans rfl
   have e2:W1.cell? ⟨w.heap.size,2,none⟩=some (.int .i64 t.sym.kind):=(hBk.cell 2).trans rfl
   have e3:W1.cell? ⟨w.heap.size,3,none⟩=some (.string t.sym.text):=(hBk.cell 3).trans rfl
   have e4:W1.cell? ⟨w.heap.size,4,none⟩=some (.int .i64 t.sym.n):=(hBk.cell 4).trans rfl
   have e5:W1.cell? ⟨w.heap.size,5,none⟩=some (.slice A t.list.length c):=(hBk.cell 5).trans rfl
   have hbl:=hBk.lt
   clear hW1 hBk
   go_wp2_with (first | (go_at_call 106;refine (none_is t.sym _).mono ?_;rintro e w9 ⟨rfl,hb9⟩;have HB:=Lib.hid (HB.out.trans (hb9.mono HB.out.size));replace e0:=(hb9.cell (p:=⟨w.heap.size,0,none⟩) hbl).trans e0;replace e1:=(hb9.cell (p:=⟨w.heap.size,1,none⟩) hbl).trans e1;replace e2:=(hb9.cell (p:=⟨w.heap.size,2,none⟩) hbl).trans e2;replace e3:=(hb9.cell (p:=⟨w.heap.size,3,none⟩) hbl).trans e3;replace e4:=(hb9.cell (p:=⟨w.heap.size,4,none⟩) hbl).trans e4;replace e5:=(hb9.cell (p:=⟨w.heap.size,5,none⟩) hbl).trans e5;replace hbl:=Nat.lt_of_lt_of_le hbl hb9.size;clear hb9) | (go_at_call 107;refine (constant_is t.sym _).mono ?_;rintro e w9 ⟨rfl,hb9⟩;have HB:=Lib.hid (HB.out.trans (hb9.mono HB.out.size));replace e0:=(hb9.cell (p:=⟨w.heap.size,0,none⟩) hbl).trans e0;replace e1:=(hb9.cell (p:=⟨w.heap.size,1,none⟩) hbl).trans e1;replace e2:=(hb9.cell (p:=⟨w.heap.size,2,none⟩) hbl).trans e2;replace e3:=(hb9.cell (p:=⟨w.heap.size,3,none⟩) hbl).trans e3;replace e4:=(hb9.cell (p:=⟨w.heap.size,4,none⟩) hbl).trans e4;replace e5:=(hb9.cell (p:=⟨w.heap.size,5,none⟩) hbl).trans e5;replace hbl:=Nat.lt_of_lt_of_le hbl hb9.size;clear hb9) | (go_at_call 86;refine (word_is t.var _).mono ?_;rintro e w9 ⟨rfl,rfl⟩))
   go_ret
   exact ⟨by rw [HR.out]<;>rfl,HB.out⟩
 by_cases hw:isWord t.var=false
 · have r1:(t.rel == 8)=false:=by simp [h8]
   have r2:decide (t.rel=8)=false:=by simp [h8]
   have r3:decide (t.rel<1)=false:=decide_eq_false (by omega)
   have r4:decide (7<t.rel)=false:=decide_eq_false (by omega)
   have l1:decide ((0:Int)<(t.list.length:Int))=false:=decide_eq_false (by omega)
   have l2:decide (0<t.list.length)=false:=decide_eq_false (by omega)
   have l3:t.list.length=0:=by omega
   have l9:t.list = []:=List.length_eq_zero_iff.1 l3
   have v1:(t.var.toList == [])=false:=by simp [hv]
   have v2:t.var.toList.isEmpty=false:=by simp [hv]
   have v3:decide (t.var.toList = [])=false:=by simp [hv]
   have x1:=hw
   have HR:=Lib.hid (show testB t=false by simp [testB, *])
   clear h8 h1 h7 hl hv hw l3 l9
   go_enter Try.func105,Try.ntmps105
   go_upto_region 1 with fail
   obtain ⟨W1,hW1⟩ : ∃W1,W1=w.alloc (.cells #[.int .i64 t.rel,.string t.var,.int .i64 t.sym.kind,.string t.sym.text,.int .i64 t.sym.n,.slice A t.list.length c] 65):=⟨_,rfl⟩
   rw [← hW1]
   have hBk:Blk W1 w.heap.size 65 #[.int .i64 t.rel,.string t.var,.int .i64 t.sym.kind,.string t.sym.text,.int .i64 t.sym.n,.slice A t.list.length c]:=by rw [hW1];exact Blk.new _ _ _
   have HB:=Lib.hid (show Below w.heap.size w W1 by rw [hW1];exact (Below.refl _ _).alloc (Nat.le_refl _) _)
   have e0:W1.cell? ⟨w.heap.size,0,none⟩=some (.int .i64 t.rel):=(hBk.cell 0).trans rfl
   have e1:W1.cell? ⟨w.heap.size,1,none⟩=some (.string t.var):=(hBk.cell 1).trans rfl
   have e2:W1.cell? ⟨w.heap.size,2,none⟩=some (.int .i64 t.sym.kind):=(hBk.cell 2).trans rfl
   have e3:W1.cell? ⟨w.heap.size,3,none⟩=some (.string t.sym.text):=(hBk.cell 3).trans rfl
   have e4:W1.cell? ⟨w.heap.size,4,none⟩=some (.int .i64 t.sym.n):=(hBk.cell 4).trans rfl
   have e5:W1.cell? ⟨w.heap.size,5,none⟩=some (.slice A t.list.length c):=(hBk.cell 5).trans rfl
   have hbl:=hBk.lt
   clear hW1 hBk
   go_wp2_with (first | (go_at_call 106;refine (none_is t.sym _).mono ?_;rintro e w9 ⟨rfl,hb9⟩;have HB:=Lib.hid (HB.out.trans (hb9.mono HB.out.size));replace e0:=(hb9.cell (p:=⟨w.heap.size,0,none⟩) hbl).trans e0;replace e1:=(hb9.cell (p:=⟨w.heap.size,1,none⟩) hbl).trans e1;replace e2:=(hb9.cell (p:=⟨w.heap.size,2,none⟩) hbl).trans e2;replace e3:=(hb9.cell (p:=⟨w.heap.size,3,none⟩) hbl).trans e3;replace e4:=(hb9.cell (p:=⟨w.heap.size,4,none⟩) hbl).trans e4;replace e5:=(hb9.cell (p:=⟨w.heap.size,5,none⟩) hbl).trans e5;replace hbl:=Nat.lt_of_lt_of_le hbl hb9.size;clear hb9) | (go_at_call 107;refine (constant_is t.sym _).mono ?_;rintro e w9 ⟨rfl,hb9⟩;have HB:=Lib.hid (HB.out.trans (hb9.mono HB.out.size));replace e0:=(hb9.cell (p:=⟨w.heap.size,0,none⟩) hbl).trans e0;replace e1:=(hb9.cell (p:=⟨w.heap.size,1,none⟩) hbl).trans e1;replace e2:=(hb9.cell (p:=⟨w.heap.size,2,none⟩) hbl).trans e2;replace e3:=(hb9.cell (p:=⟨w.heap.size,3,none⟩) hbl).trans e3;replace e4:=(hb9.cell (p:=⟨w.heap.size,4,none⟩) hbl).trans e4;replace e5:=(hb9.cell (p:=⟨w.heap.size,5,none⟩) hbl).trans e5;replace hbl:=Nat.lt_of_lt_of_le hbl hb9.size;clear hb9) | (go_at_call 86;refine (word_is t.var _).mono ?_;rintro e w9 ⟨rfl,rfl⟩))
   go_ret
   exact ⟨by rw [HR.out]<;>rfl,HB.out⟩
 have r1:(t.rel == 8)=false:=by simp [h8]
 have r2:decide (t.rel=8)=false:=by simp [h8]
 have r3:decide (t.rel<1)=false:=decide_eq_false (by omega)
 have r4:decide (7<t.rel)=false:=decide_eq_false (by omega)
 have l1:decide ((0:Int)<(t.list.length:Int))=false:=decide_eq_false (by omega)
 have l2:decide (0<t.list.length)=false:=decide_eq_false (by omega)
 have l3:t.list.length=0:=by omega
 have l9:t.list = []:=List.length_eq_zero_iff.1 l3
 have v1:(t.var.toList == [])=false:=by simp [hv]
 have v2:t.var.toList.isEmpty=false:=by simp [hv]
 have v3:decide (t.var.toList = [])=false:=by simp [hv]
 have x1:isWord t.var=true:=by simpa using hw
 have HR:=Lib.hid (show testB t=noneB t.sym by simp [testB, *])
 clear h8 h1 h7 hl hv hw l3 l9
 go_enter Try.func105,Try.ntmps105
 go_upto_region 1 with fail
 obtain ⟨W1,hW1⟩ : ∃W1,W1=w.alloc (.cells #[.int .i64 t.rel,.string t.var,.int .i64 t.sym.kind,.string t.sym.text,.int .i64 t.sym.n,.slice A t.list.length c] 65):=⟨_,rfl⟩
 rw [← hW1]
 have hBk:Blk W1 w.heap.size 65 #[.int .i64 t.rel,.string t.var,.int .i64 t.sym.kind,.string t.sym.text,.int .i64 t.sym.n,.slice A t.list.length c]:=by rw [hW1];exact Blk.new _ _ _
 have HB:=Lib.hid (show Below w.heap.size w W1 by rw [hW1];exact (Below.refl _ _).alloc (Nat.le_refl _) _)
 have e0:W1.cell? ⟨w.heap.size,0,none⟩=some (.int .i64 t.rel):=(hBk.cell 0).trans rfl
 have e1:W1.cell? ⟨w.heap.size,1,none⟩=some (.string t.var):=(hBk.cell 1).trans rfl
 have e2:W1.cell? ⟨w.heap.size,2,none⟩=some (.int .i64 t.sym.kind):=(hBk.cell 2).trans rfl
 have e3:W1.cell? ⟨w.heap.size,3,none⟩=some (.string t.sym.text):=(hBk.cell 3).trans rfl
 have e4:W1.cell? ⟨w.heap.size,4,none⟩=some (.int .i64 t.sym.n):=(hBk.cell 4).trans rfl
 have e5:W1.cell? ⟨w.heap.size,5,none⟩=some (.slice A t.list.length c):=(hBk.cell 5).trans rfl
 have hbl:=hBk.lt
 clear hW1 hBk
 go_wp2_with (first | (go_at_call 106;refine (none_is t.sym _).mono ?_;rintro e w9 ⟨rfl,hb9⟩;have HB:=Lib.hid (HB.out.trans (hb9.mono HB.out.size));replace e0:=(hb9.cell (p:=⟨w.heap.size,0,none⟩) hbl).trans e0;replace e1:=(hb9.cell (p:=⟨w.heap.size,1,none⟩) hbl).trans e1;replace e2:=(hb9.cell (p:=⟨w.heap.size,2,none⟩) hbl).trans e2;replace e3:=(hb9.cell (p:=⟨w.heap.size,3,none⟩) hbl).trans e3;replace e4:=(hb9.cell (p:=⟨w.heap.size,4,none⟩) hbl).trans e4;replace e5:=(hb9.cell (p:=⟨w.heap.size,5,none⟩) hbl).trans e5;replace hbl:=Nat.lt_of_lt_of_le hbl hb9.size;clear hb9) | (go_at_call 107;refine (constant_is t.sym _).mono ?_;rintro e w9 ⟨rfl,hb9⟩;have HB:=Lib.hid (HB.out.trans (hb9.mono HB.out.size));replace e0:=(hb9.cell (p:=⟨w.heap.size,0,none⟩) hbl).trans e0;replace e1:=(hb9.cell (p:=⟨w.heap.size,1,none⟩) hbl).trans e1;replace e2:=(hb9.cell (p:=⟨w.heap.size,2,none⟩) hbl).trans e2;replace e3:=(hb9.cell (p:=⟨w.heap.size,3,none⟩) hbl).trans e3;replace e4:=(hb9.cell (p:=⟨w.heap.size,4,none⟩) hbl).trans e4;replace e5:=(hb9.cell (p:=⟨w.heap.size,5,none⟩) hbl).trans e5;replace hbl:=Nat.lt_of_lt_of_le hbl hb9.size;clear hb9) | (go_at_call 86;refine (word_is t.var _).mono ?_;rintro e w9 ⟨rfl,rfl⟩))
 go_ret
 exact ⟨by rw [HR.out]<;>rfl,HB.out⟩
end Go.Proofs.Ytffemfglngikbaa
