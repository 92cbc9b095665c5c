/-
  Texts put together: Ref07D, Ref06A, Ref06B, Ref06C.
-/
import Derived.Test.YtffemfglngikbaaGreatDk
import Derived.Test.YtffemfglngikbaaGreatDj
import Derived.Test.YtffemfglngikbaaGreatDe
import Derived.Test.YtffemfglngikbaaGreatDb
import Derived.Maps.RangeWalk
namespace Go.Proofs.YtffemfglngikbaaGreat
open Go.RowKit Go.Shelf
attribute [local go_sem] Oper.semAt_some
set_option linter.unusedSimpArgs false
set_option maxRecDepth 100000 in
set_option maxHeartbeats 8000000 in
theorem r7term_is (t:TermT) (w:World) (g0:0≤t.op) (g3:t.op≤3) (hz:(termX t).size≤MAXS):Calls Tryz.prog 229 #[.agg #[.int .i64 t.op,.string t.a.var,.int .i64 t.a.sym.kind,.string t.a.sym.text,.int .i64 t.a.sym.n,.string t.b.var,.int .i64 t.b.sym.kind,.string t.b.sym.text,.int .i64 t.b.sym.n]] w fun e w'=>e = .returned (.string (termX t))∧Below w.heap.size w w':=by
 by_cases h0:t.op=0
 · skip
   have o0_a:(t.op == 0)=true:=by simp [h0]
   have o0_b:decide (t.op=0)=true:=by simp [h0]
   have HR:=Lib.hid (show termX t=atomX t.a.var t.a.sym by unfold termX;rw [if_neg (by omega)])
   rw [HR.out] at hz
   have HZ:=Lib.hid hz
   clear h0 g0 g3 hz
   go_enter Tryz.func229,Tryz.ntmps229
   go_upto_region 1 with fail
   obtain ⟨w1,hw1⟩ : ∃w1,w1=(w.alloc (.cells #[.int .i64 t.op,.string t.a.var,.int .i64 t.a.sym.kind,.string t.a.sym.text,.int .i64 t.a.sym.n,.string t.b.var,.int .i64 t.b.sym.kind,.string t.b.sym.text,.int .i64 t.b.sym.n] 96)):=⟨_,rfl⟩
   rw [← hw1]
   have HB:=Lib.hid (show Below w.heap.size w w1 by rw [hw1];exact (by repeat (first | exact Below.refl _ _ | refine Below.drew ?_ | refine Below.al ?_ _ | refine Below.sc ?_ _)))
   have Kb:=Lib.hid (show Blk w1 (w.heap.size) 96 #[.int .i64 t.op,.string t.a.var,.int .i64 t.a.sym.kind,.string t.a.sym.text,.int .i64 t.a.sym.n,.string t.b.var,.int .i64 t.b.sym.kind,.string t.b.sym.text,.int .i64 t.b.sym.n] by rw [hw1];exact (Blk.new w 96 #[.int .i64 t.op,.string t.a.var,.int .i64 t.a.sym.kind,.string t.a.sym.text,.int .i64 t.a.sym.n,.string t.b.var,.int .i64 t.b.sym.kind,.string t.b.sym.text,.int .i64 t.b.sym.n]))
   clear hw1
   obtain ⟨b0,b1,b2,b3,b4,b5,b6,b7,b8⟩:=Kb.out.c9
   have bz:=Kb.out.lt
   go_wp2_with fail
   with_reducible refine (r7atom_is t.a _ HZ.out).mono ?_
   rintro e w2 ⟨rfl,hb⟩
   have hbs:=Below.trans (show Below w1.heap.size w1 _ from (by (repeat (first | exact Below.refl _ _ | refine Below.drew ?_ | refine Below.al ?_ _ | refine Below.sc ?_ _)))) (hb.mono (by simp<;>omega))
   have Kb:=Lib.hid (Kb.out.new_ hbs)
   have HB:=Lib.hid (HB.out.trans (hbs.mono HB.out.size))
   have hsz2:=hbs.size
   clear b0 b1 b2 b3 b4 b5 b6 b7 b8 bz hb hbs
   obtain ⟨b0,b1,b2,b3,b4,b5,b6,b7,b8⟩:=Kb.out.c9
   have bz:=Kb.out.lt
   go_wp2_with fail
   go_ret
   exact ⟨by rw [HR.out]<;>rfl,by (repeat (first | exact Below.refl _ _ | exact HB.out | refine Below.drew ?_ | refine Below.al ?_ _ | refine Below.sc ?_ _))⟩
 · skip
   by_cases h1:t.op=1
   · skip
     have o0_a:(t.op == 0)=false:=by simp [h0]
     have o0_b:decide (t.op=0)=false:=by simp [h0]
     have o1_a:(t.op == 1)=true:=by simp [h1]
     have o1_b:decide (t.op=1)=true:=by simp [h1]
     have HR:=Lib.hid (show termX t=(⟨#[40]⟩:ByteArray)++(⟨#[43]⟩:ByteArray)++(⟨#[32]⟩:ByteArray)++atomX t.a.var t.a.sym++(⟨#[32]⟩:ByteArray)++atomX t.b.var t.b.sym++(⟨#[41]⟩:ByteArray) by
      unfold termX
      rw [if_pos (by omega),show opX t.op=(⟨#[43]⟩:ByteArray) by unfold opX;simp [h1]])
     rw [HR.out] at hz
     simp only [ByteArray.size_append] at hz
     have ez:((⟨#[40]⟩:ByteArray)).size=1:=rfl
     have eg:((⟨#[43]⟩:ByteArray)).size=1:=rfl
     have es:((⟨#[32]⟩:ByteArray)).size=1:=rfl
     have ec:((⟨#[41]⟩:ByteArray)).size=1:=rfl
     rw [ez,eg,es,ec] at hz
     have y1 : ¬MAXS<1+1+1+(atomX t.a.var t.a.sym).size:=by unfold MAXS at *;omega
     have y2 : ¬MAXS<1+1+1+(atomX t.a.var t.a.sym).size+1:=by unfold MAXS at *;omega
     have y3 : ¬MAXS<1+1+1+(atomX t.a.var t.a.sym).size+1+(atomX t.b.var t.b.sym).size:=by unfold MAXS at *;omega
     have y4 : ¬MAXS<1+1+1+(atomX t.a.var t.a.sym).size+1+(atomX t.b.var t.b.sym).size+1:=by unfold MAXS at *;omega
     have x1 : ¬MAXS<3+(atomX t.a.var t.a.sym).size:=y1
     have x2 : ¬MAXS<3+(atomX t.a.var t.a.sym).size+1:=y2
     have x3 : ¬MAXS<3+(atomX t.a.var t.a.sym).size+1+(atomX t.b.var t.b.sym).size:=y3
     have x4 : ¬MAXS<3+(atomX t.a.var t.a.sym).size+1+(atomX t.b.var t.b.sym).size+1:=y4
     have HA:=Lib.hid (show (atomX t.a.var t.a.sym).size≤MAXS by unfold MAXS at *;omega)
     have HBB:=Lib.hid (show (atomX t.b.var t.b.sym).size≤MAXS by unfold MAXS at *;omega)
     clear hz ez eg es ec g0 g3 h0 h1
     go_enter Tryz.func229,Tryz.ntmps229
     go_upto_region 1 with fail
     obtain ⟨w1,hw1⟩ : ∃w1,w1=(w.alloc (.cells #[.int .i64 t.op,.string t.a.var,.int .i64 t.a.sym.kind,.string t.a.sym.text,.int .i64 t.a.sym.n,.string t.b.var,.int .i64 t.b.sym.kind,.string t.b.sym.text,.int .i64 t.b.sym.n] 96)):=⟨_,rfl⟩
     rw [← hw1]
     have HB:=Lib.hid (show Below w.heap.size w w1 by rw [hw1];exact (by repeat (first | exact Below.refl _ _ | refine Below.drew ?_ | refine Below.al ?_ _ | refine Below.sc ?_ _)))
     have Kb:=Lib.hid (show Blk w1 (w.heap.size) 96 #[.int .i64 t.op,.string t.a.var,.int .i64 t.a.sym.kind,.string t.a.sym.text,.int .i64 t.a.sym.n,.string t.b.var,.int .i64 t.b.sym.kind,.string t.b.sym.text,.int .i64 t.b.sym.n] by rw [hw1];exact (Blk.new w 96 #[.int .i64 t.op,.string t.a.var,.int .i64 t.a.sym.kind,.string t.a.sym.text,.int .i64 t.a.sym.n,.string t.b.var,.int .i64 t.b.sym.kind,.string t.b.sym.text,.int .i64 t.b.sym.n]))
     clear hw1
     obtain ⟨b0,b1,b2,b3,b4,b5,b6,b7,b8⟩:=Kb.out.c9
     have bz:=Kb.out.lt
     go_upto_region 10 with fail
     refine wp_region_E (fun w9=>Below w1.heap.size w1 w9) [(0,0),(1,0),(2,0),(3,0),(4,1),(8,0),(9,1),(5,2),(6,0),(7,0),(10,2),(11,0),(12,0),(13,0)] (by kernel_rfl) (by kernel_rfl) (fun KK hKK=>?_)
     simp only [beside,List.filterMap_cons,List.filterMap_nil,List.getElem?_toArray,List.getElem?_cons_zero,List.getElem?_cons_succ,Option.map_some]
     repeat ((first | (refine wpX_w ?_ (Or.inl ⟨by rfl,fun w9=>?_⟩) ?_;rotate_left 1;go_simp;with_reducible rfl) | (refine wpX_l ?_ (((Below.refl _ _).drew)) (Or.inl ⟨by rfl,fun w9 hw9=>?_⟩) ?_;rotate_left 1;obtain ⟨hc9,hf9⟩:=bcell hw9;go_simp;with_reducible rfl) | refine wpX_w undef (Or.inr ⟨by rfl,rfl⟩) ?_ | refine wpX_l undef (((Below.refl _ _).drew)) (Or.inr ⟨by rfl,rfl⟩) ?_);go_frame)
     refine wpX_es (fun K9 hK9=>?_)
     go_simp
     refine (r7atom_is t.a _ HA.out).mono ?_
     rintro e w5 ⟨rfl,hb5⟩
     have HBa:=Lib.hid (show Below w1.heap.size w1 w5 from ((Below.refl w1.heap.size w1).drew).trans (hb5.mono (by first | exact Nat.le_refl _ | (have:=HBa.out.size;omega))))
     clear hb5
     refine hK9 _ _ HBa.out ?_
     clear hK9 K9
     repeat ((first | (refine wpX_w ?_ (Or.inl ⟨by rfl,fun w9=>?_⟩) ?_;rotate_left 1;go_simp;with_reducible rfl) | (refine wpX_l ?_ (HBa.out) (Or.inl ⟨by rfl,fun w9 hw9=>?_⟩) ?_;rotate_left 1;obtain ⟨hc9,hf9⟩:=bcell hw9;go_simp;with_reducible rfl) | refine wpX_w undef (Or.inr ⟨by rfl,rfl⟩) ?_ | refine wpX_l undef (HBa.out) (Or.inr ⟨by rfl,rfl⟩) ?_);go_frame)
     refine wpX_es (fun K9 hK9=>?_)
     go_simp
     refine (r7atom_is t.b _ HBB.out).mono ?_
     rintro e w6 ⟨rfl,hb5⟩
     have HBb:=Lib.hid (show Below w1.heap.size w1 w6 from (HBa.out).trans (hb5.mono (by first | exact Nat.le_refl _ | (have:=HBa.out.size;omega))))
     clear hb5
     refine hK9 _ _ HBb.out ?_
     clear hK9 K9
     repeat ((first | (refine wpX_w ?_ (Or.inl ⟨by rfl,fun w9=>?_⟩) ?_;rotate_left 1;go_simp;with_reducible rfl) | (refine wpX_l ?_ (HBa.out) (Or.inl ⟨by rfl,fun w9 hw9=>?_⟩) ?_;rotate_left 1;obtain ⟨hc9,hf9⟩:=bcell hw9;go_simp;with_reducible rfl) | refine wpX_w undef (Or.inr ⟨by rfl,rfl⟩) ?_ | refine wpX_l undef (HBa.out) (Or.inr ⟨by rfl,rfl⟩) ?_);go_frame)
     refine wpX_nil ?_
     simp only [OnlyN_normal]
     refine hKK _ _ ?_
     clear hKK KK
     go_wp2_with fail
     go_ret
     exact ⟨by rw [HR.out]<;>rfl,HB.out.trans (HBb.out.mono HB.out.size)⟩
   · skip
     by_cases h2:t.op=2
     · skip
       have o0_a:(t.op == 0)=false:=by simp [h0]
       have o0_b:decide (t.op=0)=false:=by simp [h0]
       have o1_a:(t.op == 1)=false:=by simp [h1]
       have o1_b:decide (t.op=1)=false:=by simp [h1]
       have o2_a:(t.op == 2)=true:=by simp [h2]
       have o2_b:decide (t.op=2)=true:=by simp [h2]
       have HR:=Lib.hid (show termX t=(⟨#[40]⟩:ByteArray)++(⟨#[45]⟩:ByteArray)++(⟨#[32]⟩:ByteArray)++atomX t.a.var t.a.sym++(⟨#[32]⟩:ByteArray)++atomX t.b.var t.b.sym++(⟨#[41]⟩:ByteArray) by
        unfold termX
        rw [if_pos (by omega),show opX t.op=(⟨#[45]⟩:ByteArray) by unfold opX;simp [h2]])
       rw [HR.out] at hz
       simp only [ByteArray.size_append] at hz
       have ez:((⟨#[40]⟩:ByteArray)).size=1:=rfl
       have eg:((⟨#[45]⟩:ByteArray)).size=1:=rfl
       have es:((⟨#[32]⟩:ByteArray)).size=1:=rfl
       have ec:((⟨#[41]⟩:ByteArray)).size=1:=rfl
       rw [ez,eg,es,ec] at hz
       have y1 : ¬MAXS<1+1+1+(atomX t.a.var t.a.sym).size:=by unfold MAXS at *;omega
       have y2 : ¬MAXS<1+1+1+(atomX t.a.var t.a.sym).size+1:=by unfold MAXS at *;omega
       have y3 : ¬MAXS<1+1+1+(atomX t.a.var t.a.sym).size+1+(atomX t.b.var t.b.sym).size:=by unfold MAXS at *;omega
       have y4 : ¬MAXS<1+1+1+(atomX t.a.var t.a.sym).size+1+(atomX t.b.var t.b.sym).size+1:=by unfold MAXS at *;omega
       have x1 : ¬MAXS<3+(atomX t.a.var t.a.sym).size:=y1
       have x2 : ¬MAXS<3+(atomX t.a.var t.a.sym).size+1:=y2
       have x3 : ¬MAXS<3+(atomX t.a.var t.a.sym).size+1+(atomX t.b.var t.b.sym).size:=y3
       have x4 : ¬MAXS<3+(atomX t.a.var t.a.sym).size+1+(atomX t.b.var t.b.sym).size+1:=y4
       have HA:=Lib.hid (show (atomX t.a.var t.a.sym).size≤MAXS by unfold MAXS at *;omega)
       have HBB:=Lib.hid (show (atomX t.b.var t.b.sym).size≤MAXS by unfold MAXS at *;omega)
       clear hz ez eg es ec g0 g3 h0 h1 h2
       go_enter Tryz.func229,Tryz.ntmps229
       go_upto_region 1 with fail
       obtain ⟨w1,hw1⟩ : ∃w1,w1=(w.alloc (.cells #[.int .i64 t.op,.string t.a.var,.int .i64 t.a.sym.kind,.string t.a.sym.text,.int .i64 t.a.sym.n,.string t.b.var,.int .i64 t.b.sym.kind,.string t.b.sym.text,.int .i64 t.b.sym.n] 96)):=⟨_,rfl⟩
       rw [← hw1]
       have HB:=Lib.hid (show Below w.heap.size w w1 by rw [hw1];exact (by repeat (first | exact Below.refl _ _ | refine Below.drew ?_ | refine Below.al ?_ _ | refine Below.sc ?_ _)))
       have Kb:=Lib.hid (show Blk w1 (w.heap.size) 96 #[.int .i64 t.op,.string t.a.var,.int .i64 t.a.sym.kind,.string t.a.sym.text,.int .i64 t.a.sym.n,.string t.b.var,.int .i64 t.b.sym.kind,.string t.b.sym.text,.int .i64 t.b.sym.n] by rw [hw1];exact (Blk.new w 96 #[.int .i64 t.op,.string t.a.var,.int .i64 t.a.sym.kind,.string t.a.sym.text,.int .i64 t.a.sym.n,.string t.b.var,.int .i64 t.b.sym.kind,.string t.b.sym.text,.int .i64 t.b.sym.n]))
       clear hw1
       obtain ⟨b0,b1,b2,b3,b4,b5,b6,b7,b8⟩:=Kb.out.c9
       have bz:=Kb.out.lt
       go_upto_region 10 with fail
       refine wp_region_E (fun w9=>Below w1.heap.size w1 w9) [(0,0),(1,0),(2,0),(3,0),(4,1),(8,0),(9,1),(5,2),(6,0),(7,0),(10,2),(11,0),(12,0),(13,0)] (by kernel_rfl) (by kernel_rfl) (fun KK hKK=>?_)
       simp only [beside,List.filterMap_cons,List.filterMap_nil,List.getElem?_toArray,List.getElem?_cons_zero,List.getElem?_cons_succ,Option.map_some]
       repeat ((first | (refine wpX_w ?_ (Or.inl ⟨by rfl,fun w9=>?_⟩) ?_;rotate_left 1;go_simp;with_reducible rfl) | (refine wpX_l ?_ (((Below.refl _ _).drew)) (Or.inl ⟨by rfl,fun w9 hw9=>?_⟩) ?_;rotate_left 1;obtain ⟨hc9,hf9⟩:=bcell hw9;go_simp;with_reducible rfl) | refine wpX_w undef (Or.inr ⟨by rfl,rfl⟩) ?_ | refine wpX_l undef (((Below.refl _ _).drew)) (Or.inr ⟨by rfl,rfl⟩) ?_);go_frame)
       refine wpX_es (fun K9 hK9=>?_)
       go_simp
       refine (r7atom_is t.a _ HA.out).mono ?_
       rintro e w5 ⟨rfl,hb5⟩
       have HBa:=Lib.hid (show Below w1.heap.size w1 w5 from ((Below.refl w1.heap.size w1).drew).trans (hb5.mono (by first | exact Nat.le_refl _ | (have:=HBa.out.size;omega))))
       clear hb5
       refine hK9 _ _ HBa.out ?_
       clear hK9 K9
       repeat ((first | (refine wpX_w ?_ (Or.inl ⟨by rfl,fun w9=>?_⟩) ?_;rotate_left 1;go_simp;with_reducible rfl) | (refine wpX_l ?_ (HBa.out) (Or.inl ⟨by rfl,fun w9 hw9=>?_⟩) ?_;rotate_left 1;obtain ⟨hc9,hf9⟩:=bcell hw9;go_simp;with_reducible rfl) | refine wpX_w undef (Or.inr ⟨by rfl,rfl⟩) ?_ | refine wpX_l undef (HBa.out) (Or.inr ⟨by rfl,rfl⟩) ?_);go_frame)
       refine wpX_es (fun K9 hK9=>?_)
       go_simp
       refine (r7atom_is t.b _ HBB.out).mono ?_
       rintro e w6 ⟨rfl,hb5⟩
       have HBb:=Lib.hid (show Below w1.heap.size w1 w6 from (HBa.out).trans (hb5.mono (by first | exact Nat.le_refl _ | (have:=HBa.out.size;omega))))
       clear hb5
       refine hK9 _ _ HBb.out ?_
       clear hK9 K9
       repeat ((first | (refine wpX_w ?_ (Or.inl ⟨by rfl,fun w9=>?_⟩) ?_;rotate_left 1;go_simp;with_reducible rfl) | (refine wpX_l ?_ (HBa.out) (Or.inl ⟨by rfl,fun w9 hw9=>?_⟩) ?_;rotate_left 1;obtain ⟨hc9,hf9⟩:=bcell hw9;go_simp;with_reducible rfl) | refine wpX_w undef (Or.inr ⟨by rfl,rfl⟩) ?_ | refine wpX_l undef (HBa.out) (Or.inr ⟨by rfl,rfl⟩) ?_);go_frame)
       refine wpX_nil ?_
       simp only [OnlyN_normal]
       refine hKK _ _ ?_
       clear hKK KK
       go_wp2_with fail
       go_ret
       exact ⟨by rw [HR.out]<;>rfl,HB.out.trans (HBb.out.mono HB.out.size)⟩
     · skip
       have h3:t.op=3:=by omega
       have o0_a:(t.op == 0)=false:=by simp [h0]
       have o0_b:decide (t.op=0)=false:=by simp [h0]
       have o1_a:(t.op == 1)=false:=by simp [h1]
       have o1_b:decide (t.op=1)=false:=by simp [h1]
       have o2_a:(t.op == 2)=false:=by simp [h2]
       have o2_b:decide (t.op=2)=false:=by simp [h2]
       have HR:=Lib.hid (show termX t=(⟨#[40]⟩:ByteArray)++(⟨#[42]⟩:ByteArray)++(⟨#[32]⟩:ByteArray)++atomX t.a.var t.a.sym++(⟨#[32]⟩:ByteArray)++atomX t.b.var t.b.sym++(⟨#[41]⟩:ByteArray) by
        unfold termX
        rw [if_pos (by omega),show opX t.op=(⟨#[42]⟩:ByteArray) by unfold opX;simp [h3]])
       rw [HR.out] at hz
       simp only [ByteArray.size_append] at hz
       have ez:((⟨#[40]⟩:ByteArray)).size=1:=rfl
       have eg:((⟨#[42]⟩:ByteArray)).size=1:=rfl
       have es:((⟨#[32]⟩:ByteArray)).size=1:=rfl
       have ec:((⟨#[41]⟩:ByteArray)).size=1:=rfl
       rw [ez,eg,es,ec] at hz
       have y1 : ¬MAXS<1+1+1+(atomX t.a.var t.a.sym).size:=by unfold MAXS at *;omega
       have y2 : ¬MAXS<1+1+1+(atomX t.a.var t.a.sym).size+1:=by unfold MAXS at *;omega
       have y3 : ¬MAXS<1+1+1+(atomX t.a.var t.a.sym).size+1+(atomX t.b.var t.b.sym).size:=by unfold MAXS at *;omega
       have y4 : ¬MAXS<1+1+1+(atomX t.a.var t.a.sym).size+1+(atomX t.b.var t.b.sym).size+1:=by unfold MAXS at *;omega
       have x1 : ¬MAXS<3+(atomX t.a.var t.a.sym).size:=y1
       have x2 : ¬MAXS<3+(atomX t.a.var t.a.sym).size+1:=y2
       have x3 : ¬MAXS<3+(atomX t.a.var t.a.sym).size+1+(atomX t.b.var t.b.sym).size:=y3
       have x4 : ¬MAXS<3+(atomX t.a.var t.a.sym).size+1+(atomX t.b.var t.b.sym).size+1:=y4
       have HA:=Lib.hid (show (atomX t.a.var t.a.sym).size≤MAXS by unfold MAXS at *;omega)
       have HBB:=Lib.hid (show (atomX t.b.var t.b.sym).size≤MAXS by unfold MAXS at *;omega)
       clear hz ez eg es ec g0 g3 h0 h1 h2 h3
       go_enter Tryz.func229,Tryz.ntmps229
       go_upto_region 1 with fail
       obtain ⟨w1,hw1⟩ : ∃w1,w1=(w.alloc (.cells #[.int .i64 t.op,.string t.a.var,.int .i64 t.a.sym.kind,.string t.a.sym.text,.int .i64 t.a.sym.n,.string t.b.var,.int .i64 t.b.sym.kind,.string t.b.sym.text,.int .i64 t.b.sym.n] 96)):=⟨_,rfl⟩
       rw [← hw1]
       have HB:=Lib.hid (show Below w.heap.size w w1 by rw [hw1];exact (by repeat (first | exact Below.refl _ _ | refine Below.drew ?_ | refine Below.al ?_ _ | refine Below.sc ?_ _)))
       have Kb:=Lib.hid (show Blk w1 (w.heap.size) 96 #[.int .i64 t.op,.string t.a.var,.int .i64 t.a.sym.kind,.string t.a.sym.text,.int .i64 t.a.sym.n,.string t.b.var,.int .i64 t.b.sym.kind,.string t.b.sym.text,.int .i64 t.b.sym.n] by rw [hw1];exact (Blk.new w 96 #[.int .i64 t.op,.string t.a.var,.int .i64 t.a.sym.kind,.string t.a.sym.text,.int .i64 t.a.sym.n,.string t.b.var,.int .i64 t.b.sym.kind,.string t.b.sym.text,.int .i64 t.b.sym.n]))
       clear hw1
       obtain ⟨b0,b1,b2,b3,b4,b5,b6,b7,b8⟩:=Kb.out.c9
       have bz:=Kb.out.lt
       go_upto_region 10 with fail
       refine wp_region_E (fun w9=>Below w1.heap.size w1 w9) [(0,0),(1,0),(2,0),(3,0),(4,1),(8,0),(9,1),(5,2),(6,0),(7,0),(10,2),(11,0),(12,0),(13,0)] (by kernel_rfl) (by kernel_rfl) (fun KK hKK=>?_)
       simp only [beside,List.filterMap_cons,List.filterMap_nil,List.getElem?_toArray,List.getElem?_cons_zero,List.getElem?_cons_succ,Option.map_some]
       repeat ((first | (refine wpX_w ?_ (Or.inl ⟨by rfl,fun w9=>?_⟩) ?_;rotate_left 1;go_simp;with_reducible rfl) | (refine wpX_l ?_ (((Below.refl _ _).drew)) (Or.inl ⟨by rfl,fun w9 hw9=>?_⟩) ?_;rotate_left 1;obtain ⟨hc9,hf9⟩:=bcell hw9;go_simp;with_reducible rfl) | refine wpX_w undef (Or.inr ⟨by rfl,rfl⟩) ?_ | refine wpX_l undef (((Below.refl _ _).drew)) (Or.inr ⟨by rfl,rfl⟩) ?_);go_frame)
       refine wpX_es (fun K9 hK9=>?_)
       go_simp
       refine (r7atom_is t.a _ HA.out).mono ?_
       rintro e w5 ⟨rfl,hb5⟩
       have HBa:=Lib.hid (show Below w1.heap.size w1 w5 from ((Below.refl w1.heap.size w1).drew).trans (hb5.mono (by first | exact Nat.le_refl _ | (have:=HBa.out.size;omega))))
       clear hb5
       refine hK9 _ _ HBa.out ?_
       clear hK9 K9
       repeat ((first | (refine wpX_w ?_ (Or.inl ⟨by rfl,fun w9=>?_⟩) ?_;rotate_left 1;go_simp;with_reducible rfl) | (refine wpX_l ?_ (HBa.out) (Or.inl ⟨by rfl,fun w9 hw9=>?_⟩) ?_;rotate_left 1;obtain ⟨hc9,hf9⟩:=bcell hw9;go_simp;with_reducible rfl) | refine wpX_w undef (Or.inr ⟨by rfl,rfl⟩) ?_ | refine wpX_l undef (HBa.out) (Or.inr ⟨by rfl,rfl⟩) ?_);go_frame)
       refine wpX_es (fun K9 hK9=>?_)
       go_simp
       refine (r7atom_is t.b _ HBB.out).mono ?_
       rintro e w6 ⟨rfl,hb5⟩
       have HBb:=Lib.hid (show Below w1.heap.size w1 w6 from (HBa.out).trans (hb5.mono (by first | exact Nat.le_refl _ | (have:=HBa.out.size;omega))))
       clear hb5
       refine hK9 _ _ HBb.out ?_
       clear hK9 K9
       repeat ((first | (refine wpX_w ?_ (Or.inl ⟨by rfl,fun w9=>?_⟩) ?_;rotate_left 1;go_simp;with_reducible rfl) | (refine wpX_l ?_ (HBa.out) (Or.inl ⟨by rfl,fun w9 hw9=>?_⟩) ?_;rotate_left 1;obtain ⟨hc9,hf9⟩:=bcell hw9;go_simp;with_reducible rfl) | refine wpX_w undef (Or.inr ⟨by rfl,rfl⟩) ?_ | refine wpX_l undef (HBa.out) (Or.inr ⟨by rfl,rfl⟩) ?_);go_frame)
       refine wpX_nil ?_
       simp only [OnlyN_normal]
       refine hKK _ _ ?_
       clear hKK KK
       go_wp2_with fail
       go_ret
       exact ⟨by rw [HR.out]<;>rfl,HB.out.trans (HBb.out.mono HB.out.size)⟩
theorem r7parts {a:ActT} (h:actB a=true):0≤a.value.op∧a.value.op≤3∧1≤a.pref∧a.pref≤10:=by
 unfold actB at h
 split at h
 · cases h
 · rename_i hh
   simp only [not_or] at hh
   have ht:termB a.value=true:=by simpa using hh.2.2.1
   unfold termB at ht
   split at ht
   · cases ht
   · rename_i h2
     simp only [not_or] at h2
     omega
set_option maxRecDepth 100000 in
set_option maxHeartbeats 8000000 in
theorem r7act_is (a:ActT) (w:World) (ha:actB a=true) (hz:(actX a).size≤MAXS):Calls Tryz.prog 174 #[.agg #[.string a.id,.string a.attr.var,.int .i64 a.attr.sym.kind,.string a.attr.sym.text,.int .i64 a.attr.sym.n,.int .i64 a.value.op,.string a.value.a.var,.int .i64 a.value.a.sym.kind,.string a.value.a.sym.text,.int .i64 a.value.a.sym.n,.string a.value.b.var,.int .i64 a.value.b.sym.kind,.string a.value.b.sym.text,.int .i64 a.value.b.sym.n,.int .i64 a.pref,.string a.other.var,.int .i64 a.other.sym.kind,.string a.other.sym.text,.int .i64 a.other.sym.n]] w fun e w'=>e = .returned (.string (actX a))∧Below w.heap.size w w':=by
 obtain ⟨g0,g3,g1,g10⟩:=r7parts ha
 obtain ⟨S,hS⟩ : ∃S,S=(⟨#[40,60]⟩:ByteArray)++a.id++(⟨#[62,32,94]⟩:ByteArray)++atomX a.attr.var a.attr.sym++(⟨#[32]⟩:ByteArray)++termX a.value++(⟨#[32]⟩:ByteArray):=⟨_,rfl⟩
 have HS:=Lib.hid hS
 have HX:=Lib.hid (show actX a=(if otherB a.pref=true then S++signX a.pref++((⟨#[32]⟩:ByteArray)++atomX a.other.var a.other.sym) else S++signX a.pref)++(⟨#[41]⟩:ByteArray) by rw [hS,← ByteArray.append_assoc (b:=(⟨#[32]⟩:ByteArray))];rfl)
 have hgs:(signX a.pref).size=1:=by
  have h:a.pref=1∨a.pref=2∨a.pref=3∨a.pref=4∨a.pref=5∨a.pref=6∨a.pref=7∨a.pref=8∨a.pref=9∨a.pref=10:=by omega
  rcases h with h | h | h | h | h | h | h | h | h | h<;>rw [h]<;>rfl
 have hle:S.size+1+1≤MAXS:=by
  rw [HX.out,ByteArray.size_append] at hz
  have ec:((⟨#[41]⟩:ByteArray)).size=1:=rfl
  split at hz
  · rw [ByteArray.size_append,ByteArray.size_append] at hz;omega
  · rw [ByteArray.size_append] at hz;omega
 have hsz:=congrArg ByteArray.size hS
 simp only [ByteArray.size_append] at hsz
 have ep:((⟨#[40,60]⟩:ByteArray)).size=2:=rfl
 have eg:((⟨#[62,32,94]⟩:ByteArray)).size=3:=rfl
 have es:((⟨#[32]⟩:ByteArray)).size=1:=rfl
 rw [ep,eg,es] at hsz
 have y1 : ¬MAXS<2+a.id.size:=by unfold MAXS at *;omega
 have y2 : ¬MAXS<2+a.id.size+3:=by unfold MAXS at *;omega
 have y3 : ¬MAXS<2+a.id.size+3+(atomX a.attr.var a.attr.sym).size:=by unfold MAXS at *;omega
 have y4 : ¬MAXS<2+a.id.size+3+(atomX a.attr.var a.attr.sym).size+1:=by unfold MAXS at *;omega
 have y5 : ¬MAXS<2+a.id.size+3+(atomX a.attr.var a.attr.sym).size+1+(termX a.value).size:=by unfold MAXS at *;omega
 have y6 : ¬MAXS<2+a.id.size+3+(atomX a.attr.var a.attr.sym).size+1+(termX a.value).size+1:=by unfold MAXS at *;omega
 have HA:=Lib.hid (show (atomX a.attr.var a.attr.sym).size≤MAXS by unfold MAXS at *;omega)
 have HT:=Lib.hid (show (termX a.value).size≤MAXS by unfold MAXS at *;omega)
 have HG:=Lib.hid (And.intro g0 g3)
 have HP:=Lib.hid (And.intro g1 g10)
 have HLE:=Lib.hid hle
 have HZ:=Lib.hid hz
 clear hS hsz ep eg es hgs hle hz g0 g3 g1 g10 ha
 go_enter Tryz.func174,Tryz.ntmps174
 go_upto_region 1 with fail
 obtain ⟨w1,hw1⟩ : ∃w1,w1=(w.alloc (.cells #[.string a.id,.string a.attr.var,.int .i64 a.attr.sym.kind,.string a.attr.sym.text,.int .i64 a.attr.sym.n,.int .i64 a.value.op,.string a.value.a.var,.int .i64 a.value.a.sym.kind,.string a.value.a.sym.text,.int .i64 a.value.a.sym.n,.string a.value.b.var,.int .i64 a.value.b.sym.kind,.string a.value.b.sym.text,.int .i64 a.value.b.sym.n,.int .i64 a.pref,.string a.other.var,.int .i64 a.other.sym.kind,.string a.other.sym.text,.int .i64 a.other.sym.n] 99)):=⟨_,rfl⟩
 rw [← hw1]
 have HB:=Lib.hid (show Below w.heap.size w w1 by rw [hw1];exact (by repeat (first | exact Below.refl _ _ | refine Below.drew ?_ | refine Below.al ?_ _ | refine Below.sc ?_ _)))
 have Kb:=Lib.hid (show Blk w1 (w.heap.size) 99 #[.string a.id,.string a.attr.var,.int .i64 a.attr.sym.kind,.string a.attr.sym.text,.int .i64 a.attr.sym.n,.int .i64 a.value.op,.string a.value.a.var,.int .i64 a.value.a.sym.kind,.string a.value.a.sym.text,.int .i64 a.value.a.sym.n,.string a.value.b.var,.int .i64 a.value.b.sym.kind,.string a.value.b.sym.text,.int .i64 a.value.b.sym.n,.int .i64 a.pref,.string a.other.var,.int .i64 a.other.sym.kind,.string a.other.sym.text,.int .i64 a.other.sym.n] by rw [hw1];exact (Blk.new w 99 #[.string a.id,.string a.attr.var,.int .i64 a.attr.sym.kind,.string a.attr.sym.text,.int .i64 a.attr.sym.n,.int .i64 a.value.op,.string a.value.a.var,.int .i64 a.value.a.sym.kind,.string a.value.a.sym.text,.int .i64 a.value.a.sym.n,.string a.value.b.var,.int .i64 a.value.b.sym.kind,.string a.value.b.sym.text,.int .i64 a.value.b.sym.n,.int .i64 a.pref,.string a.other.var,.int .i64 a.other.sym.kind,.string a.other.sym.text,.int .i64 a.other.sym.n]))
 clear hw1
 obtain ⟨b0,b1,b2,b3,b4,b5,b6,b7,b8,b9,b10,b11,b12,b13,b14,b15,b16,b17,b18⟩:=Kb.out.c19
 have bz:=Kb.out.lt
 go_upto_region 1 with fail
 refine wp_region_E (fun w9=>Below w1.heap.size w1 w9) [(0,0),(1,1),(2,0),(3,0),(4,0),(5,1),(9,0),(10,1),(6,2),(7,0),(8,0),(11,2),(12,0),(13,0),(14,0)] (by kernel_rfl) (by kernel_rfl) (fun KK hKK=>?_)
 simp only [beside,List.filterMap_cons,List.filterMap_nil,List.getElem?_toArray,List.getElem?_cons_zero,List.getElem?_cons_succ,Option.map_some]
 repeat ((first | (refine wpX_w ?_ (Or.inl ⟨by rfl,fun w9=>?_⟩) ?_;rotate_left 1;go_simp;with_reducible rfl) | (refine wpX_l ?_ (((Below.refl _ _).drew)) (Or.inl ⟨by rfl,fun w9 hw9=>?_⟩) ?_;rotate_left 1;obtain ⟨hc9,hf9⟩:=bcell hw9;go_simp;with_reducible rfl) | refine wpX_w undef (Or.inr ⟨by rfl,rfl⟩) ?_ | refine wpX_l undef (((Below.refl _ _).drew)) (Or.inr ⟨by rfl,rfl⟩) ?_);go_frame)
 refine wpX_es (fun K9 hK9=>?_)
 go_simp
 refine (r7atom_is a.attr _ HA.out).mono ?_
 rintro e w5 ⟨rfl,hb5⟩
 have HBa:=Lib.hid (show Below w1.heap.size w1 w5 from ((Below.refl w1.heap.size w1).drew).trans (hb5.mono (by simp)))
 clear hb5
 refine hK9 _ _ HBa.out ?_
 clear hK9 K9
 repeat ((first | (refine wpX_w ?_ (Or.inl ⟨by rfl,fun w9=>?_⟩) ?_;rotate_left 1;go_simp;with_reducible rfl) | (refine wpX_l ?_ (HBa.out) (Or.inl ⟨by rfl,fun w9 hw9=>?_⟩) ?_;rotate_left 1;obtain ⟨hc9,hf9⟩:=bcell hw9;go_simp;with_reducible rfl) | refine wpX_w undef (Or.inr ⟨by rfl,rfl⟩) ?_ | refine wpX_l undef (HBa.out) (Or.inr ⟨by rfl,rfl⟩) ?_);go_frame)
 refine wpX_es (fun K9 hK9=>?_)
 go_simp
 refine (r7term_is a.value _ HG.out.1 HG.out.2 HT.out).mono ?_
 rintro e w6 ⟨rfl,hb5⟩
 have HBb:=Lib.hid (show Below w1.heap.size w1 w6 from (HBa.out).trans (hb5.mono (HBa.out.size)))
 clear hb5
 refine hK9 _ _ HBb.out ?_
 clear hK9 K9
 repeat ((first | (refine wpX_w ?_ (Or.inl ⟨by rfl,fun w9=>?_⟩) ?_;rotate_left 1;go_simp;with_reducible rfl) | (refine wpX_l ?_ (HBb.out) (Or.inl ⟨by rfl,fun w9 hw9=>?_⟩) ?_;rotate_left 1;obtain ⟨hc9,hf9⟩:=bcell hw9;go_simp;with_reducible rfl) | refine wpX_w undef (Or.inr ⟨by rfl,rfl⟩) ?_ | refine wpX_l undef (HBb.out) (Or.inr ⟨by rfl,rfl⟩) ?_);go_frame)
 refine wpX_nil ?_
 simp only [OnlyN_normal]
 refine hKK _ _ ?_
 clear hKK KK
 rw [← HS.out]
 have Kb:=Lib.hid (Kb.out.new_ HBb.out)
 have HB:=Lib.hid (HB.out.trans (HBb.out.mono HB.out.size))
 clear b0 b1 b2 b3 b4 b5 b6 b7 b8 b9 b10 b11 b12 b13 b14 b15 b16 b17 b18 bz y1 y2 y3 y4 y5 y6
 have hle:=HLE.out
 have z1 : ¬MAXS<S.size+1:=by unfold MAXS at *;omega
 have z2 : ¬MAXS<S.size+1+1:=Nat.not_lt.2 hle
 clear hle
 by_cases h8:a.pref<8
 · skip
   have hp:a.pref=1∨a.pref=2∨a.pref=3∨a.pref=4∨a.pref=5∨a.pref=6∨a.pref=7:=by have:=HP.out.1;have:=HP.out.2;omega
   clear h8
   obtain ⟨pk,hpk⟩ : ∃k,k=a.pref:=⟨_,rfl⟩
   rw [← hpk] at hp Kb HX
   clear hpk
   rcases hp with rfl | rfl | rfl | rfl | rfl | rfl | rfl
   all_goals
    have HR:=Lib.hid (HX.out.trans (congrArg (· ++ (⟨#[41]⟩:ByteArray)) (if_neg (by decide))))
    obtain ⟨b0,b1,b2,b3,b4,b5,b6,b7,b8,b9,b10,b11,b12,b13,b14,b15,b16,b17,b18⟩:=Kb.out.c19
    have bz:=Kb.out.lt
    go_wp2_with fail
    go_ret
    exact ⟨by rw [HR.out]<;>rfl,by (repeat (first | exact Below.refl _ _ | exact HB.out | refine Below.drew ?_ | refine Below.al ?_ _ | refine Below.sc ?_ _))⟩
 · skip
   have hp:a.pref=8∨a.pref=9∨a.pref=10:=by have:=HP.out.1;have:=HP.out.2;omega
   clear h8
   obtain ⟨pk,hpk⟩ : ∃k,k=a.pref:=⟨_,rfl⟩
   rw [← hpk] at hp Kb HX
   clear hpk
   rcases hp with rfl | rfl | rfl
   all_goals
    have HR:=Lib.hid (HX.out.trans (congrArg (· ++ (⟨#[41]⟩:ByteArray)) (if_pos (by decide))))
    have hz:=HZ.out
    rw [HR.out] at hz
    simp only [ByteArray.size_append] at hz
    have es:((⟨#[32]⟩:ByteArray)).size=1:=rfl
    have ec:((⟨#[41]⟩:ByteArray)).size=1:=rfl
    have eg : ∀k:Int,k=8∨k=9∨k=10→(signX k).size=1:=fun k h=>by rcases h with rfl | rfl | rfl<;>rfl
    rw [es,ec,eg _ (by omega)] at hz
    have x1 : ¬MAXS<1+(atomX a.other.var a.other.sym).size:=by unfold MAXS at *;omega
    have x2 : ¬MAXS<S.size+1+(1+(atomX a.other.var a.other.sym).size):=by unfold MAXS at *;omega
    have x3 : ¬MAXS<S.size+1+(1+(atomX a.other.var a.other.sym).size)+1:=by unfold MAXS at *;omega
    have HO:=Lib.hid (show (atomX a.other.var a.other.sym).size≤MAXS by unfold MAXS at *;omega)
    clear hz es ec eg
    obtain ⟨b0,b1,b2,b3,b4,b5,b6,b7,b8,b9,b10,b11,b12,b13,b14,b15,b16,b17,b18⟩:=Kb.out.c19
    have bz:=Kb.out.lt
    go_wp2_with fail
    with_reducible refine (r7atom_is a.other _ HO.out).mono ?_
    rintro e w2 ⟨rfl,hb⟩
    have hbs:=Below.trans (show Below w6.heap.size w6 _ from (by (repeat (first | exact Below.refl _ _ | refine Below.drew ?_ | refine Below.al ?_ _ | refine Below.sc ?_ _)))) (hb.mono (by simp<;>omega))
    have Kb:=Lib.hid (Kb.out.new_ hbs)
    have HB:=Lib.hid (HB.out.trans (hbs.mono HB.out.size))
    have hsz2:=hbs.size
    clear b0 b1 b2 b3 b4 b5 b6 b7 b8 b9 b10 b11 b12 b13 b14 b15 b16 b17 b18 bz hb hbs
    obtain ⟨b0,b1,b2,b3,b4,b5,b6,b7,b8,b9,b10,b11,b12,b13,b14,b15,b16,b17,b18⟩:=Kb.out.c19
    have bz:=Kb.out.lt
    go_wp2_with fail
    go_ret
    exact ⟨by rw [HR.out]<;>rfl,by (repeat (first | exact Below.refl _ _ | exact HB.out | refine Below.drew ?_ | refine Below.al ?_ _ | refine Below.sc ?_ _))⟩
end Go.Proofs.YtffemfglngikbaaGreat
namespace Go.Proofs.YtffemfglngikbaaGreat
open Go.RowKit Go.Shelf
attribute [local go_sem] Oper.semAt_some
set_option linter.unusedSimpArgs false
theorem eqz_sym (s:Sym) (W:World):(binOp .eql 38 (.agg #[.int .i64 s.kind,.string s.text,.int .i64 s.n]) (.agg #[.int .i64 0,.string ⟨#[]⟩,.int .i64 0])).run Tryz.prog W = .ok (.bool (noneB s)) W:=eql_sym s zS W
set_option maxRecDepth 100000 in
set_option maxHeartbeats 8000000 in
theorem rconst_is (s:Sym) (w:World):Calls Tryz.prog 67 #[.agg #[.int .i64 s.kind,.string s.text,.int .i64 s.n]] w fun e w'=>e = .returned (.bool (constB s))∧Below w.heap.size w w':=by
 by_cases hk:s.kind=1
 · skip
   have ka:(s.kind == 1)=true:=by simp [hk]
   have kb:decide (s.kind=1)=true:=by simp [hk]
   have kc:(s.kind != 1)=false:=by simp [hk]
   have HK:=Lib.hid hk
   clear hk
   go_enter Tryz.func67,Tryz.ntmps67
   go_upto_region 1 with fail
   obtain ⟨w1,hw1⟩ : ∃w1,w1=(w.alloc (.cells #[.int .i64 s.kind,.string s.text,.int .i64 s.n] 38)):=⟨_,rfl⟩
   rw [← hw1]
   have HB:=Lib.hid (show Below w.heap.size w w1 by rw [hw1];exact (by repeat (first | exact Below.refl _ _ | refine Below.drew ?_ | refine Below.al ?_ _ | refine Below.sc ?_ _)))
   have Ks:=Lib.hid (show Blk w1 (w.heap.size) 38 #[.int .i64 s.kind,.string s.text,.int .i64 s.n] by rw [hw1];exact (Blk.new w 38 #[.int .i64 s.kind,.string s.text,.int .i64 s.n]))
   clear hw1
   obtain ⟨s0,s1,s2⟩:=Ks.out.c3
   have sz:=Ks.out.lt
   cases hv:validB s
   · skip
     have hc:=fun W=>rvalid_is s W
     simp only [hv] at hc
     have HCv:=Lib.hid hc
     clear hc
     go_wp2_with fail
     with_reducible refine (HCv.out _).mono ?_
     rintro e w2 ⟨rfl,hb⟩
     have hbs:=Below.trans (show Below w1.heap.size w1 _ from (by (repeat (first | exact Below.refl _ _ | refine Below.drew ?_ | refine Below.al ?_ _ | refine Below.sc ?_ _)))) (hb.mono (by simp<;>omega))
     have Ks:=Lib.hid (Ks.out.new_ hbs)
     have HB:=Lib.hid (HB.out.trans (hbs.mono HB.out.size))
     have hsz2:=hbs.size
     clear s0 s1 s2 sz hb hbs
     obtain ⟨s0,s1,s2⟩:=Ks.out.c3
     have sz:=Ks.out.lt
     have HR:=Lib.hid (show constB s=false by simp [constB,HK.out,hv])
     go_wp2_with fail
     go_ret
     exact ⟨by rw [HR.out]<;>rfl,by (repeat (first | exact Below.refl _ _ | exact HB.out | refine Below.drew ?_ | refine Below.al ?_ _ | refine Below.sc ?_ _))⟩
   · skip
     have hc:=fun W=>rvalid_is s W
     simp only [hv] at hc
     have HCv:=Lib.hid hc
     clear hc
     go_wp2_with fail
     with_reducible refine (HCv.out _).mono ?_
     rintro e w2 ⟨rfl,hb⟩
     have hbs:=Below.trans (show Below w1.heap.size w1 _ from (by (repeat (first | exact Below.refl _ _ | refine Below.drew ?_ | refine Below.al ?_ _ | refine Below.sc ?_ _)))) (hb.mono (by simp<;>omega))
     have Ks:=Lib.hid (Ks.out.new_ hbs)
     have HB:=Lib.hid (HB.out.trans (hbs.mono HB.out.size))
     have hsz2:=hbs.size
     clear s0 s1 s2 sz hb hbs
     obtain ⟨s0,s1,s2⟩:=Ks.out.c3
     have sz:=Ks.out.lt
     have HR:=Lib.hid (show constB s=false by simp [constB,HK.out,hv])
     go_wp2_with fail
     go_ret
     exact ⟨by rw [HR.out]<;>rfl,by (repeat (first | exact Below.refl _ _ | exact HB.out | refine Below.drew ?_ | refine Below.al ?_ _ | refine Below.sc ?_ _))⟩
 · skip
   have ka:(s.kind == 1)=false:=by simp [hk]
   have kb:decide (s.kind=1)=false:=by simp [hk]
   have kc:(s.kind != 1)=true:=by simp [hk]
   have HK:=Lib.hid hk
   clear hk
   go_enter Tryz.func67,Tryz.ntmps67
   go_upto_region 1 with fail
   obtain ⟨w1,hw1⟩ : ∃w1,w1=(w.alloc (.cells #[.int .i64 s.kind,.string s.text,.int .i64 s.n] 38)):=⟨_,rfl⟩
   rw [← hw1]
   have HB:=Lib.hid (show Below w.heap.size w w1 by rw [hw1];exact (by repeat (first | exact Below.refl _ _ | refine Below.drew ?_ | refine Below.al ?_ _ | refine Below.sc ?_ _)))
   have Ks:=Lib.hid (show Blk w1 (w.heap.size) 38 #[.int .i64 s.kind,.string s.text,.int .i64 s.n] by rw [hw1];exact (Blk.new w 38 #[.int .i64 s.kind,.string s.text,.int .i64 s.n]))
   clear hw1
   obtain ⟨s0,s1,s2⟩:=Ks.out.c3
   have sz:=Ks.out.lt
   cases hv:validB s
   · skip
     have hc:=fun W=>rvalid_is s W
     simp only [hv] at hc
     have HCv:=Lib.hid hc
     clear hc
     go_wp2_with fail
     with_reducible refine (HCv.out _).mono ?_
     rintro e w2 ⟨rfl,hb⟩
     have hbs:=Below.trans (show Below w1.heap.size w1 _ from (by (repeat (first | exact Below.refl _ _ | refine Below.drew ?_ | refine Below.al ?_ _ | refine Below.sc ?_ _)))) (hb.mono (by simp<;>omega))
     have Ks:=Lib.hid (Ks.out.new_ hbs)
     have HB:=Lib.hid (HB.out.trans (hbs.mono HB.out.size))
     have hsz2:=hbs.size
     clear s0 s1 s2 sz hb hbs
     obtain ⟨s0,s1,s2⟩:=Ks.out.c3
     have sz:=Ks.out.lt
     have HR:=Lib.hid (show constB s=false by simp [constB,HK.out,hv])
     go_wp2_with fail
     go_ret
     exact ⟨by rw [HR.out]<;>rfl,by (repeat (first | exact Below.refl _ _ | exact HB.out | refine Below.drew ?_ | refine Below.al ?_ _ | refine Below.sc ?_ _))⟩
   · skip
     have hc:=fun W=>rvalid_is s W
     simp only [hv] at hc
     have HCv:=Lib.hid hc
     clear hc
     go_wp2_with fail
     with_reducible refine (HCv.out _).mono ?_
     rintro e w2 ⟨rfl,hb⟩
     have hbs:=Below.trans (show Below w1.heap.size w1 _ from (by (repeat (first | exact Below.refl _ _ | refine Below.drew ?_ | refine Below.al ?_ _ | refine Below.sc ?_ _)))) (hb.mono (by simp<;>omega))
     have Ks:=Lib.hid (Ks.out.new_ hbs)
     have HB:=Lib.hid (HB.out.trans (hbs.mono HB.out.size))
     have hsz2:=hbs.size
     clear s0 s1 s2 sz hb hbs
     obtain ⟨s0,s1,s2⟩:=Ks.out.c3
     have sz:=Ks.out.lt
     have HR:=Lib.hid (show constB s=true by simp [constB,HK.out,hv])
     go_wp2_with fail
     go_ret
     exact ⟨by rw [HR.out]<;>rfl,by (repeat (first | exact Below.refl _ _ | exact HB.out | refine Below.drew ?_ | refine Below.al ?_ _ | refine Below.sc ?_ _))⟩
set_option maxRecDepth 100000 in
set_option maxHeartbeats 8000000 in
theorem ratom_is (a:AtomT) (w:World):Calls Tryz.prog 177 #[.agg #[.string a.var,.int .i64 a.sym.kind,.string a.sym.text,.int .i64 a.sym.n]] w fun e w'=>e = .returned (.bool (atomB a))∧Below w.heap.size w w':=by
 have hq:=eqz_sym a.sym
 by_cases hv:a.var.toList = []
 · skip
   have va:(a.var.toList == [])=true:=by simp [hv]
   have vb:a.var.toList.isEmpty=true:=by simp [hv]
   have vc:decide (a.var.toList = [])=true:=by simp [hv]
   have HV:=Lib.hid hv
   clear hv
   have vd:(a.var.toList != [])=false:=by simp [HV.out]
   go_enter Tryz.func177,Tryz.ntmps177
   go_upto_region 1 with fail
   obtain ⟨w1,hw1⟩ : ∃w1,w1=(w.alloc (.cells #[.string a.var,.int .i64 a.sym.kind,.string a.sym.text,.int .i64 a.sym.n] 94)):=⟨_,rfl⟩
   rw [← hw1]
   have HB:=Lib.hid (show Below w.heap.size w w1 by rw [hw1];exact (by repeat (first | exact Below.refl _ _ | refine Below.drew ?_ | refine Below.al ?_ _ | refine Below.sc ?_ _)))
   have Ka:=Lib.hid (show Blk w1 (w.heap.size) 94 #[.string a.var,.int .i64 a.sym.kind,.string a.sym.text,.int .i64 a.sym.n] by rw [hw1];exact (Blk.new w 94 #[.string a.var,.int .i64 a.sym.kind,.string a.sym.text,.int .i64 a.sym.n]))
   clear hw1
   obtain ⟨a0,a1,a2,a3⟩:=Ka.out.c4
   have az:=Ka.out.lt
   go_wp2_with fail
   with_reducible refine (rconst_is a.sym _).mono ?_
   rintro e w2 ⟨rfl,hb⟩
   have hbs:=Below.trans (show Below w1.heap.size w1 _ from (by (repeat (first | exact Below.refl _ _ | refine Below.drew ?_ | refine Below.al ?_ _ | refine Below.sc ?_ _)))) (hb.mono (by simp<;>omega))
   have Ka:=Lib.hid (Ka.out.new_ hbs)
   have HB:=Lib.hid (HB.out.trans (hbs.mono HB.out.size))
   have hsz2:=hbs.size
   clear a0 a1 a2 a3 az hb hbs
   obtain ⟨a0,a1,a2,a3⟩:=Ka.out.c4
   have az:=Ka.out.lt
   have HR:=Lib.hid (show atomB a=constB a.sym by simp [atomB,HV.out])
   go_wp2_with fail
   go_ret
   exact ⟨by rw [HR.out]<;>rfl,by (repeat (first | exact Below.refl _ _ | exact HB.out | refine Below.drew ?_ | refine Below.al ?_ _ | refine Below.sc ?_ _))⟩
 · skip
   have va:(a.var.toList == [])=false:=by simp [hv]
   have vb:a.var.toList.isEmpty=false:=by simp [hv]
   have vc:decide (a.var.toList = [])=false:=by simp [hv]
   have HV:=Lib.hid hv
   clear hv
   have vd:(a.var.toList != [])=true:=by simp [HV.out]
   go_enter Tryz.func177,Tryz.ntmps177
   go_upto_region 1 with fail
   obtain ⟨w1,hw1⟩ : ∃w1,w1=(w.alloc (.cells #[.string a.var,.int .i64 a.sym.kind,.string a.sym.text,.int .i64 a.sym.n] 94)):=⟨_,rfl⟩
   rw [← hw1]
   have HB:=Lib.hid (show Below w.heap.size w w1 by rw [hw1];exact (by repeat (first | exact Below.refl _ _ | refine Below.drew ?_ | refine Below.al ?_ _ | refine Below.sc ?_ _)))
   have Ka:=Lib.hid (show Blk w1 (w.heap.size) 94 #[.string a.var,.int .i64 a.sym.kind,.string a.sym.text,.int .i64 a.sym.n] by rw [hw1];exact (Blk.new w 94 #[.string a.var,.int .i64 a.sym.kind,.string a.sym.text,.int .i64 a.sym.n]))
   clear hw1
   obtain ⟨a0,a1,a2,a3⟩:=Ka.out.c4
   have az:=Ka.out.lt
   cases hw:isWord a.var
   · skip
     have hc:=fun W=>rword_is a.var W
     simp only [hw] at hc
     have HCw:=Lib.hid hc
     clear hc
     go_wp2_with fail
     with_reducible refine (HCw.out _).mono ?_
     rintro e w0 ⟨rfl,rfl⟩
     have HR:=Lib.hid (show atomB a=false by simp [atomB,HV.out,hw])
     go_wp2_with fail
     go_ret
     exact ⟨by rw [HR.out]<;>rfl,by (repeat (first | exact Below.refl _ _ | exact HB.out | refine Below.drew ?_ | refine Below.al ?_ _ | refine Below.sc ?_ _))⟩
   · skip
     have hc:=fun W=>rword_is a.var W
     simp only [hw] at hc
     have HCw:=Lib.hid hc
     clear hc
     go_wp2_with fail
     with_reducible refine (HCw.out _).mono ?_
     rintro e w0 ⟨rfl,rfl⟩
     have HR:=Lib.hid (show atomB a=noneB a.sym by simp [atomB,HV.out,hw])
     go_wp2_with fail
     go_ret
     exact ⟨by rw [HR.out]<;>rfl,by (repeat (first | exact Below.refl _ _ | exact HB.out | refine Below.drew ?_ | refine Below.al ?_ _ | refine Below.sc ?_ _))⟩
theorem zsym_iff {s:Sym} (h0:s.kind=0) (h1:s.text.toList = []) (h2:s.n=0):s=zS:=Sym.ext' h0 (toList_inj (h1.trans (show ([]:List UInt8)=zS.text.toList by kernel_rfl))) h2
theorem nzsym {a:AtomT} (h : ¬(a.sym.kind=0∧a.sym.text.toList = []∧a.sym.n=0)):emptyB a=false:=by
 have:a.sym≠zS:=fun e=>h (by rw [e];exact ⟨rfl,by kernel_rfl,rfl⟩)
 simp [emptyB,noneB,this]
theorem eqz_atom (a:AtomT) (W:World):(binOp .eql 94 (.agg #[.string a.var,.int .i64 a.sym.kind,.string a.sym.text,.int .i64 a.sym.n]) (.agg #[.string ⟨#[]⟩,.int .i64 0,.string ⟨#[]⟩,.int .i64 0])).run Tryz.prog W = .ok (.bool (emptyB a)) W:=by
 rw [run_eql_struct]
 go_simp
 by_cases e0:a.var.toList = []
 case neg=>rw [show emptyB a=false by simp [emptyB,e0]];simp [e0]
 by_cases e1:a.sym.kind=0
 case neg=>rw [nzsym (fun h=>e1 h.1)];simp [e0,e1]
 by_cases e2:a.sym.text.toList = []
 case neg=>rw [nzsym (fun h=>e2 h.2.1)];simp [e0,e1,e2]
 by_cases e3:a.sym.n=0
 case neg=>rw [nzsym (fun h=>e3 h.2.2)];simp [e0,e1,e2,e3]
 rw [show emptyB a=true by simp [emptyB,noneB,e0,zsym_iff e1 e2 e3]]
 simp [e0,e1,e2,e3]
theorem neqz_atom (a:AtomT) (W:World):(binOp .neq 94 (.agg #[.string a.var,.int .i64 a.sym.kind,.string a.sym.text,.int .i64 a.sym.n]) (.agg #[.string ⟨#[]⟩,.int .i64 0,.string ⟨#[]⟩,.int .i64 0])).run Tryz.prog W = .ok (.bool (!emptyB a)) W:=by
 rw [run_neq_struct]
 go_simp
 by_cases e0:a.var.toList = []
 case neg=>rw [show emptyB a=false by simp [emptyB,e0]];simp [e0]
 by_cases e1:a.sym.kind=0
 case neg=>rw [nzsym (fun h=>e1 h.1)];simp [e0,e1]
 by_cases e2:a.sym.text.toList = []
 case neg=>rw [nzsym (fun h=>e2 h.2.1)];simp [e0,e1,e2]
 by_cases e3:a.sym.n=0
 case neg=>rw [nzsym (fun h=>e3 h.2.2)];simp [e0,e1,e2,e3]
 rw [show emptyB a=true by simp [emptyB,noneB,e0,zsym_iff e1 e2 e3]]
 simp [e0,e1,e2,e3]
theorem atomB_str {a:AtomT} (h:atomB a=true) (hk:a.sym.kind=3):a.var.toList = []:=by
 by_cases hv:a.var.toList = []
 · exact hv
 · have:a.sym=zS:=by simpa [atomB,hv,noneB] using (show isWord a.var=true∧noneB a.sym=true by simpa [atomB,hv] using h).2
   rw [this] at hk;exact absurd hk (by decide)
set_option maxRecDepth 100000 in
set_option maxHeartbeats 8000000 in
theorem ract_is (a:ActT) (w:World):Calls Tryz.prog 106 #[.agg #[.string a.id,.string a.attr.var,.int .i64 a.attr.sym.kind,.string a.attr.sym.text,.int .i64 a.attr.sym.n,.int .i64 a.value.op,.string a.value.a.var,.int .i64 a.value.a.sym.kind,.string a.value.a.sym.text,.int .i64 a.value.a.sym.n,.string a.value.b.var,.int .i64 a.value.b.sym.kind,.string a.value.b.sym.text,.int .i64 a.value.b.sym.n,.int .i64 a.pref,.string a.other.var,.int .i64 a.other.sym.kind,.string a.other.sym.text,.int .i64 a.other.sym.n]] w fun e w'=>e = .returned (.bool (actB a))∧Below w.heap.size w w':=by
 have hq:=eqz_atom a.other
 have hq2:=neqz_atom a.value.b
 go_enter Tryz.func106,Tryz.ntmps106
 go_upto_region 1 with fail
 obtain ⟨w1,hw1⟩ : ∃w1,w1=(w.alloc (.cells #[.string a.id,.string a.attr.var,.int .i64 a.attr.sym.kind,.string a.attr.sym.text,.int .i64 a.attr.sym.n,.int .i64 a.value.op,.string a.value.a.var,.int .i64 a.value.a.sym.kind,.string a.value.a.sym.text,.int .i64 a.value.a.sym.n,.string a.value.b.var,.int .i64 a.value.b.sym.kind,.string a.value.b.sym.text,.int .i64 a.value.b.sym.n,.int .i64 a.pref,.string a.other.var,.int .i64 a.other.sym.kind,.string a.other.sym.text,.int .i64 a.other.sym.n] 99)):=⟨_,rfl⟩
 rw [← hw1]
 have HB:=Lib.hid (show Below w.heap.size w w1 by rw [hw1];exact (by repeat (first | exact Below.refl _ _ | refine Below.drew ?_ | refine Below.al ?_ _ | refine Below.sc ?_ _)))
 have Ka:=Lib.hid (show Blk w1 (w.heap.size) 99 #[.string a.id,.string a.attr.var,.int .i64 a.attr.sym.kind,.string a.attr.sym.text,.int .i64 a.attr.sym.n,.int .i64 a.value.op,.string a.value.a.var,.int .i64 a.value.a.sym.kind,.string a.value.a.sym.text,.int .i64 a.value.a.sym.n,.string a.value.b.var,.int .i64 a.value.b.sym.kind,.string a.value.b.sym.text,.int .i64 a.value.b.sym.n,.int .i64 a.pref,.string a.other.var,.int .i64 a.other.sym.kind,.string a.other.sym.text,.int .i64 a.other.sym.n] by rw [hw1];exact (Blk.new w 99 #[.string a.id,.string a.attr.var,.int .i64 a.attr.sym.kind,.string a.attr.sym.text,.int .i64 a.attr.sym.n,.int .i64 a.value.op,.string a.value.a.var,.int .i64 a.value.a.sym.kind,.string a.value.a.sym.text,.int .i64 a.value.a.sym.n,.string a.value.b.var,.int .i64 a.value.b.sym.kind,.string a.value.b.sym.text,.int .i64 a.value.b.sym.n,.int .i64 a.pref,.string a.other.var,.int .i64 a.other.sym.kind,.string a.other.sym.text,.int .i64 a.other.sym.n]))
 clear hw1
 obtain ⟨a0,a1,a2,a3,a4,a5,a6,a7,a8,a9,a10,a11,a12,a13,a14,a15,a16,a17,a18⟩:=Ka.out.c19
 have az:=Ka.out.lt
 cases hw:isWord a.id
 · skip
   have hc:=fun W=>rword_is a.id W
   simp only [hw] at hc
   have HCw:=Lib.hid hc
   clear hc
   go_wp2_with fail
   with_reducible refine (HCw.out _).mono ?_
   rintro e w0 ⟨rfl,rfl⟩
   have HR:=Lib.hid (show actB a=false by simp [actB,termB,otherB,hw])
   go_wp2_with fail
   go_ret
   exact ⟨by rw [HR.out]<;>rfl,by (repeat (first | exact Below.refl _ _ | exact HB.out | refine Below.drew ?_ | refine Below.al ?_ _ | refine Below.sc ?_ _))⟩
 · skip
   have hc:=fun W=>rword_is a.id W
   simp only [hw] at hc
   have HCw:=Lib.hid hc
   clear hc
   go_wp2_with fail
   with_reducible refine (HCw.out _).mono ?_
   rintro e w0 ⟨rfl,rfl⟩
   cases hat:atomB a.attr
   · skip
     have hc:=fun W=>ratom_is a.attr W
     simp only [hat] at hc
     have HCat:=Lib.hid hc
     clear hc
     go_wp2_with fail
     with_reducible refine (HCat.out _).mono ?_
     rintro e w2 ⟨rfl,hb⟩
     have hbs:=Below.trans (show Below w1.heap.size w1 _ from (by (repeat (first | exact Below.refl _ _ | refine Below.drew ?_ | refine Below.al ?_ _ | refine Below.sc ?_ _)))) (hb.mono (by simp<;>omega))
     have Ka:=Lib.hid (Ka.out.new_ hbs)
     have HB:=Lib.hid (HB.out.trans (hbs.mono HB.out.size))
     have hsz2:=hbs.size
     clear a0 a1 a2 a3 a4 a5 a6 a7 a8 a9 a10 a11 a12 a13 a14 a15 a16 a17 a18 az hb hbs
     obtain ⟨a0,a1,a2,a3,a4,a5,a6,a7,a8,a9,a10,a11,a12,a13,a14,a15,a16,a17,a18⟩:=Ka.out.c19
     have az:=Ka.out.lt
     have HR:=Lib.hid (show actB a=false by simp [actB,termB,otherB,hw,hat])
     go_wp2_with fail
     go_ret
     exact ⟨by rw [HR.out]<;>rfl,by (repeat (first | exact Below.refl _ _ | exact HB.out | refine Below.drew ?_ | refine Below.al ?_ _ | refine Below.sc ?_ _))⟩
   · skip
     have hc:=fun W=>ratom_is a.attr W
     simp only [hat] at hc
     have HCat:=Lib.hid hc
     clear hc
     go_wp2_with fail
     with_reducible refine (HCat.out _).mono ?_
     rintro e w2 ⟨rfl,hb⟩
     have hbs:=Below.trans (show Below w1.heap.size w1 _ from (by (repeat (first | exact Below.refl _ _ | refine Below.drew ?_ | refine Below.al ?_ _ | refine Below.sc ?_ _)))) (hb.mono (by simp<;>omega))
     have Ka:=Lib.hid (Ka.out.new_ hbs)
     have HB:=Lib.hid (HB.out.trans (hbs.mono HB.out.size))
     have hsz2:=hbs.size
     clear a0 a1 a2 a3 a4 a5 a6 a7 a8 a9 a10 a11 a12 a13 a14 a15 a16 a17 a18 az hb hbs
     obtain ⟨a0,a1,a2,a3,a4,a5,a6,a7,a8,a9,a10,a11,a12,a13,a14,a15,a16,a17,a18⟩:=Ka.out.c19
     have az:=Ka.out.lt
     cases hva:atomB a.value.a
     · skip
       have hc:=fun W=>ratom_is a.value.a W
       simp only [hva] at hc
       have HCva:=Lib.hid hc
       clear hc
       go_wp2_with fail
       with_reducible refine (HCva.out _).mono ?_
       rintro e w3 ⟨rfl,hb⟩
       have hbs:=Below.trans (show Below w2.heap.size w2 _ from (by (repeat (first | exact Below.refl _ _ | refine Below.drew ?_ | refine Below.al ?_ _ | refine Below.sc ?_ _)))) (hb.mono (by simp<;>omega))
       have Ka:=Lib.hid (Ka.out.new_ hbs)
       have HB:=Lib.hid (HB.out.trans (hbs.mono HB.out.size))
       have hsz3:=hbs.size
       clear a0 a1 a2 a3 a4 a5 a6 a7 a8 a9 a10 a11 a12 a13 a14 a15 a16 a17 a18 az hb hbs
       obtain ⟨a0,a1,a2,a3,a4,a5,a6,a7,a8,a9,a10,a11,a12,a13,a14,a15,a16,a17,a18⟩:=Ka.out.c19
       have az:=Ka.out.lt
       have HR:=Lib.hid (show actB a=false by simp [actB,termB,otherB,hw,hat,hva])
       go_wp2_with fail
       go_ret
       exact ⟨by rw [HR.out]<;>rfl,by (repeat (first | exact Below.refl _ _ | exact HB.out | refine Below.drew ?_ | refine Below.al ?_ _ | refine Below.sc ?_ _))⟩
     · skip
       have hc:=fun W=>ratom_is a.value.a W
       simp only [hva] at hc
       have HCva:=Lib.hid hc
       clear hc
       go_wp2_with fail
       with_reducible refine (HCva.out _).mono ?_
       rintro e w3 ⟨rfl,hb⟩
       have hbs:=Below.trans (show Below w2.heap.size w2 _ from (by (repeat (first | exact Below.refl _ _ | refine Below.drew ?_ | refine Below.al ?_ _ | refine Below.sc ?_ _)))) (hb.mono (by simp<;>omega))
       have Ka:=Lib.hid (Ka.out.new_ hbs)
       have HB:=Lib.hid (HB.out.trans (hbs.mono HB.out.size))
       have hsz3:=hbs.size
       clear a0 a1 a2 a3 a4 a5 a6 a7 a8 a9 a10 a11 a12 a13 a14 a15 a16 a17 a18 az hb hbs
       obtain ⟨a0,a1,a2,a3,a4,a5,a6,a7,a8,a9,a10,a11,a12,a13,a14,a15,a16,a17,a18⟩:=Ka.out.c19
       have az:=Ka.out.lt
       by_cases hol:a.value.op<0
       · skip
         have o0:decide (a.value.op<0)=true:=decide_eq_true hol
         have Hol:=Lib.hid hol
         clear hol
         have HR:=Lib.hid (show actB a=false by simp [actB,termB,otherB,hw,hat,hva,Hol.out])
         go_wp2_with fail
         go_ret
         exact ⟨by rw [HR.out]<;>rfl,by (repeat (first | exact Below.refl _ _ | exact HB.out | refine Below.drew ?_ | refine Below.al ?_ _ | refine Below.sc ?_ _))⟩
       · skip
         have o0:decide (a.value.op<0)=false:=decide_eq_false hol
         have Hol:=Lib.hid hol
         clear hol
         by_cases hoh:3<a.value.op
         · skip
           have o1:decide (3<a.value.op)=true:=decide_eq_true hoh
           have Hoh:=Lib.hid hoh
           clear hoh
           have HR:=Lib.hid (show actB a=false by simp [actB,termB,otherB,hw,hat,hva,Hol.out,Hoh.out])
           go_wp2_with fail
           go_ret
           exact ⟨by rw [HR.out]<;>rfl,by (repeat (first | exact Below.refl _ _ | exact HB.out | refine Below.drew ?_ | refine Below.al ?_ _ | refine Below.sc ?_ _))⟩
         · skip
           have o1:decide (3<a.value.op)=false:=decide_eq_false hoh
           have Hoh:=Lib.hid hoh
           clear hoh
           by_cases hpl:a.pref<1
           · skip
             have p0:decide (a.pref<1)=true:=decide_eq_true hpl
             have Hpl:=Lib.hid hpl
             clear hpl
             have HR:=Lib.hid (show actB a=false by simp [actB,termB,otherB,hw,hat,hva,Hol.out,Hoh.out,Hpl.out])
             go_wp2_with fail
             go_ret
             exact ⟨by rw [HR.out]<;>rfl,by (repeat (first | exact Below.refl _ _ | exact HB.out | refine Below.drew ?_ | refine Below.al ?_ _ | refine Below.sc ?_ _))⟩
           · skip
             have p0:decide (a.pref<1)=false:=decide_eq_false hpl
             have Hpl:=Lib.hid hpl
             clear hpl
             by_cases hph:10<a.pref
             · skip
               have p1:decide (10<a.pref)=true:=decide_eq_true hph
               have Hph:=Lib.hid hph
               clear hph
               have HR:=Lib.hid (show actB a=false by simp [actB,termB,otherB,hw,hat,hva,Hol.out,Hoh.out,Hpl.out,Hph.out])
               go_wp2_with fail
               go_ret
               exact ⟨by rw [HR.out]<;>rfl,by (repeat (first | exact Below.refl _ _ | exact HB.out | refine Below.drew ?_ | refine Below.al ?_ _ | refine Below.sc ?_ _))⟩
             · skip
               have p1:decide (10<a.pref)=false:=decide_eq_false hph
               have Hph:=Lib.hid hph
               clear hph
               by_cases hop:a.value.op=0
               · skip
                 have oa:(a.value.op == 0)=true:=by simp [hop]
                 have ob:decide (a.value.op=0)=true:=by simp [hop]
                 have HOP:=Lib.hid hop
                 clear hop
                 cases he:emptyB a.value.b
                 · skip
                   simp only [he] at hq2
                   have HE:=Lib.hid he
                   clear he
                   have HR:=Lib.hid (show actB a=false by simp [actB,termB,otherB,hw,hat,hva,Hol.out,Hoh.out,Hpl.out,Hph.out,HOP.out,HE.out])
                   go_wp2_with fail
                   go_ret
                   exact ⟨by rw [HR.out]<;>rfl,by (repeat (first | exact Below.refl _ _ | exact HB.out | refine Below.drew ?_ | refine Below.al ?_ _ | refine Below.sc ?_ _))⟩
                 · skip
                   simp only [he] at hq2
                   have HE:=Lib.hid he
                   clear he
                   by_cases hb:8≤a.pref
                   · skip
                     have b0:decide (8≤a.pref)=true:=decide_eq_true hb
                     have hz:a.pref=8∨a.pref=9∨a.pref=10:=by have:=Hpl.out;have:=Hph.out;omega
                     have HO:=Lib.hid (show otherB a.pref=true by rcases hz with h | h | h<;>simp [otherB,h])
                     clear hb hz
                     go_wp2_with fail
                     with_reducible refine (ratom_is a.other _).mono ?_
                     rintro e w4 ⟨rfl,hb⟩
                     have hbs:=Below.trans (show Below w3.heap.size w3 _ from (by (repeat (first | exact Below.refl _ _ | refine Below.drew ?_ | refine Below.al ?_ _ | refine Below.sc ?_ _)))) (hb.mono (by simp<;>omega))
                     have Ka:=Lib.hid (Ka.out.new_ hbs)
                     have HB:=Lib.hid (HB.out.trans (hbs.mono HB.out.size))
                     have hsz4:=hbs.size
                     clear a0 a1 a2 a3 a4 a5 a6 a7 a8 a9 a10 a11 a12 a13 a14 a15 a16 a17 a18 az hb hbs
                     obtain ⟨a0,a1,a2,a3,a4,a5,a6,a7,a8,a9,a10,a11,a12,a13,a14,a15,a16,a17,a18⟩:=Ka.out.c19
                     have az:=Ka.out.lt
                     have HR:=Lib.hid (show actB a=atomB a.other by simp [actB,termB,hw,hat,hva,Hol.out,Hoh.out,Hpl.out,Hph.out,HOP.out,HE.out,HO.out])
                     go_wp2_with fail
                     go_ret
                     exact ⟨by rw [HR.out]<;>rfl,by (repeat (first | exact Below.refl _ _ | exact HB.out | refine Below.drew ?_ | refine Below.al ?_ _ | refine Below.sc ?_ _))⟩
                   · skip
                     have b0:decide (8≤a.pref)=false:=decide_eq_false hb
                     have HO:=Lib.hid (show otherB a.pref=false by simp [otherB];omega)
                     clear hb
                     have HR:=Lib.hid (show actB a=emptyB a.other by simp [actB,termB,hw,hat,hva,Hol.out,Hoh.out,Hpl.out,Hph.out,HOP.out,HE.out,HO.out])
                     go_wp2_with fail
                     go_ret
                     exact ⟨by rw [HR.out]<;>rfl,by (repeat (first | exact Below.refl _ _ | exact HB.out | refine Below.drew ?_ | refine Below.al ?_ _ | refine Below.sc ?_ _))⟩
               · skip
                 have oa:(a.value.op == 0)=false:=by simp [hop]
                 have ob:decide (a.value.op=0)=false:=by simp [hop]
                 have HOP:=Lib.hid hop
                 clear hop
                 cases hvb:atomB a.value.b
                 · skip
                   have hc:=fun W=>ratom_is a.value.b W
                   simp only [hvb] at hc
                   have HCvb:=Lib.hid hc
                   clear hc
                   go_wp2_with fail
                   with_reducible refine (HCvb.out _).mono ?_
                   rintro e w4 ⟨rfl,hb⟩
                   have hbs:=Below.trans (show Below w3.heap.size w3 _ from (by (repeat (first | exact Below.refl _ _ | refine Below.drew ?_ | refine Below.al ?_ _ | refine Below.sc ?_ _)))) (hb.mono (by simp<;>omega))
                   have Ka:=Lib.hid (Ka.out.new_ hbs)
                   have HB:=Lib.hid (HB.out.trans (hbs.mono HB.out.size))
                   have hsz4:=hbs.size
                   clear a0 a1 a2 a3 a4 a5 a6 a7 a8 a9 a10 a11 a12 a13 a14 a15 a16 a17 a18 az hb hbs
                   obtain ⟨a0,a1,a2,a3,a4,a5,a6,a7,a8,a9,a10,a11,a12,a13,a14,a15,a16,a17,a18⟩:=Ka.out.c19
                   have az:=Ka.out.lt
                   have HR:=Lib.hid (show actB a=false by simp [actB,termB,otherB,hw,hat,hva,Hol.out,Hoh.out,Hpl.out,Hph.out,HOP.out,wordAB,hvb])
                   go_wp2_with fail
                   go_ret
                   exact ⟨by rw [HR.out]<;>rfl,by (repeat (first | exact Below.refl _ _ | exact HB.out | refine Below.drew ?_ | refine Below.al ?_ _ | refine Below.sc ?_ _))⟩
                 · skip
                   have hc:=fun W=>ratom_is a.value.b W
                   simp only [hvb] at hc
                   have HCvb:=Lib.hid hc
                   clear hc
                   go_wp2_with fail
                   with_reducible refine (HCvb.out _).mono ?_
                   rintro e w4 ⟨rfl,hb⟩
                   have hbs:=Below.trans (show Below w3.heap.size w3 _ from (by (repeat (first | exact Below.refl _ _ | refine Below.drew ?_ | refine Below.al ?_ _ | refine Below.sc ?_ _)))) (hb.mono (by simp<;>omega))
                   have Ka:=Lib.hid (Ka.out.new_ hbs)
                   have HB:=Lib.hid (HB.out.trans (hbs.mono HB.out.size))
                   have hsz4:=hbs.size
                   clear a0 a1 a2 a3 a4 a5 a6 a7 a8 a9 a10 a11 a12 a13 a14 a15 a16 a17 a18 az hb hbs
                   obtain ⟨a0,a1,a2,a3,a4,a5,a6,a7,a8,a9,a10,a11,a12,a13,a14,a15,a16,a17,a18⟩:=Ka.out.c19
                   have az:=Ka.out.lt
                   by_cases ha3:a.value.a.sym.kind=3
                   · skip
                     have ka:(a.value.a.sym.kind == 3)=true:=by simp [ha3]
                     have kb:decide (a.value.a.sym.kind=3)=true:=by simp [ha3]
                     have HA3:=Lib.hid (atomB_str hva ha3)
                     have HK3:=Lib.hid ha3
                     clear ha3
                     have HR:=Lib.hid (show actB a=false by simp [actB,termB,otherB,hw,hat,hva,Hol.out,Hoh.out,Hpl.out,Hph.out,HOP.out,wordAB,hvb,HA3.out,HK3.out])
                     go_wp2_with fail
                     go_ret
                     exact ⟨by rw [HR.out]<;>rfl,by (repeat (first | exact Below.refl _ _ | exact HB.out | refine Below.drew ?_ | refine Below.al ?_ _ | refine Below.sc ?_ _))⟩
                   · skip
                     have ka:(a.value.a.sym.kind == 3)=false:=by simp [ha3]
                     have kb:decide (a.value.a.sym.kind=3)=false:=by simp [ha3]
                     have HA3:=Lib.hid ha3
                     clear ha3
                     by_cases hb3:a.value.b.sym.kind=3
                     · skip
                       have ma:(a.value.b.sym.kind == 3)=true:=by simp [hb3]
                       have mb:decide (a.value.b.sym.kind=3)=true:=by simp [hb3]
                       have HB3:=Lib.hid (atomB_str hvb hb3)
                       have HM3:=Lib.hid hb3
                       clear hb3
                       have HR:=Lib.hid (show actB a=false by simp [actB,termB,otherB,hw,hat,hva,Hol.out,Hoh.out,Hpl.out,Hph.out,HOP.out,wordAB,hvb,HA3.out,HB3.out,HM3.out])
                       go_wp2_with fail
                       go_ret
                       exact ⟨by rw [HR.out]<;>rfl,by (repeat (first | exact Below.refl _ _ | exact HB.out | refine Below.drew ?_ | refine Below.al ?_ _ | refine Below.sc ?_ _))⟩
                     · skip
                       have ma:(a.value.b.sym.kind == 3)=false:=by simp [hb3]
                       have mb:decide (a.value.b.sym.kind=3)=false:=by simp [hb3]
                       have HB3:=Lib.hid hb3
                       clear hb3
                       by_cases hb:8≤a.pref
                       · skip
                         have b0:decide (8≤a.pref)=true:=decide_eq_true hb
                         have hz:a.pref=8∨a.pref=9∨a.pref=10:=by have:=Hpl.out;have:=Hph.out;omega
                         have HO:=Lib.hid (show otherB a.pref=true by rcases hz with h | h | h<;>simp [otherB,h])
                         clear hb hz
                         go_wp2_with fail
                         with_reducible refine (ratom_is a.other _).mono ?_
                         rintro e w5 ⟨rfl,hb⟩
                         have hbs:=Below.trans (show Below w4.heap.size w4 _ from (by (repeat (first | exact Below.refl _ _ | refine Below.drew ?_ | refine Below.al ?_ _ | refine Below.sc ?_ _)))) (hb.mono (by simp<;>omega))
                         have Ka:=Lib.hid (Ka.out.new_ hbs)
                         have HB:=Lib.hid (HB.out.trans (hbs.mono HB.out.size))
                         have hsz5:=hbs.size
                         clear a0 a1 a2 a3 a4 a5 a6 a7 a8 a9 a10 a11 a12 a13 a14 a15 a16 a17 a18 az hb hbs
                         obtain ⟨a0,a1,a2,a3,a4,a5,a6,a7,a8,a9,a10,a11,a12,a13,a14,a15,a16,a17,a18⟩:=Ka.out.c19
                         have az:=Ka.out.lt
                         have HR:=Lib.hid (show actB a=atomB a.other by simp [actB,termB,hw,hat,hva,Hol.out,Hoh.out,Hpl.out,Hph.out,HOP.out,wordAB,hvb,HA3.out,HB3.out,HO.out])
                         go_wp2_with fail
                         go_ret
                         exact ⟨by rw [HR.out]<;>rfl,by (repeat (first | exact Below.refl _ _ | exact HB.out | refine Below.drew ?_ | refine Below.al ?_ _ | refine Below.sc ?_ _))⟩
                       · skip
                         have b0:decide (8≤a.pref)=false:=decide_eq_false hb
                         have HO:=Lib.hid (show otherB a.pref=false by simp [otherB];omega)
                         clear hb
                         have HR:=Lib.hid (show actB a=emptyB a.other by simp [actB,termB,hw,hat,hva,Hol.out,Hoh.out,Hpl.out,Hph.out,HOP.out,wordAB,hvb,HA3.out,HB3.out,HO.out])
                         go_wp2_with fail
                         go_ret
                         exact ⟨by rw [HR.out]<;>rfl,by (repeat (first | exact Below.refl _ _ | exact HB.out | refine Below.drew ?_ | refine Below.al ?_ _ | refine Below.sc ?_ _))⟩
end Go.Proofs.YtffemfglngikbaaGreat
namespace Go.Proofs.YtffemfglngikbaaGreat
open Go.RowKit Go.Shelf
attribute [local go_sem] Oper.semAt_some
set_option linter.unusedSimpArgs false
set_option maxRecDepth 100000 in
set_option maxHeartbeats 8000000 in
theorem rtest_is (t:TestT) (A:Option Addr) (c:Nat) (w:World) (hrd:RowRd w 3 Sym.cells A c t.list):Calls Tryz.prog 256 #[.agg #[.int .i64 t.rel,.string t.var,.int .i64 t.sym.kind,.string t.sym.text,.int .i64 t.sym.n,.slice A t.list.length c]] w fun e w'=>e = .returned (.bool (testB t))∧Below w.heap.size w w':=by
 have HRD:=Lib.hid hrd
 have hlc:=hrd.cap
 clear hrd
 have hq : ∀W:World,(binOp .neq 38 (.agg #[.int .i64 t.sym.kind,.string t.sym.text,.int .i64 t.sym.n]) (.agg #[.int .i64 0,.string ⟨#[]⟩,.int .i64 0])).run Tryz.prog W = .ok (.bool (!noneB t.sym)) W:=fun W=>neq_sym t.sym zS W
 go_enter Tryz.func256,Tryz.ntmps256
 go_upto_region 1 with fail
 obtain ⟨w1,hw1⟩ : ∃w1,w1=(w.alloc (.cells #[.int .i64 t.rel,.string t.var,.int .i64 t.sym.kind,.string t.sym.text,.int .i64 t.sym.n,.slice A t.list.length c] 141)):=⟨_,rfl⟩
 rw [← hw1]
 have HB:=Lib.hid (show Below w.heap.size w w1 by rw [hw1];exact (by repeat (first | exact Below.refl _ _ | refine Below.drew ?_ | refine Below.al ?_ _ | refine Below.sc ?_ _)))
 have Kt:=Lib.hid (show Blk w1 (w.heap.size) 141 #[.int .i64 t.rel,.string t.var,.int .i64 t.sym.kind,.string t.sym.text,.int .i64 t.sym.n,.slice A t.list.length c] by rw [hw1];exact (Blk.new w 141 #[.int .i64 t.rel,.string t.var,.int .i64 t.sym.kind,.string t.sym.text,.int .i64 t.sym.n,.slice A t.list.length c]))
 clear hw1
 obtain ⟨t0,t1,t2,t3,t4,t5⟩:=Kt.out.c6
 have tz:=Kt.out.lt
 by_cases h8:t.rel=8
 · skip
   have ra:(t.rel == 8)=true:=by simp [h8]
   have rb:decide (t.rel=8)=true:=by simp [h8]
   have H8:=Lib.hid h8
   clear h8
   by_cases hv:t.var.toList = []
   · skip
     have vva:(t.var.toList == [])=true:=by simp [hv]
     have vvb:t.var.toList.isEmpty=true:=by simp [hv]
     have vvc:decide (t.var.toList = [])=true:=by simp [hv]
     have vvd:(t.var.toList != [])=false:=by simp [hv]
     have Hv:=Lib.hid hv
     clear hv
     cases hn:noneB t.sym
     · skip
       simp only [hn] at hq
       have HR:=Lib.hid (show testB t=false by simp [testB,H8.out,Hv.out,hn])
       go_wp2_with fail
       go_ret
       exact ⟨by rw [HR.out]<;>rfl,by (repeat (first | exact Below.refl _ _ | exact HB.out | refine Below.drew ?_ | refine Below.al ?_ _ | refine Below.sc ?_ _))⟩
     · skip
       simp only [hn] at hq
       have HN:=Lib.hid hn
       clear hn
       by_cases hl:t.list.length<1
       · skip
         have l0:decide ((t.list.length:Int)<1)=true:=decide_eq_true (by omega)
         have Hl:=Lib.hid hl
         clear hl
         have hl1:t.list.length=0:=by have:=Hl.out;omega
         have HL1:=Lib.hid hl1
         clear hl1
         have HR:=Lib.hid (show testB t=false by simp [testB,H8.out,Hv.out,HN.out,Hl.out,HL1.out])
         go_wp2_with fail
         go_ret
         exact ⟨by rw [HR.out]<;>rfl,by (repeat (first | exact Below.refl _ _ | exact HB.out | refine Below.drew ?_ | refine Below.al ?_ _ | refine Below.sc ?_ _))⟩
       · skip
         have l0:decide ((t.list.length:Int)<1)=false:=decide_eq_false (by omega)
         have Hl:=Lib.hid hl
         clear hl
         by_cases hm:8<t.list.length
         · skip
           have m0:decide ((8:Int)<(t.list.length:Int))=true:=decide_eq_true (by omega)
           have Hm:=Lib.hid hm
           clear hm
           have HL1:=Lib.hid (show ¬t.list.length≤8 by have:=Hm.out;omega)
           have HR:=Lib.hid (show testB t=false by simp [testB,H8.out,Hv.out,HN.out,Hl.out,Hm.out,HL1.out])
           go_wp2_with fail
           go_ret
           exact ⟨by rw [HR.out]<;>rfl,by (repeat (first | exact Below.refl _ _ | exact HB.out | refine Below.drew ?_ | refine Below.al ?_ _ | refine Below.sc ?_ _))⟩
         · skip
           have m0:decide ((8:Int)<(t.list.length:Int))=false:=decide_eq_false (by omega)
           have Hm:=Lib.hid hm
           clear hm
           have HR:=Lib.hid (show testB t=t.list.all constB by
            have:=Hl.out
            have:=Hm.out
            simp [testB,H8.out,Hv.out,HN.out,show 1≤t.list.length by omega,show t.list.length≤8 by omega])
           clear t0 t1 t2 t3 t4 t5 tz 
           obtain ⟨t0,t1,t2,t3,t4,t5⟩:=Kt.out.c6
           have tz:=Kt.out.lt
           go_wp2_with fail
           clear t0 t1 t2 t3 t4 t5 tz 
           go_loopw [3] (fun s wr=>∃i:Nat,s = .int .i64 i∧i≤t.list.length∧(∀k,(h:k<t.list.length)→k<i→constB t.list[k]=true)∧Below w.heap.size w wr∧Blk wr (w.heap.size) 141 #[.int .i64 t.rel,.string t.var,.int .i64 t.sym.kind,.string t.sym.text,.int .i64 t.sym.n,.slice A t.list.length c]) (fun s wr=>t.list.length - (intOf s).toNat)
           case atStart=>exact ⟨0,rfl,Nat.zero_le _,fun k _ h=>absurd h (by omega),HB.out,Kt.out⟩
           case round=>
            obtain ⟨i,rfl,hi,hall,hB,hK⟩:=hrel
            have HALL:=Lib.hid hall
            have HB:=Lib.hid hB
            have Kt:=Lib.hid hK
            clear hall hB hK
            obtain ⟨t0,t1,t2,t3,t4,t5⟩:=Kt.out.c6
            have tz:=Kt.out.lt
            by_cases hlt:i<t.list.length
            · skip
              obtain ⟨y,hy⟩ : ∃y,y=t.list[i]:=⟨_,rfl⟩
              obtain ⟨g,off,rfl,hg,q0,q1,q2⟩:=sym_at (HRD.out.new_ HB.out) hlt
              rw [← hy] at q0 q1 q2
              have HY:=Lib.hid hy
              have b1:(0:Int)≤(i:Int):=by omega
              have b2:(i:Int)<(t.list.length:Int):=by omega
              clear hy
              cases hcb:constB y
              · skip
                have hc:=fun W=>rconst_is y W
                simp only [hcb] at hc
                have HCcb:=Lib.hid hc
                clear hc
                go_wp2_with fail
                with_reducible refine (HCcb.out _).mono ?_
                rintro e w2 ⟨rfl,hb⟩
                have hbs:=Below.trans (show Below wr.heap.size wr _ from (by (repeat (first | exact Below.refl _ _ | refine Below.drew ?_ | refine Below.al ?_ _ | refine Below.sc ?_ _)))) (hb.mono (by simp<;>omega))
                have Kt:=Lib.hid (Kt.out.new_ hbs)
                have HB:=Lib.hid (HB.out.trans (hbs.mono HB.out.size))
                have hsz2:=hbs.size
                clear t0 t1 t2 t3 t4 t5 tz hb hbs
                obtain ⟨t0,t1,t2,t3,t4,t5⟩:=Kt.out.c6
                have tz:=Kt.out.lt
                have HRf:=Lib.hid (show t.list.all constB=false from List.all_eq_false.2 ⟨y,by rw [HY.out];exact List.getElem_mem hlt,by rw [hcb];simp⟩)
                clear hcb q0 q1 q2
                go_wp2_with fail
                go_ret
                exact ⟨by rw [HR.out,HRf.out]<;>rfl,by (repeat (first | exact Below.refl _ _ | exact HB.out | refine Below.drew ?_ | refine Below.al ?_ _ | refine Below.sc ?_ _))⟩
              · skip
                have hc:=fun W=>rconst_is y W
                simp only [hcb] at hc
                have HCcb:=Lib.hid hc
                clear hc
                go_wp2_with fail
                with_reducible refine (HCcb.out _).mono ?_
                rintro e w2 ⟨rfl,hb⟩
                have hbs:=Below.trans (show Below wr.heap.size wr _ from (by (repeat (first | exact Below.refl _ _ | refine Below.drew ?_ | refine Below.al ?_ _ | refine Below.sc ?_ _)))) (hb.mono (by simp<;>omega))
                have Kt:=Lib.hid (Kt.out.new_ hbs)
                have HB:=Lib.hid (HB.out.trans (hbs.mono HB.out.size))
                have hsz2:=hbs.size
                clear t0 t1 t2 t3 t4 t5 tz hb hbs
                obtain ⟨t0,t1,t2,t3,t4,t5⟩:=Kt.out.c6
                have tz:=Kt.out.lt
                have HCB:=Lib.hid hcb
                clear hcb q0 q1 q2
                go_wp2_with fail
                go_roundw
                case rel=>exact ⟨i+1,by go_num,by omega,fun k hk hki=>by
                 by_cases e:k=i
                 · subst e;rw [← HY.out];exact HCB.out
                 · exact HALL.out k hk (by omega),HB.out,Kt.out⟩
                case measure=>simp [intOf]<;>omega
            · skip
              obtain rfl:i=t.list.length:=by omega
              have HRt:=Lib.hid (show t.list.all constB=true from List.all_eq_true.2 (fun x hx=>by
               obtain ⟨k,hk,rfl⟩:=List.getElem_of_mem hx
               exact HALL.out k hk hk))
              go_wp2_with fail
              go_ret
              exact ⟨by rw [HR.out,HRt.out]<;>rfl,by (repeat (first | exact Below.refl _ _ | exact HB.out | refine Below.drew ?_ | refine Below.al ?_ _ | refine Below.sc ?_ _))⟩
   · skip
     have vva:(t.var.toList == [])=false:=by simp [hv]
     have vvb:t.var.toList.isEmpty=false:=by simp [hv]
     have vvc:decide (t.var.toList = [])=false:=by simp [hv]
     have vvd:(t.var.toList != [])=true:=by simp [hv]
     have Hv:=Lib.hid hv
     clear hv
     have HR:=Lib.hid (show testB t=false by simp [testB,H8.out,Hv.out])
     go_wp2_with fail
     go_ret
     exact ⟨by rw [HR.out]<;>rfl,by (repeat (first | exact Below.refl _ _ | exact HB.out | refine Below.drew ?_ | refine Below.al ?_ _ | refine Below.sc ?_ _))⟩
 · skip
   have ra:(t.rel == 8)=false:=by simp [h8]
   have rb:decide (t.rel=8)=false:=by simp [h8]
   have H8:=Lib.hid h8
   clear h8
   by_cases ha:t.rel<1
   · skip
     have a0:decide (1≤t.rel)=false:=decide_eq_false (by omega)
     have Ha:=Lib.hid ha
     clear ha
     have HR:=Lib.hid (show testB t=false by simp [testB,H8.out,Ha.out])
     go_wp2_with fail
     go_ret
     exact ⟨by rw [HR.out]<;>rfl,by (repeat (first | exact Below.refl _ _ | exact HB.out | refine Below.drew ?_ | refine Below.al ?_ _ | refine Below.sc ?_ _))⟩
   · skip
     have a0:decide (1≤t.rel)=true:=decide_eq_true (by omega)
     have Ha:=Lib.hid ha
     clear ha
     by_cases hb:7<t.rel
     · skip
       have b0:decide (t.rel≤7)=false:=decide_eq_false (by omega)
       have Hb:=Lib.hid hb
       clear hb
       have HR:=Lib.hid (show testB t=false by simp [testB,H8.out,Ha.out,Hb.out])
       go_wp2_with fail
       go_ret
       exact ⟨by rw [HR.out]<;>rfl,by (repeat (first | exact Below.refl _ _ | exact HB.out | refine Below.drew ?_ | refine Below.al ?_ _ | refine Below.sc ?_ _))⟩
     · skip
       have b0:decide (t.rel≤7)=true:=decide_eq_true (by omega)
       have Hb:=Lib.hid hb
       clear hb
       by_cases hl:t.list.length=0
       · skip
         have lz:((t.list.length:Int) == 0)=true:=by rw [beq_iff_eq];omega
         have ly:decide ((t.list.length:Int)=0)=true:=decide_eq_true (by omega)
         have Hl:=Lib.hid hl
         clear hl
         have HS:=Lib.hid (show testB t=atomB ⟨t.var,t.sym⟩ by simp [testB,atomB,H8.out,Ha.out,Hb.out,Hl.out])
         go_wp2_with fail
         with_reducible refine (ratom_is ⟨t.var,t.sym⟩ _).mono ?_
         rintro e w2 ⟨rfl,hb⟩
         have hbs:=Below.trans (show Below w1.heap.size w1 _ from (by (repeat (first | exact Below.refl _ _ | refine Below.drew ?_ | refine Below.al ?_ _ | refine Below.sc ?_ _)))) (hb.mono (by simp<;>omega))
         have Kt:=Lib.hid (Kt.out.new_ hbs)
         have HB:=Lib.hid (HB.out.trans (hbs.mono HB.out.size))
         have hsz2:=hbs.size
         clear t0 t1 t2 t3 t4 t5 tz hb hbs
         obtain ⟨t0,t1,t2,t3,t4,t5⟩:=Kt.out.c6
         have tz:=Kt.out.lt
         go_wp2_with fail
         go_ret
         exact ⟨by rw [HS.out]<;>rfl,by (repeat (first | exact Below.refl _ _ | exact HB.out | refine Below.drew ?_ | refine Below.al ?_ _ | refine Below.sc ?_ _))⟩
       · skip
         have lz:((t.list.length:Int) == 0)=false:=by rw [beq_eq_false_iff_ne];omega
         have ly:decide ((t.list.length:Int)=0)=false:=decide_eq_false (by omega)
         have Hl:=Lib.hid hl
         clear hl
         have HL1:=Lib.hid (show 0<t.list.length by have:=Hl.out;omega)
         have HR:=Lib.hid (show testB t=false by simp [testB,H8.out,Ha.out,Hb.out,HL1.out])
         go_wp2_with fail
         go_ret
         exact ⟨by rw [HR.out]<;>rfl,by (repeat (first | exact Below.refl _ _ | exact HB.out | refine Below.drew ?_ | refine Below.al ?_ _ | refine Below.sc ?_ _))⟩
end Go.Proofs.YtffemfglngikbaaGreat
namespace Go.Proofs.YtffemfglngikbaaGreat
open Go.RowKit Go.Shelf
attribute [local go_sem] Oper.semAt_some
set_option linter.unusedSimpArgs false
set_option maxRecDepth 100000 in
set_option maxHeartbeats 8000000 in
theorem rtests_is {D:Nat→Prop} (A:Option Addr) (c:Nat) (l:List TestT) (w:World) (h:RowR repTestT D w A c l):Calls Tryz.prog 230 #[.slice A l.length c] w fun e w'=>e = .returned (.bool (l.all testB))∧Below w.heap.size w w':=by
 have HR:=Lib.hid h
 have hlc:=h.cap
 clear h
 go_enter Tryz.func230,Tryz.ntmps230
 go_wp2_with fail
 go_loopw [3] (fun s wr=>∃i:Nat,s = .int .i64 i∧i≤l.length∧(∀k,(h:k<l.length)→k<i→testB l[k]=true)∧Below w.heap.size w wr) (fun s wr=>l.length - (intOf s).toNat)
 case atStart=>exact ⟨0,rfl,Nat.zero_le _,fun k _ h=>absurd h (by omega),Below.refl _ _⟩
 case round=>
  obtain ⟨i,rfl,hi,hall,hB⟩:=hrel
  have HALL:=Lib.hid hall
  have HB:=Lib.hid hB
  clear hall hB
  by_cases hlt:i<l.length
  · obtain ⟨y,hy⟩ : ∃y,y=l[i]:=⟨_,rfl⟩
    obtain ⟨g,off,A1,c1,rfl,_,hg,q0,q1,q2,q3,q4,q5,hrow⟩:=at_TestT (HR.out.new_ HB.out) hlt
    rw [← hy] at q0 q1 q2 q3 q4 q5 hrow
    have HROW:=Lib.hid (show RowRd wr 3 Sym.cells A1 c1 y.list from RowR.rd (hs:=Sym.cells_length) hrow)
    have HY:=Lib.hid hy
    have b1:(0:Int)≤(i:Int):=by omega
    have b2:(i:Int)<(l.length:Int):=by omega
    have hzr:=HB.out.size
    clear hy hrow
    go_wp2_with fail
    refine (rtest_is y A1 c1 _ (HROW.out.new_ (by (repeat (first | exact Below.refl _ _ | refine Below.drew ?_ | refine Below.al ?_ _ | refine Below.sc ?_ _))))).mono ?_
    rintro e w9 ⟨rfl,hb9⟩
    have HB9:=Lib.hid (HB.out.trans ((Below.trans (show Below wr.heap.size wr _ from (by (repeat (first | exact Below.refl _ _ | refine Below.drew ?_ | refine Below.al ?_ _ | refine Below.sc ?_ _)))) (hb9.mono (by simp)):Below wr.heap.size wr w9).mono hzr))
    clear hb9 q0 q1 q2 q3 q4 q5
    cases hcb:testB y
    · have HRf:=Lib.hid (show l.all testB=false from List.all_eq_false.2 ⟨y,by rw [HY.out];exact List.getElem_mem hlt,by rw [hcb];simp⟩)
      clear hcb
      go_wp2_with fail
      go_ret
      exact ⟨by rw [HRf.out]<;>rfl,HB9.out⟩
    · have HCB:=Lib.hid hcb
      clear hcb
      go_wp2_with fail
      go_roundw
      case rel=>exact ⟨i+1,by go_num,by omega,fun k hk hki=>by
       by_cases e:k=i
       · subst e;rw [← HY.out];exact HCB.out
       · exact HALL.out k hk (by omega),HB9.out⟩
      case measure=>simp [intOf]<;>omega
  · have hie:i=l.length:=by omega
    subst hie
    have HRt:=Lib.hid (show l.all testB=true from List.all_eq_true.2 (fun x hx=>by
     obtain ⟨k,hk,rfl⟩:=List.getElem_of_mem hx
     exact HALL.out k hk hk))
    go_wp2_with fail
    go_ret
    exact ⟨by rw [HRt.out]<;>rfl,HB.out⟩
set_option maxRecDepth 100000 in
set_option maxHeartbeats 8000000 in
theorem rcond_is {D:Nat→Prop} (x:CondT) (deep:Nat) (A1 A2 A3:Option Addr) (c1 c2 c3:Nat) (w:World) (h1:RowR repTestT D w A1 c1 x.attr) (h2:RowR repTestT D w A2 c2 x.value) (hn3:(x.conds.length:Int)≤9223372036854775807) :
 Calls Tryz.prog 176 #[.agg #[.int .i64 x.kind,.bool x.goal,.string x.id,.slice A1 x.attr.length c1,.slice A2 x.value.length c2,.bool x.acc,.slice A3 x.conds.length c3],.int .i64 deep] w fun e w'=>e = .returned (.int .i64 (condE x deep))∧Below w.heap.size w w':=by
 have H1:=Lib.hid h1
 have H2:=Lib.hid h2
 have hl1:=h1.cap
 have hl2:=h2.cap
 clear h1 h2
 go_enter Tryz.func176,Tryz.ntmps176
 go_upto_region 1 with fail
 obtain ⟨w1,hw1⟩ : ∃w1,w1=(w.alloc (.cells #[.int .i64 x.kind,.bool x.goal,.string x.id,.slice A1 x.attr.length c1,.slice A2 x.value.length c2,.bool x.acc,.slice A3 x.conds.length c3] 59)):=⟨_,rfl⟩
 rw [← hw1]
 have HB:=Lib.hid (show Below w.heap.size w w1 by rw [hw1];exact (by repeat (first | exact Below.refl _ _ | refine Below.drew ?_ | refine Below.al ?_ _ | refine Below.sc ?_ _)))
 have Kx:=Lib.hid (show Blk w1 (w.heap.size) 59 #[.int .i64 x.kind,.bool x.goal,.string x.id,.slice A1 x.attr.length c1,.slice A2 x.value.length c2,.bool x.acc,.slice A3 x.conds.length c3] by rw [hw1];exact (Blk.new w 59 #[.int .i64 x.kind,.bool x.goal,.string x.id,.slice A1 x.attr.length c1,.slice A2 x.value.length c2,.bool x.acc,.slice A3 x.conds.length c3]))
 clear hw1
 obtain ⟨x0,x1,x2,x3,x4,x5,x6⟩:=Kx.out.c7
 have xz:=Kx.out.lt
 by_cases ha:x.kind<1
 · skip
   have a0:decide (x.kind<1)=true:=decide_eq_true ha
   have Ha:=Lib.hid ha
   clear ha
   have HN3:=Lib.hid (show ¬x.kind=3 by have:=Ha.out;omega)
   have HN1:=Lib.hid (show ¬x.kind=1 by have:=Ha.out;omega)
   have HN2:=Lib.hid (show ¬x.kind=2 by have:=Ha.out;omega)
   have HR:=Lib.hid (show condE x deep=9 by simp [condE,HN3.out,HN1.out,HN2.out])
   go_wp2_with fail
   go_ret
   exact ⟨by rw [HR.out]<;>rfl,by (repeat (first | exact Below.refl _ _ | exact HB.out | refine Below.drew ?_ | refine Below.al ?_ _ | refine Below.sc ?_ _))⟩
 · skip
   have a0:decide (x.kind<1)=false:=decide_eq_false ha
   have Ha:=Lib.hid ha
   clear ha
   by_cases hb:3<x.kind
   · skip
     have b0:decide (3<x.kind)=true:=decide_eq_true hb
     have Hb:=Lib.hid hb
     clear hb
     have HN3:=Lib.hid (show ¬x.kind=3 by have:=Hb.out;omega)
     have HN1:=Lib.hid (show ¬x.kind=1 by have:=Hb.out;omega)
     have HN2:=Lib.hid (show ¬x.kind=2 by have:=Hb.out;omega)
     have HR:=Lib.hid (show condE x deep=9 by simp [condE,HN3.out,HN1.out,HN2.out])
     go_wp2_with fail
     go_ret
     exact ⟨by rw [HR.out]<;>rfl,by (repeat (first | exact Below.refl _ _ | exact HB.out | refine Below.drew ?_ | refine Below.al ?_ _ | refine Below.sc ?_ _))⟩
   · skip
     have b0:decide (3<x.kind)=false:=decide_eq_false hb
     have Hb:=Lib.hid hb
     clear hb
     by_cases hk:x.kind=3
     · skip
       have ka:(x.kind == 3)=true:=by simp [hk]
       have kb:decide (x.kind=3)=true:=by simp [hk]
       have Hk:=Lib.hid hk
       clear hk
       by_cases hg:x.goal=true
       · skip
         have gq:x.goal=true:=hg
         have Hg:=Lib.hid hg
         clear hg
         have HR:=Lib.hid (show condE x deep=9 by simp [condE,Hk.out,Hg.out])
         go_wp2_with fail
         go_ret
         exact ⟨by rw [HR.out]<;>rfl,by (repeat (first | exact Below.refl _ _ | exact HB.out | refine Below.drew ?_ | refine Below.al ?_ _ | refine Below.sc ?_ _))⟩
       · skip
         have gq:x.goal=false:=by simpa using hg
         have Hg:=Lib.hid hg
         clear hg
         by_cases hv : ¬x.id.toList = []
         · skip
           have vva:(x.id.toList == [])=false:=by simp [hv]
           have vvb:x.id.toList.isEmpty=false:=by simp [hv]
           have vvc:decide (x.id.toList = [])=false:=by simp [hv]
           have vvd:(x.id.toList != [])=true:=by simp [hv]
           have Hv:=Lib.hid hv
           clear hv
           have HR:=Lib.hid (show condE x deep=9 by simp [condE,Hk.out,Hg.out,Hv.out])
           go_wp2_with fail
           go_ret
           exact ⟨by rw [HR.out]<;>rfl,by (repeat (first | exact Below.refl _ _ | exact HB.out | refine Below.drew ?_ | refine Below.al ?_ _ | refine Below.sc ?_ _))⟩
         · skip
           have hv2:x.id.toList = []:=Classical.byContradiction hv
           have vva:(x.id.toList == [])=true:=by simp [hv2]
           have vvb:x.id.toList.isEmpty=true:=by simp [hv2]
           have vvc:decide (x.id.toList = [])=true:=by simp [hv2]
           have vvd:(x.id.toList != [])=false:=by simp [hv2]
           clear hv2
           have Hv:=Lib.hid hv
           clear hv
           have HV2:=Lib.hid (Classical.byContradiction Hv.out)
           by_cases hc:0<x.attr.length
           · skip
             have ca:decide ((0:Int)<(x.attr.length:Int))=true:=decide_eq_true (by omega)
             have cb:decide (0<x.attr.length)=true:=decide_eq_true (by omega)
             have Hc:=Lib.hid hc
             clear hc
             have HR:=Lib.hid (show condE x deep=9 by simp [condE,Hk.out,Hg.out,HV2.out,Hc.out])
             go_wp2_with fail
             go_ret
             exact ⟨by rw [HR.out]<;>rfl,by (repeat (first | exact Below.refl _ _ | exact HB.out | refine Below.drew ?_ | refine Below.al ?_ _ | refine Below.sc ?_ _))⟩
           · skip
             have ca:decide ((0:Int)<(x.attr.length:Int))=false:=decide_eq_false (by omega)
             have cb:decide (0<x.attr.length)=false:=decide_eq_false (by omega)
             have Hc:=Lib.hid hc
             clear hc
             have HLc:=Lib.hid (show x.attr = [] by have:=Hc.out;exact List.length_eq_zero_iff.1 (by omega))
             by_cases hd:0<x.value.length
             · skip
               have da:decide ((0:Int)<(x.value.length:Int))=true:=decide_eq_true (by omega)
               have db:decide (0<x.value.length)=true:=decide_eq_true (by omega)
               have Hd:=Lib.hid hd
               clear hd
               have HR:=Lib.hid (show condE x deep=9 by simp [condE,Hk.out,Hg.out,HV2.out,HLc.out,Hd.out])
               go_wp2_with fail
               go_ret
               exact ⟨by rw [HR.out]<;>rfl,by (repeat (first | exact Below.refl _ _ | exact HB.out | refine Below.drew ?_ | refine Below.al ?_ _ | refine Below.sc ?_ _))⟩
             · skip
               have da:decide ((0:Int)<(x.value.length:Int))=false:=decide_eq_false (by omega)
               have db:decide (0<x.value.length)=false:=decide_eq_false (by omega)
               have Hd:=Lib.hid hd
               clear hd
               have HLd:=Lib.hid (show x.value = [] by have:=Hd.out;exact List.length_eq_zero_iff.1 (by omega))
               by_cases he:x.acc=true
               · skip
                 have eq:x.acc=true:=he
                 have He:=Lib.hid he
                 clear he
                 have HR:=Lib.hid (show condE x deep=9 by simp [condE,Hk.out,Hg.out,HV2.out,HLc.out,HLd.out,He.out])
                 go_wp2_with fail
                 go_ret
                 exact ⟨by rw [HR.out]<;>rfl,by (repeat (first | exact Below.refl _ _ | exact HB.out | refine Below.drew ?_ | refine Below.al ?_ _ | refine Below.sc ?_ _))⟩
               · skip
                 have eq:x.acc=false:=by simpa using he
                 have He:=Lib.hid he
                 clear he
                 by_cases hf:x.conds.length=0
                 · skip
                   have fz:((x.conds.length:Int) == 0)=true:=by rw [beq_iff_eq];omega
                   have fy:decide ((x.conds.length:Int)=0)=true:=decide_eq_true (by omega)
                   have Hf:=Lib.hid hf
                   clear hf
                   have HR:=Lib.hid (show condE x deep=9 by simp [condE,Hk.out,Hg.out,HV2.out,HLc.out,HLd.out,He.out,Hf.out])
                   go_wp2_with fail
                   go_ret
                   exact ⟨by rw [HR.out]<;>rfl,by (repeat (first | exact Below.refl _ _ | exact HB.out | refine Below.drew ?_ | refine Below.al ?_ _ | refine Below.sc ?_ _))⟩
                 · skip
                   have fz:((x.conds.length:Int) == 0)=false:=by rw [beq_eq_false_iff_ne];omega
                   have fy:decide ((x.conds.length:Int)=0)=false:=decide_eq_false (by omega)
                   have Hf:=Lib.hid hf
                   clear hf
                   by_cases hp:3≤deep
                   · skip
                     have p0:decide ((3:Int)≤(deep:Int))=true:=decide_eq_true (by omega)
                     have p1:decide (3≤deep)=true:=decide_eq_true (by omega)
                     have Hp:=Lib.hid hp
                     clear hp
                     have HR:=Lib.hid (show condE x deep=8 by simp [condE,Hk.out,Hg.out,HV2.out,HLc.out,HLd.out,He.out,Hf.out,Hp.out])
                     go_wp2_with fail
                     go_ret
                     exact ⟨by rw [HR.out]<;>rfl,by (repeat (first | exact Below.refl _ _ | exact HB.out | refine Below.drew ?_ | refine Below.al ?_ _ | refine Below.sc ?_ _))⟩
                   · skip
                     have p0:decide ((3:Int)≤(deep:Int))=false:=decide_eq_false (by omega)
                     have p1:decide (3≤deep)=false:=decide_eq_false (by omega)
                     have Hp:=Lib.hid hp
                     clear hp
                     have HR:=Lib.hid (show condE x deep=0 by simp [condE,Hk.out,Hg.out,HV2.out,HLc.out,HLd.out,He.out,Hf.out,Hp.out])
                     go_wp2_with fail
                     go_ret
                     exact ⟨by rw [HR.out]<;>rfl,by (repeat (first | exact Below.refl _ _ | exact HB.out | refine Below.drew ?_ | refine Below.al ?_ _ | refine Below.sc ?_ _))⟩
     · skip
       have ka:(x.kind == 3)=false:=by simp [hk]
       have kb:decide (x.kind=3)=false:=by simp [hk]
       have Hk:=Lib.hid hk
       clear hk
       have H12:=Lib.hid (show x.kind=1∨x.kind=2 by have:=Ha.out;have:=Hb.out;have:=Hk.out;omega)
       by_cases hc:0<x.conds.length
       · skip
         have ca:decide ((0:Int)<(x.conds.length:Int))=true:=decide_eq_true (by omega)
         have cb:decide (0<x.conds.length)=true:=decide_eq_true (by omega)
         have Hc:=Lib.hid hc
         clear hc
         have HR:=Lib.hid (show condE x deep=9 by simp [condE,Hk.out,H12.out,Hc.out])
         go_wp2_with fail
         go_ret
         exact ⟨by rw [HR.out]<;>rfl,by (repeat (first | exact Below.refl _ _ | exact HB.out | refine Below.drew ?_ | refine Below.al ?_ _ | refine Below.sc ?_ _))⟩
       · skip
         have ca:decide ((0:Int)<(x.conds.length:Int))=false:=decide_eq_false (by omega)
         have cb:decide (0<x.conds.length)=false:=decide_eq_false (by omega)
         have Hc:=Lib.hid hc
         clear hc
         cases hw:isWord x.id
         · skip
           have hc:=fun W=>rword_is x.id W
           simp only [hw] at hc
           have HCw:=Lib.hid hc
           clear hc
           go_wp2_with fail
           with_reducible refine (HCw.out _).mono ?_
           rintro e w0 ⟨rfl,rfl⟩
           have HR:=Lib.hid (show condE x deep=9 by simp [condE,Hk.out,H12.out,Hc.out,hw])
           go_wp2_with fail
           go_ret
           exact ⟨by rw [HR.out]<;>rfl,by (repeat (first | exact Below.refl _ _ | exact HB.out | refine Below.drew ?_ | refine Below.al ?_ _ | refine Below.sc ?_ _))⟩
         · skip
           have hc:=fun W=>rword_is x.id W
           simp only [hw] at hc
           have HCw:=Lib.hid hc
           clear hc
           go_wp2_with fail
           with_reducible refine (HCw.out _).mono ?_
           rintro e w0 ⟨rfl,rfl⟩
           have HW:=Lib.hid hw
           clear hw
           by_cases hd:x.attr.length=0
           · skip
             have dz:((x.attr.length:Int) == 0)=true:=by rw [beq_iff_eq];omega
             have dy:decide ((x.attr.length:Int)=0)=true:=decide_eq_true (by omega)
             have Hd:=Lib.hid hd
             clear hd
             have HLd:=Lib.hid (List.length_eq_zero_iff.1 Hd.out)
             have HR:=Lib.hid (show condE x deep=9 by simp [condE,Hk.out,H12.out,Hc.out,HW.out,HLd.out])
             go_wp2_with fail
             go_ret
             exact ⟨by rw [HR.out]<;>rfl,by (repeat (first | exact Below.refl _ _ | exact HB.out | refine Below.drew ?_ | refine Below.al ?_ _ | refine Below.sc ?_ _))⟩
           · skip
             have dz:((x.attr.length:Int) == 0)=false:=by rw [beq_eq_false_iff_ne];omega
             have dy:decide ((x.attr.length:Int)=0)=false:=decide_eq_false (by omega)
             have Hd:=Lib.hid hd
             clear hd
             have HNd:=Lib.hid (show ¬x.attr = [] by intro e;exact Hd.out (by rw [e];rfl))
             by_cases he:4<x.attr.length
             · skip
               have ea:decide ((4:Int)<(x.attr.length:Int))=true:=decide_eq_true (by omega)
               have eb:decide (4<x.attr.length)=true:=decide_eq_true (by omega)
               have He:=Lib.hid he
               clear he
               have HR:=Lib.hid (show condE x deep=7 by simp [condE,Hk.out,H12.out,Hc.out,HW.out,HNd.out,He.out])
               go_wp2_with fail
               go_ret
               exact ⟨by rw [HR.out]<;>rfl,by (repeat (first | exact Below.refl _ _ | exact HB.out | refine Below.drew ?_ | refine Below.al ?_ _ | refine Below.sc ?_ _))⟩
             · skip
               have ea:decide ((4:Int)<(x.attr.length:Int))=false:=decide_eq_false (by omega)
               have eb:decide (4<x.attr.length)=false:=decide_eq_false (by omega)
               have He:=Lib.hid he
               clear he
               by_cases hf:4<x.value.length
               · skip
                 have fa:decide ((4:Int)<(x.value.length:Int))=true:=decide_eq_true (by omega)
                 have fb:decide (4<x.value.length)=true:=decide_eq_true (by omega)
                 have Hf:=Lib.hid hf
                 clear hf
                 have HR:=Lib.hid (show condE x deep=7 by simp [condE,Hk.out,H12.out,Hc.out,HW.out,HNd.out,He.out,Hf.out])
                 go_wp2_with fail
                 go_ret
                 exact ⟨by rw [HR.out]<;>rfl,by (repeat (first | exact Below.refl _ _ | exact HB.out | refine Below.drew ?_ | refine Below.al ?_ _ | refine Below.sc ?_ _))⟩
               · skip
                 have fa:decide ((4:Int)<(x.value.length:Int))=false:=decide_eq_false (by omega)
                 have fb:decide (4<x.value.length)=false:=decide_eq_false (by omega)
                 have Hf:=Lib.hid hf
                 clear hf
                 cases ht:x.attr.all testB
                 · skip
                   have hc:=fun W (hb:Below w.heap.size w W)=>rtests_is A1 c1 x.attr W (H1.out.new_ hb)
                   simp only [ht] at hc
                   have HCt:=Lib.hid hc
                   clear hc
                   go_wp2_with fail
                   with_reducible refine (HCt.out _ (by (repeat (first | exact Below.refl _ _ | exact HB.out | refine Below.drew ?_ | refine Below.al ?_ _ | refine Below.sc ?_ _)))).mono ?_
                   rintro e w2 ⟨rfl,hb⟩
                   have hbs:=Below.trans (show Below w1.heap.size w1 _ from (by (repeat (first | exact Below.refl _ _ | refine Below.drew ?_ | refine Below.al ?_ _ | refine Below.sc ?_ _)))) (hb.mono (by simp<;>omega))
                   have Kx:=Lib.hid (Kx.out.new_ hbs)
                   have HB:=Lib.hid (HB.out.trans (hbs.mono HB.out.size))
                   have hsz2:=hbs.size
                   clear x0 x1 x2 x3 x4 x5 x6 xz hb hbs
                   obtain ⟨x0,x1,x2,x3,x4,x5,x6⟩:=Kx.out.c7
                   have xz:=Kx.out.lt
                   have HTt:=Lib.hid ht
                   clear ht
                   have HR:=Lib.hid (show condE x deep=9 by simp [condE,Hk.out,H12.out,Hc.out,HW.out,HNd.out,He.out,Hf.out,HTt.out])
                   go_wp2_with fail
                   go_ret
                   exact ⟨by rw [HR.out]<;>rfl,by (repeat (first | exact Below.refl _ _ | exact HB.out | refine Below.drew ?_ | refine Below.al ?_ _ | refine Below.sc ?_ _))⟩
                 · skip
                   have hc:=fun W (hb:Below w.heap.size w W)=>rtests_is A1 c1 x.attr W (H1.out.new_ hb)
                   simp only [ht] at hc
                   have HCt:=Lib.hid hc
                   clear hc
                   go_wp2_with fail
                   with_reducible refine (HCt.out _ (by (repeat (first | exact Below.refl _ _ | exact HB.out | refine Below.drew ?_ | refine Below.al ?_ _ | refine Below.sc ?_ _)))).mono ?_
                   rintro e w2 ⟨rfl,hb⟩
                   have hbs:=Below.trans (show Below w1.heap.size w1 _ from (by (repeat (first | exact Below.refl _ _ | refine Below.drew ?_ | refine Below.al ?_ _ | refine Below.sc ?_ _)))) (hb.mono (by simp<;>omega))
                   have Kx:=Lib.hid (Kx.out.new_ hbs)
                   have HB:=Lib.hid (HB.out.trans (hbs.mono HB.out.size))
                   have hsz2:=hbs.size
                   clear x0 x1 x2 x3 x4 x5 x6 xz hb hbs
                   obtain ⟨x0,x1,x2,x3,x4,x5,x6⟩:=Kx.out.c7
                   have xz:=Kx.out.lt
                   have HTt:=Lib.hid ht
                   clear ht
                   cases hu:x.value.all testB
                   · skip
                     have hc:=fun W (hb:Below w.heap.size w W)=>rtests_is A2 c2 x.value W (H2.out.new_ hb)
                     simp only [hu] at hc
                     have HCu:=Lib.hid hc
                     clear hc
                     go_wp2_with fail
                     with_reducible refine (HCu.out _ (by (repeat (first | exact Below.refl _ _ | exact HB.out | refine Below.drew ?_ | refine Below.al ?_ _ | refine Below.sc ?_ _)))).mono ?_
                     rintro e w3 ⟨rfl,hb⟩
                     have hbs:=Below.trans (show Below w2.heap.size w2 _ from (by (repeat (first | exact Below.refl _ _ | refine Below.drew ?_ | refine Below.al ?_ _ | refine Below.sc ?_ _)))) (hb.mono (by simp<;>omega))
                     have Kx:=Lib.hid (Kx.out.new_ hbs)
                     have HB:=Lib.hid (HB.out.trans (hbs.mono HB.out.size))
                     have hsz3:=hbs.size
                     clear x0 x1 x2 x3 x4 x5 x6 xz hb hbs
                     obtain ⟨x0,x1,x2,x3,x4,x5,x6⟩:=Kx.out.c7
                     have xz:=Kx.out.lt
                     have HTu:=Lib.hid hu
                     clear hu
                     have HR:=Lib.hid (show condE x deep=9 by simp [condE,Hk.out,H12.out,Hc.out,HW.out,HNd.out,He.out,Hf.out,HTt.out,HTu.out])
                     go_wp2_with fail
                     go_ret
                     exact ⟨by rw [HR.out]<;>rfl,by (repeat (first | exact Below.refl _ _ | exact HB.out | refine Below.drew ?_ | refine Below.al ?_ _ | refine Below.sc ?_ _))⟩
                   · skip
                     have hc:=fun W (hb:Below w.heap.size w W)=>rtests_is A2 c2 x.value W (H2.out.new_ hb)
                     simp only [hu] at hc
                     have HCu:=Lib.hid hc
                     clear hc
                     go_wp2_with fail
                     with_reducible refine (HCu.out _ (by (repeat (first | exact Below.refl _ _ | exact HB.out | refine Below.drew ?_ | refine Below.al ?_ _ | refine Below.sc ?_ _)))).mono ?_
                     rintro e w3 ⟨rfl,hb⟩
                     have hbs:=Below.trans (show Below w2.heap.size w2 _ from (by (repeat (first | exact Below.refl _ _ | refine Below.drew ?_ | refine Below.al ?_ _ | refine Below.sc ?_ _)))) (hb.mono (by simp<;>omega))
                     have Kx:=Lib.hid (Kx.out.new_ hbs)
                     have HB:=Lib.hid (HB.out.trans (hbs.mono HB.out.size))
                     have hsz3:=hbs.size
                     clear x0 x1 x2 x3 x4 x5 x6 xz hb hbs
                     obtain ⟨x0,x1,x2,x3,x4,x5,x6⟩:=Kx.out.c7
                     have xz:=Kx.out.lt
                     have HTu:=Lib.hid hu
                     clear hu
                     have HR:=Lib.hid (show condE x deep=0 by simp [condE,Hk.out,H12.out,Hc.out,HW.out,HNd.out,He.out,Hf.out,HTt.out,HTu.out])
                     go_wp2_with fail
                     go_ret
                     exact ⟨by rw [HR.out]<;>rfl,by (repeat (first | exact Below.refl _ _ | exact HB.out | refine Below.drew ?_ | refine Below.al ?_ _ | refine Below.sc ?_ _))⟩
end Go.Proofs.YtffemfglngikbaaGreat
