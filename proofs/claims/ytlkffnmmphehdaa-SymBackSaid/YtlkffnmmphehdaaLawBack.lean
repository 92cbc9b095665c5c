/-
  The law that a right symbol's text is read as it: its walk.
-/
import Derived.Test.YtlkffnmmphehdaaTabWakes
import Derived.Test.YtlkffnmmphehdaaSymBackP
import Derived.Test.YtlkffnmmphehdaaKitSyms
namespace Go.Proofs.Ytlkffnmmphehdaa
open Go.RowKit
set_option maxRecDepth 100000 in
set_option maxHeartbeats 8000000 in
theorem back_walk (a b : Sym) (w : World) : Calls Try.prog 5 #[.agg #[.int .i64 a.kind, .string a.text, .int .i64 a.n], .agg #[.int .i64 b.kind, .string b.text, .int .i64 b.n]] w fun e w' => e = .returned (.bool true) ∧ Below w.heap.size w w' := by
  by_cases h1 : 100 < a.text.size
  · have t1 : decide ((100 : Int) < (a.text.size : Int)) = true := by simp; omega
    clear h1
    go_enter Try.func5, Try.ntmps5
    go_wp2_with fail
    obtain ⟨W, hW⟩ : ∃ W, W = ((w.alloc (Obj.cells #[Value.int IntKind.i64 a.kind, Value.string a.text, Value.int IntKind.i64 a.n] 23)).alloc (Obj.cells #[Value.int IntKind.i64 b.kind, Value.string b.text, Value.int IntKind.i64 b.n] 23)) := ⟨_, rfl⟩
    have hA : Blk W (w.heap.size) 23 #[.int .i64 a.kind, .string a.text, .int .i64 a.n] := by rw [hW]; exact ((Blk.new _ _ _)).alloc _
    have hB : Blk W (w.heap.size + 1) 23 #[.int .i64 b.kind, .string b.text, .int .i64 b.n] := by
      rw [hW]
      have := (Blk.new (w.alloc (Obj.cells #[Value.int IntKind.i64 a.kind, Value.string a.text, Value.int IntKind.i64 a.n] 23)) 23 #[.int .i64 b.kind, .string b.text, .int .i64 b.n])
      simpa using this
    have hB0 : Below w.heap.size w W := by rw [hW]; exact ((Below.refl _ _).alloc (Nat.le_refl _) _).alloc (by first | omega | (simp; done) | (simp; omega)) _
    rw [← hW]
    clear hW
    have HA := Lib.hid hA
    have HB := Lib.hid hB
    have HB0 := Lib.hid hB0
    have hz0 := hB0.size
    clear hB0
    refine (wakes4_is _).mono ?_
    rintro e w9 ⟨rfl, hb9⟩
    have HB9 := Lib.hid ((HB0.out).trans (hb9.mono (by omega)))
    clear hb9
    go_wp2_with fail
    go_ret
    exact ⟨rfl, HB9.out⟩
  have t1 : decide ((100 : Int) < (a.text.size : Int)) = false := by simp; omega
  by_cases h2 : 100 < b.text.size
  · have t2 : decide ((100 : Int) < (b.text.size : Int)) = true := by simp; omega
    clear h1 h2
    go_enter Try.func5, Try.ntmps5
    go_wp2_with fail
    obtain ⟨W, hW⟩ : ∃ W, W = ((w.alloc (Obj.cells #[Value.int IntKind.i64 a.kind, Value.string a.text, Value.int IntKind.i64 a.n] 23)).alloc (Obj.cells #[Value.int IntKind.i64 b.kind, Value.string b.text, Value.int IntKind.i64 b.n] 23)) := ⟨_, rfl⟩
    have hA : Blk W (w.heap.size) 23 #[.int .i64 a.kind, .string a.text, .int .i64 a.n] := by rw [hW]; exact ((Blk.new _ _ _)).alloc _
    have hB : Blk W (w.heap.size + 1) 23 #[.int .i64 b.kind, .string b.text, .int .i64 b.n] := by
      rw [hW]
      have := (Blk.new (w.alloc (Obj.cells #[Value.int IntKind.i64 a.kind, Value.string a.text, Value.int IntKind.i64 a.n] 23)) 23 #[.int .i64 b.kind, .string b.text, .int .i64 b.n])
      simpa using this
    have hB0 : Below w.heap.size w W := by rw [hW]; exact ((Below.refl _ _).alloc (Nat.le_refl _) _).alloc (by first | omega | (simp; done) | (simp; omega)) _
    rw [← hW]
    clear hW
    have HA := Lib.hid hA
    have HB := Lib.hid hB
    have HB0 := Lib.hid hB0
    have hz0 := hB0.size
    clear hB0
    refine (wakes4_is _).mono ?_
    rintro e w9 ⟨rfl, hb9⟩
    have HB9 := Lib.hid ((HB0.out).trans (hb9.mono (by omega)))
    clear hb9
    go_wp2_with fail
    go_ret
    exact ⟨rfl, HB9.out⟩
  have t2 : decide ((100 : Int) < (b.text.size : Int)) = false := by simp; omega
  have hsa : a.text.size ≤ 100 := by omega
  clear h1 h2
  go_enter Try.func5, Try.ntmps5
  go_wp2_with fail
  obtain ⟨W, hW⟩ : ∃ W, W = ((w.alloc (Obj.cells #[Value.int IntKind.i64 a.kind, Value.string a.text, Value.int IntKind.i64 a.n] 23)).alloc (Obj.cells #[Value.int IntKind.i64 b.kind, Value.string b.text, Value.int IntKind.i64 b.n] 23)) := ⟨_, rfl⟩
  have hA : Blk W (w.heap.size) 23 #[.int .i64 a.kind, .string a.text, .int .i64 a.n] := by rw [hW]; exact ((Blk.new _ _ _)).alloc _
  have hB : Blk W (w.heap.size + 1) 23 #[.int .i64 b.kind, .string b.text, .int .i64 b.n] := by
    rw [hW]
    have := (Blk.new (w.alloc (Obj.cells #[Value.int IntKind.i64 a.kind, Value.string a.text, Value.int IntKind.i64 a.n] 23)) 23 #[.int .i64 b.kind, .string b.text, .int .i64 b.n])
    simpa using this
  have hB0 : Below w.heap.size w W := by rw [hW]; exact ((Below.refl _ _).alloc (Nat.le_refl _) _).alloc (by first | omega | (simp; done) | (simp; omega)) _
  rw [← hW]
  clear hW
  have HA := Lib.hid hA
  have HB := Lib.hid hB
  have HB0 := Lib.hid hB0
  have hz0 := hB0.size
  clear hB0
  refine (valid_is a _).mono ?_
  rintro e w1 ⟨rfl, hb1⟩
  have HB1 := Lib.hid hb1
  have hz1 := HB1.out.size
  clear hb1
  have hA := HA.out.new_ HB1.out
  have pA0 : w1.cell? ⟨w.heap.size, 0, none⟩ = some (.int .i64 a.kind) := (hA.cell 0).trans rfl
  have pA1 : w1.cell? ⟨w.heap.size, 1, none⟩ = some (.string a.text) := (hA.cell 1).trans rfl
  have pA2 : w1.cell? ⟨w.heap.size, 2, none⟩ = some (.int .i64 a.n) := (hA.cell 2).trans rfl
  have pAl := hA.lt
  clear hA
  have hB := HB.out.new_ HB1.out
  have pB0 : w1.cell? ⟨w.heap.size + 1, 0, none⟩ = some (.int .i64 b.kind) := (hB.cell 0).trans rfl
  have pB1 : w1.cell? ⟨w.heap.size + 1, 1, none⟩ = some (.string b.text) := (hB.cell 1).trans rfl
  have pB2 : w1.cell? ⟨w.heap.size + 1, 2, none⟩ = some (.int .i64 b.n) := (hB.cell 2).trans rfl
  have pBl := hB.lt
  clear hB
  cases va : validB a
  · go_wp2_with fail
    refine (wakes4_is _).mono ?_
    rintro e w9 ⟨rfl, hb9⟩
    have HB9 := Lib.hid ((HB0.out.trans (HB1.out.mono hz0)).trans (hb9.mono (by omega)))
    clear hb9
    go_wp2_with fail
    go_ret
    exact ⟨rfl, HB9.out⟩
  go_wp2_with fail
  refine (valid_is b _).mono ?_
  rintro e w2 ⟨rfl, hb2⟩
  have HB2 := Lib.hid (HB1.out.trans (hb2.mono hz1))
  have hz2 := HB2.out.size
  clear hb2 pA0 pA1 pA2 pB0 pB1 pB2
  have hA := HA.out.new_ HB2.out
  have qA0 : w2.cell? ⟨w.heap.size, 0, none⟩ = some (.int .i64 a.kind) := (hA.cell 0).trans rfl
  have qA1 : w2.cell? ⟨w.heap.size, 1, none⟩ = some (.string a.text) := (hA.cell 1).trans rfl
  have qA2 : w2.cell? ⟨w.heap.size, 2, none⟩ = some (.int .i64 a.n) := (hA.cell 2).trans rfl
  have qAl := hA.lt
  clear hA
  have hB := HB.out.new_ HB2.out
  have qB0 : w2.cell? ⟨w.heap.size + 1, 0, none⟩ = some (.int .i64 b.kind) := (hB.cell 0).trans rfl
  have qB1 : w2.cell? ⟨w.heap.size + 1, 1, none⟩ = some (.string b.text) := (hB.cell 1).trans rfl
  have qB2 : w2.cell? ⟨w.heap.size + 1, 2, none⟩ = some (.int .i64 b.n) := (hB.cell 2).trans rfl
  have qBl := hB.lt
  clear hB
  cases vb : validB b
  · go_wp2_with fail
    refine (wakes4_is _).mono ?_
    rintro e w9 ⟨rfl, hb9⟩
    have HB9 := Lib.hid ((HB0.out.trans (HB2.out.mono hz0)).trans (hb9.mono (by omega)))
    clear hb9
    go_wp2_with fail
    go_ret
    exact ⟨rfl, HB9.out⟩
  have hps := parse_text a va
  have hsz := text_size va hsa
  have HPS := Lib.hid hps
  obtain ⟨be, hbe0⟩ : ∃ be, decide (a = b) = be := ⟨_, rfl⟩
  have hte : ((textB a).toList == (textB b).toList) = be := by
    rw [← hbe0, Bool.eq_iff_iff, beq_iff_eq, decide_eq_true_iff, ← text_inj va vb]
    exact ⟨fun h => toList_inj h, fun h => by rw [h]⟩
  have hab := eql_sym a b
  have haa := eql_sym a a
  rw [hbe0] at hab
  rw [decide_eq_true rfl] at haa
  clear hps hbe0 va vb
  go_wp2_with fail
  refine (text_is a _).mono ?_
  rintro e w3 ⟨rfl, hb3⟩
  have HB3 := Lib.hid (HB2.out.trans (hb3.mono hz2))
  have hz3 := HB3.out.size
  clear hb3 qA0 qA1 qA2 qB0 qB1 qB2
  go_wp2_with fail
  refine (parse_is (textB a) (by omega) _).mono ?_
  rintro e w4 ⟨rfl, hb4⟩
  rw [HPS.out]
  have HB4 := Lib.hid (HB3.out.trans (hb4.mono hz3))
  have hz4 := HB4.out.size
  clear hb4
  simp only [symRes]
  go_wp2_with fail
  obtain ⟨X, hX⟩ : ∃ X, X = w4.alloc (Obj.cells #[Value.int IntKind.i64 a.kind, Value.string a.text, Value.int IntKind.i64 a.n] 23) := ⟨_, rfl⟩
  have hP : Blk X w4.heap.size 23 #[.int .i64 a.kind, .string a.text, .int .i64 a.n] := by rw [hX]; exact Blk.new _ _ _
  have hBX : Below W.heap.size W X := by rw [hX]; exact HB4.out.alloc hz4 _
  rw [← hX]
  clear hX
  have HBX := Lib.hid hBX
  have hzx := hBX.size
  clear hBX
  have yP0 : X.cell? ⟨w4.heap.size, 0, none⟩ = some (.int .i64 a.kind) := (hP.cell 0).trans rfl
  have yP1 : X.cell? ⟨w4.heap.size, 1, none⟩ = some (.string a.text) := (hP.cell 1).trans rfl
  have yP2 : X.cell? ⟨w4.heap.size, 2, none⟩ = some (.int .i64 a.n) := (hP.cell 2).trans rfl
  have yPl := hP.lt
  clear hP
  have hA := HA.out.new_ HBX.out
  have yA0 : X.cell? ⟨w.heap.size, 0, none⟩ = some (.int .i64 a.kind) := (hA.cell 0).trans rfl
  have yA1 : X.cell? ⟨w.heap.size, 1, none⟩ = some (.string a.text) := (hA.cell 1).trans rfl
  have yA2 : X.cell? ⟨w.heap.size, 2, none⟩ = some (.int .i64 a.n) := (hA.cell 2).trans rfl
  have yAl := hA.lt
  clear hA
  have hB := HB.out.new_ HBX.out
  have yB0 : X.cell? ⟨w.heap.size + 1, 0, none⟩ = some (.int .i64 b.kind) := (hB.cell 0).trans rfl
  have yB1 : X.cell? ⟨w.heap.size + 1, 1, none⟩ = some (.string b.text) := (hB.cell 1).trans rfl
  have yB2 : X.cell? ⟨w.heap.size + 1, 2, none⟩ = some (.int .i64 b.n) := (hB.cell 2).trans rfl
  have yBl := hB.lt
  clear hB
  refine wp_region_E (fun w9 => Below X.heap.size X w9) [(0, 0), (1, 0), (2, 1), (3, 1), (4, 0), (5, 0), (6, 0), (7, 1), (9, 1), (12, 1), (13, 1), (14, 0), (8, 2), (10, 2), (11, 0), (15, 0), (16, 0), (17, 0), (18, 2), (19, 0), (20, 0)] (by kernel_rfl) (by kernel_rfl) (fun KK hKK => ?_)
  simp only [beside, List.filterMap_cons, List.filterMap_nil, List.getElem?_toArray, List.getElem?_cons_zero, List.getElem?_cons_succ, Option.map_some]
  repeat (first | (refine wpX_w ?_ (Or.inl ⟨by rfl, fun w9 => ?_⟩) ?_; rotate_left 1; go_simp; with_reducible rfl; simp only [Act.put, List.setIfInBounds_toArray, List.set_cons_zero, List.set_cons_succ]) | (refine wpX_l ?_ (((Below.refl _ _).drew)) (Or.inl ⟨by rfl, fun w9 hw9 => ?_⟩) ?_; rotate_left 1; obtain ⟨hc9, hf9⟩ := bcell hw9; go_simp; with_reducible rfl; simp only [Act.put, List.setIfInBounds_toArray, List.set_cons_zero, List.set_cons_succ]) | (refine wpX_w undef (Or.inr ⟨by rfl, rfl⟩) ?_; simp only [Act.put, List.setIfInBounds_toArray, List.set_cons_zero, List.set_cons_succ]) | (refine wpX_l undef (((Below.refl _ _).drew)) (Or.inr ⟨by rfl, rfl⟩) ?_; simp only [Act.put, List.setIfInBounds_toArray, List.set_cons_zero, List.set_cons_succ]))
  refine wpX_es (fun K9 hK9 => ?_)
  go_simp
  refine (text_is a _).mono ?_
  rintro e w8 ⟨rfl, hb8⟩
  have HB8 := Lib.hid (((Below.refl X.heap.size X).drew).trans (hb8.mono (by first | omega | (simp; done) | (simp; omega))))
  have hz8 := HB8.out.size
  clear hb8
  refine hK9 _ _ HB8.out ?_
  clear hK9 K9
  refine wpX_es (fun K9 hK9 => ?_)
  go_simp
  refine (text_is b _).mono ?_
  rintro e w10 ⟨rfl, hb10⟩
  have HB10 := Lib.hid ((HB8.out).trans (hb10.mono (by first | omega | (simp; done) | (simp; omega))))
  have hz10 := HB10.out.size
  clear hb10
  refine hK9 _ _ HB10.out ?_
  clear hK9 K9
  repeat (first | (refine wpX_w ?_ (Or.inl ⟨by rfl, fun w9 => ?_⟩) ?_; rotate_left 1; go_simp; with_reducible rfl; simp only [Act.put, List.setIfInBounds_toArray, List.set_cons_zero, List.set_cons_succ]) | (refine wpX_l ?_ (HB10.out) (Or.inl ⟨by rfl, fun w9 hw9 => ?_⟩) ?_; rotate_left 1; obtain ⟨hc9, hf9⟩ := bcell hw9; go_simp; with_reducible rfl; simp only [Act.put, List.setIfInBounds_toArray, List.set_cons_zero, List.set_cons_succ]) | (refine wpX_w undef (Or.inr ⟨by rfl, rfl⟩) ?_; simp only [Act.put, List.setIfInBounds_toArray, List.set_cons_zero, List.set_cons_succ]) | (refine wpX_l undef (HB10.out) (Or.inr ⟨by rfl, rfl⟩) ?_; simp only [Act.put, List.setIfInBounds_toArray, List.set_cons_zero, List.set_cons_succ]))
  refine wpX_es (fun K9 hK9 => ?_)
  go_simp
  refine (wakes4_is _).mono ?_
  rintro e w18 ⟨rfl, hb18⟩
  have HB18 := Lib.hid ((HB10.out).trans (hb18.mono (by first | omega | (simp; done) | (simp; omega))))
  have hz18 := HB18.out.size
  clear hb18
  refine hK9 _ _ HB18.out ?_
  clear hK9 K9
  repeat (first | (refine wpX_w ?_ (Or.inl ⟨by rfl, fun w9 => ?_⟩) ?_; rotate_left 1; go_simp; with_reducible rfl; simp only [Act.put, List.setIfInBounds_toArray, List.set_cons_zero, List.set_cons_succ]) | (refine wpX_l ?_ (HB18.out) (Or.inl ⟨by rfl, fun w9 hw9 => ?_⟩) ?_; rotate_left 1; obtain ⟨hc9, hf9⟩ := bcell hw9; go_simp; with_reducible rfl; simp only [Act.put, List.setIfInBounds_toArray, List.set_cons_zero, List.set_cons_succ]) | (refine wpX_w undef (Or.inr ⟨by rfl, rfl⟩) ?_; simp only [Act.put, List.setIfInBounds_toArray, List.set_cons_zero, List.set_cons_succ]) | (refine wpX_l undef (HB18.out) (Or.inr ⟨by rfl, rfl⟩) ?_; simp only [Act.put, List.setIfInBounds_toArray, List.set_cons_zero, List.set_cons_succ]))
  refine wpX_nil ?_
  simp only [OnlyN_normal]
  refine hKK _ _ ?_
  clear hKK KK
  go_wp2_with fail
  go_ret
  exact ⟨rfl, (HB0.out.trans (HBX.out.mono hz0)).trans (HB18.out.mono (by omega))⟩
end Go.Proofs.Ytlkffnmmphehdaa
