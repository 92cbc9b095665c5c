/-
  The law on the order of symbols: its walk.
-/
import Derived.Test.YtlkffnmmphehdaaTabWakes
import Derived.Test.YtlkffnmmphehdaaRefBefore
namespace Go.Proofs.Ytlkffnmmphehdaa
open Go.RowKit
set_option maxRecDepth 100000 in
set_option maxHeartbeats 8000000 in
theorem order_walk (a b d : Sym) (w : World) : Calls Try.prog 6 #[.agg #[.int .i64 a.kind, .string a.text, .int .i64 a.n], .agg #[.int .i64 b.kind, .string b.text, .int .i64 b.n], .agg #[.int .i64 d.kind, .string d.text, .int .i64 d.n]] w fun e w' => e = .returned (.bool true) ∧ Below w.heap.size w w' := by
  have hbe := eql_sym a b
  obtain ⟨bx, hbx⟩ : ∃ bx, decide (cmpSym a b < 0) = bx := ⟨_, rfl⟩
  have g3 : decide (0 < cmpSym b a) = bx := by rw [← hbx]; exact decide_eq_decide.2 (tc_sym.symm a b).symm
  obtain ⟨be, hbe0⟩ : ∃ be, decide (a = b) = be := ⟨_, rfl⟩
  have g2 : (cmpSym a b == 0) = be := by rw [← hbe0, Bool.eq_iff_iff]; simp [cmpSym_eq]
  rw [hbe0] at hbe
  obtain ⟨bb, hbb⟩ : ∃ bb, decide (cmpSym b d < 0) = bb := ⟨_, rfl⟩
  have hno : bx = true → bb = true → decide (0 ≤ cmpSym a d) = false := fun h1 h2 => by
    rw [← hbx] at h1
    rw [← hbb] at h2
    have := tc_sym.lt_trans (of_decide_eq_true h1) (of_decide_eq_true h2)
    simp; omega
  have HNO := Lib.hid hno
  clear hno hbe0
  go_enter Try.func6, Try.ntmps6
  go_wp2_with fail
  obtain ⟨W, hW⟩ : ∃ W, W = (((w.alloc (Obj.cells #[Value.int IntKind.i64 a.kind, Value.string a.text, Value.int IntKind.i64 a.n] 23)).alloc (Obj.cells #[Value.int IntKind.i64 b.kind, Value.string b.text, Value.int IntKind.i64 b.n] 23)).alloc (Obj.cells #[Value.int IntKind.i64 d.kind, Value.string d.text, Value.int IntKind.i64 d.n] 23)) := ⟨_, rfl⟩
  have hA : Blk W (w.heap.size) 23 #[.int .i64 a.kind, .string a.text, .int .i64 a.n] := by rw [hW]; exact (((Blk.new _ _ _)).alloc _).alloc _
  have hB : Blk W (w.heap.size + 1) 23 #[.int .i64 b.kind, .string b.text, .int .i64 b.n] := by
    rw [hW]
    have := ((Blk.new (w.alloc (Obj.cells #[Value.int IntKind.i64 a.kind, Value.string a.text, Value.int IntKind.i64 a.n] 23)) 23 #[.int .i64 b.kind, .string b.text, .int .i64 b.n])).alloc (Obj.cells #[Value.int IntKind.i64 d.kind, Value.string d.text, Value.int IntKind.i64 d.n] 23)
    simpa using this
  have hC : Blk W (w.heap.size + 2) 23 #[.int .i64 d.kind, .string d.text, .int .i64 d.n] := by
    rw [hW]
    have := (Blk.new ((w.alloc (Obj.cells #[Value.int IntKind.i64 a.kind, Value.string a.text, Value.int IntKind.i64 a.n] 23)).alloc (Obj.cells #[Value.int IntKind.i64 b.kind, Value.string b.text, Value.int IntKind.i64 b.n] 23)) 23 #[.int .i64 d.kind, .string d.text, .int .i64 d.n])
    simpa using this
  have hB0 : Below w.heap.size w W := by rw [hW]; exact (((Below.refl _ _).alloc (Nat.le_refl _) _).alloc (by first | omega | (simp; done) | (simp; omega)) _).alloc (by first | omega | (simp; done) | (simp; omega)) _
  rw [← hW]
  clear hW
  have HA := Lib.hid hA
  have HB := Lib.hid hB
  have HC := Lib.hid hC
  have HB0 := Lib.hid hB0
  have hz0 := hB0.size
  clear hB0
  have hA := HA.out
  have yA0 : W.cell? ⟨w.heap.size, 0, none⟩ = some (.int .i64 a.kind) := (hA.cell 0).trans rfl
  have yA1 : W.cell? ⟨w.heap.size, 1, none⟩ = some (.string a.text) := (hA.cell 1).trans rfl
  have yA2 : W.cell? ⟨w.heap.size, 2, none⟩ = some (.int .i64 a.n) := (hA.cell 2).trans rfl
  have yAl := hA.lt
  clear hA
  have hB := HB.out
  have yB0 : W.cell? ⟨w.heap.size + 1, 0, none⟩ = some (.int .i64 b.kind) := (hB.cell 0).trans rfl
  have yB1 : W.cell? ⟨w.heap.size + 1, 1, none⟩ = some (.string b.text) := (hB.cell 1).trans rfl
  have yB2 : W.cell? ⟨w.heap.size + 1, 2, none⟩ = some (.int .i64 b.n) := (hB.cell 2).trans rfl
  have yBl := hB.lt
  clear hB
  have hC := HC.out
  have yC0 : W.cell? ⟨w.heap.size + 2, 0, none⟩ = some (.int .i64 d.kind) := (hC.cell 0).trans rfl
  have yC1 : W.cell? ⟨w.heap.size + 2, 1, none⟩ = some (.string d.text) := (hC.cell 1).trans rfl
  have yC2 : W.cell? ⟨w.heap.size + 2, 2, none⟩ = some (.int .i64 d.n) := (hC.cell 2).trans rfl
  have yCl := hC.lt
  clear hC
  refine wp_region_E (fun w9 => Below W.heap.size W w9) [(0, 1), (1, 1), (3, 1), (4, 1), (2, 2), (5, 2), (6, 0), (7, 0)] (by kernel_rfl) (by kernel_rfl) (fun KK hKK => ?_)
  simp only [beside, List.filterMap_cons, List.filterMap_nil, List.getElem?_toArray, List.getElem?_cons_zero, List.getElem?_cons_succ, Option.map_some]
  repeat (first | (refine wpX_w ?_ (Or.inl ⟨by rfl, fun w9 => ?_⟩) ?_; rotate_left 1; go_simp; with_reducible rfl; simp only [Act.put, List.setIfInBounds_toArray, List.set_cons_zero, List.set_cons_succ]) | (refine wpX_l ?_ (((Below.refl _ _).drew)) (Or.inl ⟨by rfl, fun w9 hw9 => ?_⟩) ?_; rotate_left 1; obtain ⟨hc9, hf9⟩ := bcell hw9; go_simp; with_reducible rfl; simp only [Act.put, List.setIfInBounds_toArray, List.set_cons_zero, List.set_cons_succ]) | (refine wpX_w undef (Or.inr ⟨by rfl, rfl⟩) ?_; simp only [Act.put, List.setIfInBounds_toArray, List.set_cons_zero, List.set_cons_succ]) | (refine wpX_l undef (((Below.refl _ _).drew)) (Or.inr ⟨by rfl, rfl⟩) ?_; simp only [Act.put, List.setIfInBounds_toArray, List.set_cons_zero, List.set_cons_succ]))
  refine wpX_es (fun K9 hK9 => ?_)
  go_simp
  refine (cmp_sym a b _).mono ?_
  rintro e w2 ⟨rfl, hb2⟩
  have HB2 := Lib.hid (((Below.refl W.heap.size W).drew).trans (hb2.mono (by first | omega | (simp; done) | (simp; omega))))
  have hz2 := HB2.out.size
  clear hb2
  refine hK9 _ _ HB2.out ?_
  clear hK9 K9
  refine wpX_es (fun K9 hK9 => ?_)
  go_simp
  refine (cmp_sym b a _).mono ?_
  rintro e w5 ⟨rfl, hb5⟩
  have HB5 := Lib.hid ((HB2.out).trans (hb5.mono (by first | omega | (simp; done) | (simp; omega))))
  have hz5 := HB5.out.size
  clear hb5
  refine hK9 _ _ HB5.out ?_
  clear hK9 K9
  repeat (first | (refine wpX_w ?_ (Or.inl ⟨by rfl, fun w9 => ?_⟩) ?_; rotate_left 1; go_simp; with_reducible rfl; simp only [Act.put, List.setIfInBounds_toArray, List.set_cons_zero, List.set_cons_succ]) | (refine wpX_l ?_ (HB2.out) (Or.inl ⟨by rfl, fun w9 hw9 => ?_⟩) ?_; rotate_left 1; obtain ⟨hc9, hf9⟩ := bcell hw9; go_simp; with_reducible rfl; simp only [Act.put, List.setIfInBounds_toArray, List.set_cons_zero, List.set_cons_succ]) | (refine wpX_w undef (Or.inr ⟨by rfl, rfl⟩) ?_; simp only [Act.put, List.setIfInBounds_toArray, List.set_cons_zero, List.set_cons_succ]) | (refine wpX_l undef (HB2.out) (Or.inr ⟨by rfl, rfl⟩) ?_; simp only [Act.put, List.setIfInBounds_toArray, List.set_cons_zero, List.set_cons_succ]))
  refine wpX_nil ?_
  simp only [OnlyN_normal]
  refine hKK _ _ ?_
  clear hKK KK
  have hA := HA.out.new_ HB5.out
  have pA0 : w5.cell? ⟨w.heap.size, 0, none⟩ = some (.int .i64 a.kind) := (hA.cell 0).trans rfl
  have pA1 : w5.cell? ⟨w.heap.size, 1, none⟩ = some (.string a.text) := (hA.cell 1).trans rfl
  have pA2 : w5.cell? ⟨w.heap.size, 2, none⟩ = some (.int .i64 a.n) := (hA.cell 2).trans rfl
  have pAl := hA.lt
  clear hA
  have hB := HB.out.new_ HB5.out
  have pB0 : w5.cell? ⟨w.heap.size + 1, 0, none⟩ = some (.int .i64 b.kind) := (hB.cell 0).trans rfl
  have pB1 : w5.cell? ⟨w.heap.size + 1, 1, none⟩ = some (.string b.text) := (hB.cell 1).trans rfl
  have pB2 : w5.cell? ⟨w.heap.size + 1, 2, none⟩ = some (.int .i64 b.n) := (hB.cell 2).trans rfl
  have pBl := hB.lt
  clear hB
  have hC := HC.out.new_ HB5.out
  have pC0 : w5.cell? ⟨w.heap.size + 2, 0, none⟩ = some (.int .i64 d.kind) := (hC.cell 0).trans rfl
  have pC1 : w5.cell? ⟨w.heap.size + 2, 1, none⟩ = some (.string d.text) := (hC.cell 1).trans rfl
  have pC2 : w5.cell? ⟨w.heap.size + 2, 2, none⟩ = some (.int .i64 d.n) := (hC.cell 2).trans rfl
  have pCl := hC.lt
  clear hC
  go_wp2_with fail
  refine (before_is a b _).mono ?_
  rintro e w6 ⟨rfl, hb6⟩
  have HB6 := Lib.hid (HB5.out.trans (hb6.mono (by first | omega | (simp; done) | (simp; omega))))
  clear hb6 pA0 pA1 pA2 pB0 pB1 pB2 pC0 pC1 pC2
  have hA := HA.out.new_ HB6.out
  have qA0 : w6.cell? ⟨w.heap.size, 0, none⟩ = some (.int .i64 a.kind) := (hA.cell 0).trans rfl
  have qA1 : w6.cell? ⟨w.heap.size, 1, none⟩ = some (.string a.text) := (hA.cell 1).trans rfl
  have qA2 : w6.cell? ⟨w.heap.size, 2, none⟩ = some (.int .i64 a.n) := (hA.cell 2).trans rfl
  have qAl := hA.lt
  clear hA
  have hB := HB.out.new_ HB6.out
  have qB0 : w6.cell? ⟨w.heap.size + 1, 0, none⟩ = some (.int .i64 b.kind) := (hB.cell 0).trans rfl
  have qB1 : w6.cell? ⟨w.heap.size + 1, 1, none⟩ = some (.string b.text) := (hB.cell 1).trans rfl
  have qB2 : w6.cell? ⟨w.heap.size + 1, 2, none⟩ = some (.int .i64 b.n) := (hB.cell 2).trans rfl
  have qBl := hB.lt
  clear hB
  have hC := HC.out.new_ HB6.out
  have qC0 : w6.cell? ⟨w.heap.size + 2, 0, none⟩ = some (.int .i64 d.kind) := (hC.cell 0).trans rfl
  have qC1 : w6.cell? ⟨w.heap.size + 2, 1, none⟩ = some (.string d.text) := (hC.cell 1).trans rfl
  have qC2 : w6.cell? ⟨w.heap.size + 2, 2, none⟩ = some (.int .i64 d.n) := (hC.cell 2).trans rfl
  have qCl := hC.lt
  clear hC
  rw [hbx]
  cases bx
  · go_wp2_with fail
    refine (wakes4_is _).mono ?_
    rintro e w9 ⟨rfl, hb9⟩
    have HB9 := Lib.hid ((HB0.out.trans (HB6.out.mono hz0)).trans (hb9.mono (by have := HB6.out.size; omega)))
    clear hb9
    go_wp2_with fail
    go_ret
    exact ⟨rfl, HB9.out⟩
  · go_wp2_with fail
    refine (cmp_sym b d _).mono ?_
    rintro e w7 ⟨rfl, hb7⟩
    have hz6 := HB6.out.size
    have HB7 := Lib.hid (HB6.out.trans (hb7.mono hz6))
    clear hb7 qA0 qA1 qA2 qB0 qB1 qB2 qC0 qC1 qC2
    have hA := HA.out.new_ HB7.out
    have rA0 : w7.cell? ⟨w.heap.size, 0, none⟩ = some (.int .i64 a.kind) := (hA.cell 0).trans rfl
    have rA1 : w7.cell? ⟨w.heap.size, 1, none⟩ = some (.string a.text) := (hA.cell 1).trans rfl
    have rA2 : w7.cell? ⟨w.heap.size, 2, none⟩ = some (.int .i64 a.n) := (hA.cell 2).trans rfl
    have rAl := hA.lt
    clear hA
    have hB := HB.out.new_ HB7.out
    have rB0 : w7.cell? ⟨w.heap.size + 1, 0, none⟩ = some (.int .i64 b.kind) := (hB.cell 0).trans rfl
    have rB1 : w7.cell? ⟨w.heap.size + 1, 1, none⟩ = some (.string b.text) := (hB.cell 1).trans rfl
    have rB2 : w7.cell? ⟨w.heap.size + 1, 2, none⟩ = some (.int .i64 b.n) := (hB.cell 2).trans rfl
    have rBl := hB.lt
    clear hB
    have hC := HC.out.new_ HB7.out
    have rC0 : w7.cell? ⟨w.heap.size + 2, 0, none⟩ = some (.int .i64 d.kind) := (hC.cell 0).trans rfl
    have rC1 : w7.cell? ⟨w.heap.size + 2, 1, none⟩ = some (.string d.text) := (hC.cell 1).trans rfl
    have rC2 : w7.cell? ⟨w.heap.size + 2, 2, none⟩ = some (.int .i64 d.n) := (hC.cell 2).trans rfl
    have rCl := hC.lt
    clear hC
    cases bb
    · go_wp2_with fail
      refine (wakes4_is _).mono ?_
      rintro e w9 ⟨rfl, hb9⟩
      have HB9 := Lib.hid ((HB0.out.trans (HB7.out.mono hz0)).trans (hb9.mono (by have := HB7.out.size; omega)))
      clear hb9
      go_wp2_with fail
      go_ret
      exact ⟨rfl, HB9.out⟩
    · have hbc := HNO.out (by simp) (by simp)
      go_wp2_with fail
      refine (cmp_sym a d _).mono ?_
      rintro e w8 ⟨rfl, hb8⟩
      have hz7 := HB7.out.size
      have HB8 := Lib.hid (HB7.out.trans (hb8.mono hz7))
      clear hb8 rA0 rA1 rA2 rB0 rB1 rB2 rC0 rC1 rC2
      go_wp2_with fail
      refine (wakes4_is _).mono ?_
      rintro e w9 ⟨rfl, hb9⟩
      have HB9 := Lib.hid ((HB0.out.trans (HB8.out.mono hz0)).trans (hb9.mono (by have := HB8.out.size; omega)))
      clear hb9
      go_wp2_with fail
      go_ret
      exact ⟨rfl, HB9.out⟩
end Go.Proofs.Ytlkffnmmphehdaa
