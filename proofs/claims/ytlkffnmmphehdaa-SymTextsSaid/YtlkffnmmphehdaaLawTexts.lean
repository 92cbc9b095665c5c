/-
  The law on right symbols and their texts: its walk.
-/
import Derived.Test.YtlkffnmmphehdaaTabWakes
namespace Go.Proofs.Ytlkffnmmphehdaa
open Go.RowKit
set_option maxRecDepth 100000 in
set_option maxHeartbeats 4000000 in
theorem texts_walk (s : Sym) (w : World) : Calls Try.prog 3 #[.agg #[.int .i64 s.kind, .string s.text, .int .i64 s.n]] w fun e w' => e = .returned (.bool true) ∧ Below w.heap.size w w' := by
  by_cases h1 : 200 < s.text.size
  · have t1 : decide ((200 : Int) < (s.text.size : Int)) = true := by simp; omega
    clear h1
    go_enter Try.func3, Try.ntmps3
    go_wp2_with fail
    refine (wakes4_is _).mono ?_
    rintro e w1 ⟨rfl, hb1⟩
    have HB1 := Lib.hid (((Below.refl w.heap.size w).alloc (Nat.le_refl _) _).trans (hb1.mono (by simp)))
    clear hb1
    go_wp2_with fail
    go_ret
    exact ⟨rfl, HB1.out⟩
  have t1 : decide ((200 : Int) < (s.text.size : Int)) = false := by simp; omega
  clear h1
  go_enter Try.func3, Try.ntmps3
  go_wp2_with fail
  obtain ⟨W, hW⟩ : ∃ W, W = w.alloc (Obj.cells #[Value.int IntKind.i64 s.kind, Value.string s.text, Value.int IntKind.i64 s.n] 23) := ⟨_, rfl⟩
  have hX : Blk W w.heap.size 23 #[.int .i64 s.kind, .string s.text, .int .i64 s.n] := by rw [hW]; exact Blk.new _ _ _
  have hB0 : Below w.heap.size w W := by rw [hW]; exact (Below.refl _ _).alloc (Nat.le_refl _) _
  rw [← hW]
  clear hW t1
  have y0 := (hX.cell 0).trans rfl
  have y1 := (hX.cell 1).trans rfl
  have y2 := (hX.cell 2).trans rfl
  have hxl := hX.lt
  have HB0 := Lib.hid hB0
  clear hX hB0
  refine wp_region_E (fun w9 => Below W.heap.size W w9) [(0, 1), (2, 1), (1, 2), (3, 2), (4, 0), (5, 0), (6, 1), (8, 1), (7, 2), (9, 2), (10, 0), (11, 0), (12, 0), (13, 2), (14, 0), (15, 0)] (by kernel_rfl) (by kernel_rfl) (fun KK hKK => ?_)
  simp only [beside, List.filterMap_cons, List.filterMap_nil, List.getElem?_toArray, List.getElem?_cons_zero, List.getElem?_cons_succ, Option.map_some]
  repeat (first | (refine wpX_w ?_ (Or.inl ⟨by rfl, fun w9 => ?_⟩) ?_; rotate_left 1; go_simp; with_reducible rfl; simp only [Act.put, List.setIfInBounds_toArray, List.set_cons_zero, List.set_cons_succ]) | (refine wpX_l ?_ (((Below.refl _ _).drew)) (Or.inl ⟨by rfl, fun w9 hw9 => ?_⟩) ?_; rotate_left 1; obtain ⟨hc9, hf9⟩ := bcell hw9; go_simp; with_reducible rfl; simp only [Act.put, List.setIfInBounds_toArray, List.set_cons_zero, List.set_cons_succ]) | (refine wpX_w undef (Or.inr ⟨by rfl, rfl⟩) ?_; simp only [Act.put, List.setIfInBounds_toArray, List.set_cons_zero, List.set_cons_succ]) | (refine wpX_l undef (((Below.refl _ _).drew)) (Or.inr ⟨by rfl, rfl⟩) ?_; simp only [Act.put, List.setIfInBounds_toArray, List.set_cons_zero, List.set_cons_succ]))
  refine wpX_es (fun K9 hK9 => ?_)
  go_simp
  refine (valid_is s _).mono ?_
  rintro e w1 ⟨rfl, hb1⟩
  have HB1 := Lib.hid (((Below.refl W.heap.size W).drew).trans (hb1.mono (by first | omega | (simp; done) | (simp; omega))))
  have hz1 := HB1.out.size
  clear hb1
  refine hK9 _ _ HB1.out ?_
  clear hK9 K9
  refine wpX_es (fun K9 hK9 => ?_)
  go_simp
  refine (rvalid_is s _).mono ?_
  rintro e w3 ⟨rfl, hb3⟩
  have HB3 := Lib.hid ((HB1.out).trans (hb3.mono (by first | omega | (simp; done) | (simp; omega))))
  have hz3 := HB3.out.size
  clear hb3
  refine hK9 _ _ HB3.out ?_
  clear hK9 K9
  repeat (first | (refine wpX_w ?_ (Or.inl ⟨by rfl, fun w9 => ?_⟩) ?_; rotate_left 1; go_simp; with_reducible rfl; simp only [Act.put, List.setIfInBounds_toArray, List.set_cons_zero, List.set_cons_succ]) | (refine wpX_l ?_ (HB3.out) (Or.inl ⟨by rfl, fun w9 hw9 => ?_⟩) ?_; rotate_left 1; obtain ⟨hc9, hf9⟩ := bcell hw9; go_simp; with_reducible rfl; simp only [Act.put, List.setIfInBounds_toArray, List.set_cons_zero, List.set_cons_succ]) | (refine wpX_w undef (Or.inr ⟨by rfl, rfl⟩) ?_; simp only [Act.put, List.setIfInBounds_toArray, List.set_cons_zero, List.set_cons_succ]) | (refine wpX_l undef (HB3.out) (Or.inr ⟨by rfl, rfl⟩) ?_; simp only [Act.put, List.setIfInBounds_toArray, List.set_cons_zero, List.set_cons_succ]))
  refine wpX_es (fun K9 hK9 => ?_)
  go_simp
  refine (text_is s _).mono ?_
  rintro e w7 ⟨rfl, hb7⟩
  have HB7 := Lib.hid ((HB3.out).trans (hb7.mono (by first | omega | (simp; done) | (simp; omega))))
  have hz7 := HB7.out.size
  clear hb7
  refine hK9 _ _ HB7.out ?_
  clear hK9 K9
  refine wpX_es (fun K9 hK9 => ?_)
  go_simp
  refine (rtext_is s _).mono ?_
  rintro e w9 ⟨rfl, hb9⟩
  have HB9 := Lib.hid ((HB7.out).trans (hb9.mono (by first | omega | (simp; done) | (simp; omega))))
  have hz9 := HB9.out.size
  clear hb9
  refine hK9 _ _ HB9.out ?_
  clear hK9 K9
  repeat (first | (refine wpX_w ?_ (Or.inl ⟨by rfl, fun w9 => ?_⟩) ?_; rotate_left 1; go_simp; with_reducible rfl; simp only [Act.put, List.setIfInBounds_toArray, List.set_cons_zero, List.set_cons_succ]) | (refine wpX_l ?_ (HB9.out) (Or.inl ⟨by rfl, fun w9 hw9 => ?_⟩) ?_; rotate_left 1; obtain ⟨hc9, hf9⟩ := bcell hw9; go_simp; with_reducible rfl; simp only [Act.put, List.setIfInBounds_toArray, List.set_cons_zero, List.set_cons_succ]) | (refine wpX_w undef (Or.inr ⟨by rfl, rfl⟩) ?_; simp only [Act.put, List.setIfInBounds_toArray, List.set_cons_zero, List.set_cons_succ]) | (refine wpX_l undef (HB9.out) (Or.inr ⟨by rfl, rfl⟩) ?_; simp only [Act.put, List.setIfInBounds_toArray, List.set_cons_zero, List.set_cons_succ]))
  refine wpX_es (fun K9 hK9 => ?_)
  go_simp
  refine (wakes4_is _).mono ?_
  rintro e w13 ⟨rfl, hb13⟩
  have HB13 := Lib.hid ((HB9.out).trans (hb13.mono (by first | omega | (simp; done) | (simp; omega))))
  have hz13 := HB13.out.size
  clear hb13
  refine hK9 _ _ HB13.out ?_
  clear hK9 K9
  repeat (first | (refine wpX_w ?_ (Or.inl ⟨by rfl, fun w9 => ?_⟩) ?_; rotate_left 1; go_simp; with_reducible rfl; simp only [Act.put, List.setIfInBounds_toArray, List.set_cons_zero, List.set_cons_succ]) | (refine wpX_l ?_ (HB13.out) (Or.inl ⟨by rfl, fun w9 hw9 => ?_⟩) ?_; rotate_left 1; obtain ⟨hc9, hf9⟩ := bcell hw9; go_simp; with_reducible rfl; simp only [Act.put, List.setIfInBounds_toArray, List.set_cons_zero, List.set_cons_succ]) | (refine wpX_w undef (Or.inr ⟨by rfl, rfl⟩) ?_; simp only [Act.put, List.setIfInBounds_toArray, List.set_cons_zero, List.set_cons_succ]) | (refine wpX_l undef (HB13.out) (Or.inr ⟨by rfl, rfl⟩) ?_; simp only [Act.put, List.setIfInBounds_toArray, List.set_cons_zero, List.set_cons_succ]))
  refine wpX_nil ?_
  simp only [OnlyN_normal]
  refine hKK _ _ ?_
  clear hKK KK
  go_wp2_with fail
  go_ret
  exact ⟨rfl, HB0.out.trans (HB13.out.mono HB0.out.size)⟩
end Go.Proofs.Ytlkffnmmphehdaa
