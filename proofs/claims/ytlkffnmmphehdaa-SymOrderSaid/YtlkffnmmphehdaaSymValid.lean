/-
  Which symbols are right, and their texts: what they are, and the walks of the functions that tell it: the program's and the document's own.
-/
import Derived.Test.YtlkffnmmphehdaaSymDigits
namespace Go.Proofs.Ytlkffnmmphehdaa
open Go.RowKit
def headB (f : UInt8 → Bool) (t : ByteArray) : Bool := t.data.toList.head?.any f
theorem headB_eq {f : UInt8 → Bool} {t : ByteArray} (h : 0 < t.size) : headB f t = f t[0] := by
  have hs : t.data.toList.length = t.size := Array.length_toList
  unfold headB
  rw [List.head?_eq_getElem?, List.getElem?_eq_getElem (by omega), Option.any_some, Array.getElem_toList]
  rfl
/-- Is a symbol right? -/
def validB (s : Sym) : Bool :=
  if s.kind = 1 then decide (s.text.size = 1) && headB greatB s.text && decide (1 ≤ s.n) && decide (s.n ≤ 1048576)
  else if s.kind = 2 then decide (s.text.toList = []) && decide (-2147483647 ≤ s.n) && decide (s.n ≤ 2147483647)
  else if s.kind = 3 then decide (s.n = 0) && isWord s.text else false
theorem ret_bool {a b : Bool} (h : a = b) : Ending.returned (.bool a) = .returned (.bool b) := by rw [h]

theorem validB_id {t : ByteArray} {n : Int} (h : validB ⟨1, t, n⟩ = true) : t.size = 1 ∧ headB greatB t = true ∧ 1 ≤ n ∧ n ≤ 1048576 := by
  simp only [validB, if_true, Bool.and_eq_true, decide_eq_true_eq] at h
  exact ⟨h.1.1.1, h.1.1.2, h.1.2, h.2⟩
theorem validB_int {t : ByteArray} {n : Int} (h : validB ⟨2, t, n⟩ = true) : t.toList = [] ∧ -2147483647 ≤ n ∧ n ≤ 2147483647 := by
  simp [validB] at h
  exact ⟨h.1.1, h.1.2, h.2⟩
theorem validB_kind {k n : Int} {t : ByteArray} (h : validB ⟨k, t, n⟩ = true) : k = 1 ∨ k = 2 ∨ k = 3 := by
  unfold validB at h
  dsimp only at h
  split at h
  · exact .inl ‹_›
  · split at h
    · exact .inr (.inl ‹_›)
    · split at h
      · exact .inr (.inr ‹_›)
      · cases h
/-- A right symbol's text. -/
def textB (s : Sym) : ByteArray := if validB s = true then (if s.kind = 1 then s.text ++ numB s.n else if s.kind = 2 then numB s.n else s.text) else ⟨#[]⟩
theorem numB_nat (k : Nat) : numB (k : Int) = decB k := by unfold numB; rw [if_neg (by omega)]; simp
theorem numB_neg (k : Nat) (h : 0 < k) : numB (-(k : Int)) = ⟨#[45]⟩ ++ decB k := by unfold numB; rw [if_pos (by omega)]; simp
theorem textB_no {s : Sym} (h : validB s = false) : textB s = ⟨#[]⟩ := by unfold textB; rw [h]; simp
set_option maxRecDepth 100000 in
set_option maxHeartbeats 4000000 in
theorem valid_is (s : Sym) (w : World) : Calls Try.prog 11 #[.agg #[.int .i64 s.kind, .string s.text, .int .i64 s.n]] w fun e w' => e = .returned (.bool (validB s)) ∧ Below w.heap.size w w' := by
  obtain ⟨k, t, n⟩ := s
  dsimp only
  by_cases k1 : k = 1
  · subst k1
    by_cases a1 : t.size = 1
    · have h0 : 0 < t.size := by omega
      have t1 : ((t.size : Int) == 1) = true := by simp; omega
      have HV := Lib.hid (show validB ⟨1, t, n⟩ = (greatB t[0] && decide (1 ≤ n) && decide (n ≤ 1048576)) by simp [validB, a1, headB_eq h0])
      go_enter Try.func11, Try.ntmps11
      go_wp2_with (go_at_call 37; refine (great_is _ _).mono ?_; rintro e w' ⟨rfl, rfl⟩)
      all_goals
        go_ret
        refine ⟨?_, (Below.refl _ _).alloc (Nat.le_refl _) _⟩
        rw [HV.out]
        first | rfl | (refine ret_bool ?_; simp_all [greatB]; done) | (refine ret_bool ?_; simp_all [greatB]; omega)
    · have t1 : ((t.size : Int) == 1) = false := by simp; omega
      have HV := Lib.hid (show validB ⟨1, t, n⟩ = false by simp [validB, a1])
      go_enter Try.func11, Try.ntmps11
      go_wp2_with fail
      all_goals
        go_ret
        refine ⟨?_, (Below.refl _ _).alloc (Nat.le_refl _) _⟩
        rw [HV.out]
        rfl
  · by_cases k2 : k = 2
    · subst k2
      have HV := Lib.hid (show validB ⟨2, t, n⟩ = (decide (t.toList = []) && decide (-2147483647 ≤ n) && decide (n ≤ 2147483647)) by simp [validB])
      clear k1
      go_enter Try.func11, Try.ntmps11
      go_wp2_with fail
      all_goals
        go_ret
        refine ⟨?_, (Below.refl _ _).alloc (Nat.le_refl _) _⟩
        rw [HV.out]
        first | rfl | (refine ret_bool ?_; simp_all [greatB]; done) | (refine ret_bool ?_; simp_all [greatB]; omega)
    · by_cases k3 : k = 3
      · subst k3
        have HV := Lib.hid (show validB ⟨3, t, n⟩ = (decide (n = 0) && isWord t) by simp [validB])
        clear k1 k2
        go_enter Try.func11, Try.ntmps11
        go_wp2_with (go_at_call 17; refine (word_is _ _).mono ?_; rintro e w' ⟨rfl, rfl⟩)
        all_goals
          go_ret
          refine ⟨?_, (Below.refl _ _).alloc (Nat.le_refl _) _⟩
          rw [HV.out]
          first | rfl | (refine ret_bool ?_; simp_all [greatB]; done) | (refine ret_bool ?_; simp_all [greatB]; omega)
      · have HV := Lib.hid (show validB ⟨k, t, n⟩ = false by simp [validB, k1, k2, k3])
        have t1 : (k == 1) = false := by simp [k1]
        have t2 : (k == 2) = false := by simp [k2]
        have t3 : (k == 3) = false := by simp [k3]
        clear k1 k2 k3
        go_enter Try.func11, Try.ntmps11
        go_wp2_with fail
        all_goals
          go_ret
          refine ⟨?_, (Below.refl _ _).alloc (Nat.le_refl _) _⟩
          rw [HV.out]
          rfl
set_option maxRecDepth 100000 in
set_option maxHeartbeats 4000000 in
theorem rvalid_is (s : Sym) (w : World) : Calls Try.prog 12 #[.agg #[.int .i64 s.kind, .string s.text, .int .i64 s.n]] w fun e w' => e = .returned (.bool (validB s)) ∧ Below w.heap.size w w' := by
  obtain ⟨k, t, n⟩ := s
  dsimp only
  by_cases k1 : k = 1
  · subst k1
    by_cases a1 : t.size = 1
    · have h0 : 0 < t.size := by omega
      have t1 : ((t.size : Int) == 1) = true := by simp; omega
      have HV := Lib.hid (show validB ⟨1, t, n⟩ = (greatB t[0] && decide (1 ≤ n) && decide (n ≤ 1048576)) by simp [validB, a1, headB_eq h0])
      go_enter Try.func12, Try.ntmps12
      go_wp2_with (fail)
      all_goals
        go_ret
        refine ⟨?_, (Below.refl _ _).alloc (Nat.le_refl _) _⟩
        rw [HV.out]
        first | rfl | (refine ret_bool ?_; simp_all [greatB]; done) | (refine ret_bool ?_; simp_all [greatB]; omega)
    · have t1 : ((t.size : Int) == 1) = false := by simp; omega
      have HV := Lib.hid (show validB ⟨1, t, n⟩ = false by simp [validB, a1])
      go_enter Try.func12, Try.ntmps12
      go_wp2_with fail
      all_goals
        go_ret
        refine ⟨?_, (Below.refl _ _).alloc (Nat.le_refl _) _⟩
        rw [HV.out]
        rfl
  · by_cases k2 : k = 2
    · subst k2
      have HV := Lib.hid (show validB ⟨2, t, n⟩ = (decide (t.toList = []) && decide (-2147483647 ≤ n) && decide (n ≤ 2147483647)) by simp [validB])
      clear k1
      go_enter Try.func12, Try.ntmps12
      go_wp2_with fail
      all_goals
        go_ret
        refine ⟨?_, (Below.refl _ _).alloc (Nat.le_refl _) _⟩
        rw [HV.out]
        first | rfl | (refine ret_bool ?_; simp_all [greatB]; done) | (refine ret_bool ?_; simp_all [greatB]; omega)
    · by_cases k3 : k = 3
      · subst k3
        have HV := Lib.hid (show validB ⟨3, t, n⟩ = (decide (n = 0) && isWord t) by simp [validB])
        clear k1 k2
        go_enter Try.func12, Try.ntmps12
        go_wp2_with (go_at_call 18; refine (rword_is _ _).mono ?_; rintro e w' ⟨rfl, rfl⟩)
        all_goals
          go_ret
          refine ⟨?_, (Below.refl _ _).alloc (Nat.le_refl _) _⟩
          rw [HV.out]
          first | rfl | (refine ret_bool ?_; simp_all [greatB]; done) | (refine ret_bool ?_; simp_all [greatB]; omega)
      · have HV := Lib.hid (show validB ⟨k, t, n⟩ = false by simp [validB, k1, k2, k3])
        have t1 : (k == 1) = false := by simp [k1]
        have t2 : (k == 2) = false := by simp [k2]
        have t3 : (k == 3) = false := by simp [k3]
        clear k1 k2 k3
        go_enter Try.func12, Try.ntmps12
        go_wp2_with fail
        all_goals
          go_ret
          refine ⟨?_, (Below.refl _ _).alloc (Nat.le_refl _) _⟩
          rw [HV.out]
          rfl

set_option maxRecDepth 100000 in
set_option maxHeartbeats 4000000 in
theorem text_is (s : Sym) (w : World) : Calls Try.prog 13 #[.agg #[.int .i64 s.kind, .string s.text, .int .i64 s.n]] w fun e w' => e = .returned (.string (textB s)) ∧ Below w.heap.size w w' := by
  cases hv : validB s
  · have HT := Lib.hid (textB_no hv)
    go_enter Try.func13, Try.ntmps13
    go_wp2_with fail
    refine (valid_is s _).mono ?_
    rintro e w1 ⟨rfl, hb1⟩
    have HB := Lib.hid (((Below.refl w.heap.size w).alloc (Nat.le_refl _) _).trans (hb1.mono (by simp)))
    clear hb1
    go_wp2_with fail
    go_ret
    exact ⟨by rw [HT.out] <;> rfl, HB.out⟩
  obtain ⟨k, t, n⟩ := s
  dsimp only
  have HT0 : Hid (textB ⟨k, t, n⟩ = if k = 1 then t ++ numB n else if k = 2 then numB n else t) := Lib.hid (by unfold textB; rw [hv]; rfl)
  rcases validB_kind hv with rfl | rfl | rfl
  · obtain ⟨h1, _, h3, h4⟩ := validB_id hv
    obtain ⟨m, rfl⟩ : ∃ m : Nat, n = (m : Int) := ⟨n.toNat, by omega⟩
    have HT := Lib.hid (show textB ⟨1, t, m⟩ = t ++ decB m by rw [HT0.out, numB_nat]; rfl)
    have hz : ¬ 9223372036854775807 < t.size + (decB m).size := by have := decB_size m; omega
    have hm : m ≤ 4000000000 := by omega
    clear h1 h3 h4 HT0
    go_enter Try.func13, Try.ntmps13
    go_wp2_with fail
    refine (valid_is ⟨1, t, m⟩ _).mono ?_
    rintro e w1 ⟨rfl, hb1⟩
    have hx1 := (Blk.new w 23 #[.int .i64 1, .string t, .int .i64 m]).new_ hb1
    have y0 := (hx1.cell 0).trans rfl
    have y1 := (hx1.cell 1).trans rfl
    have y2 := (hx1.cell 2).trans rfl
    have hxl := hx1.lt
    have HB := Lib.hid (((Below.refl w.heap.size w).alloc (Nat.le_refl _) _).trans (hb1.mono (by simp)))
    clear hb1 hx1
    go_wp2_with fail
    refine wp_region_E (fun w9 => Below w1.heap.size w1 w9) [(0, 0), (1, 1), (2, 0), (3, 1), (4, 2), (5, 0), (6, 0)] (by kernel_rfl) (by kernel_rfl) (fun KK hKK => ?_)
    simp only [beside, List.filterMap_cons, List.filterMap_nil, List.getElem?_toArray, List.getElem?_cons_zero, List.getElem?_cons_succ, Option.map_some]
    repeat (first | (refine wpX_w ?_ (Or.inl ⟨by rfl, fun w9 => ?_⟩) ?_; rotate_left 1; go_simp; with_reducible rfl; simp only [Act.put, List.setIfInBounds_toArray, List.set_cons_zero, List.set_cons_succ]) | (refine wpX_l ?_ (((Below.refl _ _).drew)) (Or.inl ⟨by rfl, fun w9 hw9 => ?_⟩) ?_; rotate_left 1; obtain ⟨hc9, hf9⟩ := bcell hw9; go_simp; with_reducible rfl; simp only [Act.put, List.setIfInBounds_toArray, List.set_cons_zero, List.set_cons_succ]) | (refine wpX_w undef (Or.inr ⟨by rfl, rfl⟩) ?_; simp only [Act.put, List.setIfInBounds_toArray, List.set_cons_zero, List.set_cons_succ]) | (refine wpX_l undef (((Below.refl _ _).drew)) (Or.inr ⟨by rfl, rfl⟩) ?_; simp only [Act.put, List.setIfInBounds_toArray, List.set_cons_zero, List.set_cons_succ]))
    refine wpX_es (fun K9 hK9 => ?_)
    go_simp
    refine (digits_is m hm _).mono ?_
    rintro e w2 ⟨rfl, hb2⟩
    have HB2 := Lib.hid ((Below.refl w1.heap.size w1).drew.trans (hb2.mono (by simp)))
    clear hb2
    refine hK9 _ _ HB2.out ?_
    clear hK9 K9
    repeat (first | (refine wpX_w ?_ (Or.inl ⟨by rfl, fun w9 => ?_⟩) ?_; rotate_left 1; go_simp; with_reducible rfl; simp only [Act.put, List.setIfInBounds_toArray, List.set_cons_zero, List.set_cons_succ]) | (refine wpX_l ?_ (HB2.out) (Or.inl ⟨by rfl, fun w9 hw9 => ?_⟩) ?_; rotate_left 1; obtain ⟨hc9, hf9⟩ := bcell hw9; go_simp; with_reducible rfl; simp only [Act.put, List.setIfInBounds_toArray, List.set_cons_zero, List.set_cons_succ]) | (refine wpX_w undef (Or.inr ⟨by rfl, rfl⟩) ?_; simp only [Act.put, List.setIfInBounds_toArray, List.set_cons_zero, List.set_cons_succ]) | (refine wpX_l undef (HB2.out) (Or.inr ⟨by rfl, rfl⟩) ?_; simp only [Act.put, List.setIfInBounds_toArray, List.set_cons_zero, List.set_cons_succ]))
    refine wpX_nil ?_
    simp only [OnlyN_normal]
    refine hKK _ _ ?_
    clear hKK KK
    go_wp2_with fail
    go_ret
    exact ⟨by rw [HT.out] <;> rfl, HB.out.trans (HB2.out.mono HB.out.size)⟩
  · obtain ⟨h1, h3, h4⟩ := validB_int hv
    by_cases hn : n < 0
    · obtain ⟨m, rfl⟩ : ∃ m : Nat, n = -(m : Int) := ⟨(-n).toNat, by omega⟩
      have HT := Lib.hid (show textB ⟨2, t, -(m : Int)⟩ = ⟨#[45]⟩ ++ decB m by rw [HT0.out, numB_neg m (by omega)]; rfl)
      have hz : ¬ 9223372036854775807 < 1 + (decB m).size := by have := decB_size m; omega
      have hz2 : ¬ 9223372036854775807 < (⟨#[45]⟩ : ByteArray).size + (decB m).size := by have := decB_size m; have e : (⟨#[45]⟩ : ByteArray).size = 1 := rfl; omega
      have hm : m ≤ 4000000000 := by omega
      have v1 : IntKind.i64.wrap (-(-(m : Int))) = (m : Int) := by rw [IntWalk.i64_in _ (by omega)]; omega
      have v2 : IntKind.i64.wrap (m : Int) = (m : Int) := IntWalk.i64_in _ (by omega)
      have t1 : decide (-(m : Int) < 0) = true := by simpa using hn
      clear h1 h3 h4 HT0
      go_enter Try.func13, Try.ntmps13
      go_wp2_with fail
      refine (valid_is ⟨2, t, -(m : Int)⟩ _).mono ?_
      rintro e w1 ⟨rfl, hb1⟩
      have hx1 := (Blk.new w 23 #[.int .i64 2, .string t, .int .i64 (-(m : Int))]).new_ hb1
      have y0 := (hx1.cell 0).trans rfl
      have y1 := (hx1.cell 1).trans rfl
      have y2 := (hx1.cell 2).trans rfl
      have HB := Lib.hid (((Below.refl w.heap.size w).alloc (Nat.le_refl _) _).trans (hb1.mono (by simp)))
      clear hb1 hx1
      go_wp2_with fail
      refine (digits_is m hm _).mono ?_
      rintro e w2 ⟨rfl, hb2⟩
      have HB2 := Lib.hid (HB.out.trans (hb2.mono HB.out.size))
      clear hb2
      go_wp2_with fail
      go_ret
      exact ⟨by rw [HT.out] <;> rfl, HB2.out⟩
    · obtain ⟨m, rfl⟩ : ∃ m : Nat, n = (m : Int) := ⟨n.toNat, by omega⟩
      have HT := Lib.hid (show textB ⟨2, t, m⟩ = decB m by rw [HT0.out, numB_nat]; rfl)
      have hm : m ≤ 4000000000 := by omega
      have t1 : decide ((m : Int) < 0) = false := by simp
      clear h1 h3 h4 HT0 hn
      go_enter Try.func13, Try.ntmps13
      go_wp2_with fail
      refine (valid_is ⟨2, t, m⟩ _).mono ?_
      rintro e w1 ⟨rfl, hb1⟩
      have hx1 := (Blk.new w 23 #[.int .i64 2, .string t, .int .i64 m]).new_ hb1
      have y0 := (hx1.cell 0).trans rfl
      have y1 := (hx1.cell 1).trans rfl
      have y2 := (hx1.cell 2).trans rfl
      have HB := Lib.hid (((Below.refl w.heap.size w).alloc (Nat.le_refl _) _).trans (hb1.mono (by simp)))
      clear hb1 hx1
      go_wp2_with fail
      refine (digits_is m hm _).mono ?_
      rintro e w2 ⟨rfl, hb2⟩
      have HB2 := Lib.hid (HB.out.trans (hb2.mono HB.out.size))
      clear hb2
      go_wp2_with fail
      go_ret
      exact ⟨by rw [HT.out] <;> rfl, HB2.out⟩
  · have HT := Lib.hid (show textB ⟨3, t, n⟩ = t by rw [HT0.out]; rfl)
    clear HT0
    go_enter Try.func13, Try.ntmps13
    go_wp2_with fail
    refine (valid_is ⟨3, t, n⟩ _).mono ?_
    rintro e w1 ⟨rfl, hb1⟩
    have hx1 := (Blk.new w 23 #[.int .i64 3, .string t, .int .i64 n]).new_ hb1
    have y0 := (hx1.cell 0).trans rfl
    have y1 := (hx1.cell 1).trans rfl
    have y2 := (hx1.cell 2).trans rfl
    have HB := Lib.hid (((Below.refl w.heap.size w).alloc (Nat.le_refl _) _).trans (hb1.mono (by simp)))
    clear hb1 hx1
    go_wp2_with fail
    go_ret
    exact ⟨by rw [HT.out] <;> rfl, HB.out⟩

set_option maxRecDepth 100000 in
set_option maxHeartbeats 4000000 in
theorem rtext_is (s : Sym) (w : World) : Calls Try.prog 14 #[.agg #[.int .i64 s.kind, .string s.text, .int .i64 s.n]] w fun e w' => e = .returned (.string (textB s)) ∧ Below w.heap.size w w' := by
  cases hv : validB s
  · have HT := Lib.hid (textB_no hv)
    go_enter Try.func14, Try.ntmps14
    go_wp2_with fail
    refine (rvalid_is s _).mono ?_
    rintro e w1 ⟨rfl, hb1⟩
    have HB := Lib.hid (((Below.refl w.heap.size w).alloc (Nat.le_refl _) _).trans (hb1.mono (by simp)))
    clear hb1
    go_wp2_with fail
    go_ret
    exact ⟨by rw [HT.out] <;> rfl, HB.out⟩
  obtain ⟨k, t, n⟩ := s
  dsimp only
  have HT0 : Hid (textB ⟨k, t, n⟩ = if k = 1 then t ++ numB n else if k = 2 then numB n else t) := Lib.hid (by unfold textB; rw [hv]; rfl)
  rcases validB_kind hv with rfl | rfl | rfl
  · obtain ⟨h1, _, h3, h4⟩ := validB_id hv
    obtain ⟨m, rfl⟩ : ∃ m : Nat, n = (m : Int) := ⟨n.toNat, by omega⟩
    have HT := Lib.hid (show textB ⟨1, t, m⟩ = t ++ numB (m : Int) by rw [HT0.out]; rfl)
    have hz : ¬ 9223372036854775807 < t.size + (numB (m : Int)).size := by rw [numB_nat]; have := decB_size m; omega
    have hm : (m : Int) ≤ 4000000000 := by omega
    clear h1 h3 h4 HT0
    go_enter Try.func14, Try.ntmps14
    go_wp2_with fail
    refine (rvalid_is ⟨1, t, m⟩ _).mono ?_
    rintro e w1 ⟨rfl, hb1⟩
    have hx1 := (Blk.new w 23 #[.int .i64 1, .string t, .int .i64 m]).new_ hb1
    have y0 := (hx1.cell 0).trans rfl
    have y1 := (hx1.cell 1).trans rfl
    have y2 := (hx1.cell 2).trans rfl
    have hxl := hx1.lt
    have HB := Lib.hid (((Below.refl w.heap.size w).alloc (Nat.le_refl _) _).trans (hb1.mono (by simp)))
    clear hb1 hx1
    go_wp2_with fail
    refine wp_region_E (fun w9 => Below w1.heap.size w1 w9) [(0, 0), (1, 1), (2, 0), (3, 1), (4, 2), (5, 0), (6, 0)] (by kernel_rfl) (by kernel_rfl) (fun KK hKK => ?_)
    simp only [beside, List.filterMap_cons, List.filterMap_nil, List.getElem?_toArray, List.getElem?_cons_zero, List.getElem?_cons_succ, Option.map_some]
    repeat (first | (refine wpX_w ?_ (Or.inl ⟨by rfl, fun w9 => ?_⟩) ?_; rotate_left 1; go_simp; with_reducible rfl; simp only [Act.put, List.setIfInBounds_toArray, List.set_cons_zero, List.set_cons_succ]) | (refine wpX_l ?_ (((Below.refl _ _).drew)) (Or.inl ⟨by rfl, fun w9 hw9 => ?_⟩) ?_; rotate_left 1; obtain ⟨hc9, hf9⟩ := bcell hw9; go_simp; with_reducible rfl; simp only [Act.put, List.setIfInBounds_toArray, List.set_cons_zero, List.set_cons_succ]) | (refine wpX_w undef (Or.inr ⟨by rfl, rfl⟩) ?_; simp only [Act.put, List.setIfInBounds_toArray, List.set_cons_zero, List.set_cons_succ]) | (refine wpX_l undef (((Below.refl _ _).drew)) (Or.inr ⟨by rfl, rfl⟩) ?_; simp only [Act.put, List.setIfInBounds_toArray, List.set_cons_zero, List.set_cons_succ]))
    refine wpX_es (fun K9 hK9 => ?_)
    go_simp
    refine (rnumber_is (m : Int) (by omega) hm _).mono ?_
    rintro e w2 ⟨rfl, hb2⟩
    have HB2 := Lib.hid ((Below.refl w1.heap.size w1).drew.trans (hb2.mono (by simp)))
    clear hb2
    refine hK9 _ _ HB2.out ?_
    clear hK9 K9
    repeat (first | (refine wpX_w ?_ (Or.inl ⟨by rfl, fun w9 => ?_⟩) ?_; rotate_left 1; go_simp; with_reducible rfl; simp only [Act.put, List.setIfInBounds_toArray, List.set_cons_zero, List.set_cons_succ]) | (refine wpX_l ?_ (HB2.out) (Or.inl ⟨by rfl, fun w9 hw9 => ?_⟩) ?_; rotate_left 1; obtain ⟨hc9, hf9⟩ := bcell hw9; go_simp; with_reducible rfl; simp only [Act.put, List.setIfInBounds_toArray, List.set_cons_zero, List.set_cons_succ]) | (refine wpX_w undef (Or.inr ⟨by rfl, rfl⟩) ?_; simp only [Act.put, List.setIfInBounds_toArray, List.set_cons_zero, List.set_cons_succ]) | (refine wpX_l undef (HB2.out) (Or.inr ⟨by rfl, rfl⟩) ?_; simp only [Act.put, List.setIfInBounds_toArray, List.set_cons_zero, List.set_cons_succ]))
    refine wpX_nil ?_
    simp only [OnlyN_normal]
    refine hKK _ _ ?_
    clear hKK KK
    go_wp2_with fail
    go_ret
    exact ⟨by rw [HT.out] <;> rfl, HB.out.trans (HB2.out.mono HB.out.size)⟩
  · obtain ⟨h1, h3, h4⟩ := validB_int hv
    have HT := Lib.hid (show textB ⟨2, t, n⟩ = numB n by rw [HT0.out]; rfl)
    have h5 : -4000000000 ≤ n := by omega
    have h6 : n ≤ 4000000000 := by omega
    clear h1 h3 h4 HT0
    go_enter Try.func14, Try.ntmps14
    go_wp2_with fail
    refine (rvalid_is ⟨2, t, n⟩ _).mono ?_
    rintro e w1 ⟨rfl, hb1⟩
    have hx1 := (Blk.new w 23 #[.int .i64 2, .string t, .int .i64 n]).new_ hb1
    have y0 := (hx1.cell 0).trans rfl
    have y1 := (hx1.cell 1).trans rfl
    have y2 := (hx1.cell 2).trans rfl
    have HB := Lib.hid (((Below.refl w.heap.size w).alloc (Nat.le_refl _) _).trans (hb1.mono (by simp)))
    clear hb1 hx1
    go_wp2_with fail
    refine (rnumber_is n h5 h6 _).mono ?_
    rintro e w2 ⟨rfl, hb2⟩
    have HB2 := Lib.hid (HB.out.trans (hb2.mono HB.out.size))
    clear hb2
    go_wp2_with fail
    go_ret
    exact ⟨by rw [HT.out] <;> rfl, HB2.out⟩
  · have HT := Lib.hid (show textB ⟨3, t, n⟩ = t by rw [HT0.out]; rfl)
    clear HT0
    go_enter Try.func14, Try.ntmps14
    go_wp2_with fail
    refine (rvalid_is ⟨3, t, n⟩ _).mono ?_
    rintro e w1 ⟨rfl, hb1⟩
    have hx1 := (Blk.new w 23 #[.int .i64 3, .string t, .int .i64 n]).new_ hb1
    have y0 := (hx1.cell 0).trans rfl
    have y1 := (hx1.cell 1).trans rfl
    have y2 := (hx1.cell 2).trans rfl
    have HB := Lib.hid (((Below.refl w.heap.size w).alloc (Nat.le_refl _) _).trans (hb1.mono (by simp)))
    clear hb1 hx1
    go_wp2_with fail
    go_ret
    exact ⟨by rw [HT.out] <;> rfl, HB.out⟩
end Go.Proofs.Ytlkffnmmphehdaa
