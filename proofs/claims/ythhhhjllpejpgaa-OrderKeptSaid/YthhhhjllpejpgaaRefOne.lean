/-
  The walks of the document's One and Before of elements.
-/
import Derived.Test.YthhhhjllpejpgaaRefBefore
import Derived.Test.YthhhhjllpejpgaaLeafElem
namespace Go.Proofs.Ythhhhjllpejpgaa
open Go.RowKit
theorem cmpElem_one {a b : Elem} : cmpElem a b = 0 ↔ a.id = b.id ∧ a.attr = b.attr ∧ a.value = b.value ∧ a.acc = b.acc := by
  have hb : ∀ x y : Bool, cmpBool x y = 0 ↔ x = y := by intro x y; cases x <;> cases y <;> simp [cmpBool]
  have hA : ∀ x y : Int, andThen x y = 0 ↔ x = 0 ∧ y = 0 := by intro x y; unfold andThen; split <;> omega
  unfold cmpElem
  rw [hA, hA, hA, cmpSym_eq, cmpSym_eq, cmpSym_eq, hb]
def oneE (a b : Elem) : Bool := decide (cmpElem a b = 0)
set_option maxRecDepth 100000 in
set_option maxHeartbeats 4000000 in
theorem one_is (a b : Elem) (w : World) : Calls Try.prog 70 #[.agg #[.int .i64 a.id.kind, .string a.id.text, .int .i64 a.id.n, .int .i64 a.attr.kind, .string a.attr.text, .int .i64 a.attr.n, .int .i64 a.value.kind, .string a.value.text, .int .i64 a.value.n, .bool a.acc, .bool a.goal, .int .i64 a.tag], .agg #[.int .i64 b.id.kind, .string b.id.text, .int .i64 b.id.n, .int .i64 b.attr.kind, .string b.attr.text, .int .i64 b.attr.n, .int .i64 b.value.kind, .string b.value.text, .int .i64 b.value.n, .bool b.acc, .bool b.goal, .int .i64 b.tag]] w fun e w' => e = .returned (.bool (oneE a b)) ∧ Below w.heap.size w w' := by
  by_cases h1 : a.id = b.id
  · have t1 : decide (a.id = b.id) = true := by simpa using h1
    have e1 := fun W => eql_sym a.id b.id W
    have n1 := fun W => neq_sym a.id b.id W
    simp only [t1] at e1 n1
    simp only [Bool.not_true, Bool.not_false] at n1
    by_cases h2 : a.attr = b.attr
    · have t2 : decide (a.attr = b.attr) = true := by simpa using h2
      have e2 := fun W => eql_sym a.attr b.attr W
      have n2 := fun W => neq_sym a.attr b.attr W
      simp only [t2] at e2 n2
      simp only [Bool.not_true, Bool.not_false] at n2
      by_cases h3 : a.value = b.value
      · have t3 : decide (a.value = b.value) = true := by simpa using h3
        have e3 := fun W => eql_sym a.value b.value W
        have n3 := fun W => neq_sym a.value b.value W
        simp only [t3] at e3 n3
        simp only [Bool.not_true, Bool.not_false] at n3
        by_cases h4 : a.acc = b.acc
        · have t4 : (a.acc == b.acc) = true := by simpa using h4
          have HR := Lib.hid (show oneE a b = true from decide_eq_true (cmpElem_one.2 ⟨h1, h2, h3, h4⟩))
          clear h1 h2 h3 h4
          go_enter Try.func70, Try.ntmps70
          go_wp2_with fail
          go_ret
          exact ⟨by rw [HR.out] <;> rfl, (((Below.refl w.heap.size w).alloc (Nat.le_refl _) _).alloc (by simp) _)⟩
        · have t4 : (a.acc == b.acc) = false := by simpa using h4
          have HR := Lib.hid (show oneE a b = false from decide_eq_false (fun h => h4 (cmpElem_one.1 h).2.2.2))
          clear h1 h2 h3 h4
          go_enter Try.func70, Try.ntmps70
          go_wp2_with fail
          go_ret
          exact ⟨by rw [HR.out] <;> rfl, (((Below.refl w.heap.size w).alloc (Nat.le_refl _) _).alloc (by simp) _)⟩
      · have t3 : decide (a.value = b.value) = false := by simpa using h3
        have e3 := fun W => eql_sym a.value b.value W
        have n3 := fun W => neq_sym a.value b.value W
        simp only [t3] at e3 n3
        simp only [Bool.not_true, Bool.not_false] at n3
        have HR := Lib.hid (show oneE a b = false from decide_eq_false (fun h => h3 (cmpElem_one.1 h).2.2.1))
        clear h1 h2 h3
        go_enter Try.func70, Try.ntmps70
        go_wp2_with fail
        go_ret
        exact ⟨by rw [HR.out] <;> rfl, (((Below.refl w.heap.size w).alloc (Nat.le_refl _) _).alloc (by simp) _)⟩
    · have t2 : decide (a.attr = b.attr) = false := by simpa using h2
      have e2 := fun W => eql_sym a.attr b.attr W
      have n2 := fun W => neq_sym a.attr b.attr W
      simp only [t2] at e2 n2
      simp only [Bool.not_true, Bool.not_false] at n2
      have HR := Lib.hid (show oneE a b = false from decide_eq_false (fun h => h2 (cmpElem_one.1 h).2.1))
      clear h1 h2
      go_enter Try.func70, Try.ntmps70
      go_wp2_with fail
      go_ret
      exact ⟨by rw [HR.out] <;> rfl, (((Below.refl w.heap.size w).alloc (Nat.le_refl _) _).alloc (by simp) _)⟩
  · have t1 : decide (a.id = b.id) = false := by simpa using h1
    have e1 := fun W => eql_sym a.id b.id W
    have n1 := fun W => neq_sym a.id b.id W
    simp only [t1] at e1 n1
    simp only [Bool.not_true, Bool.not_false] at n1
    have HR := Lib.hid (show oneE a b = false from decide_eq_false (fun h => h1 (cmpElem_one.1 h).1))
    clear h1
    go_enter Try.func70, Try.ntmps70
    go_wp2_with fail
    go_ret
    exact ⟨by rw [HR.out] <;> rfl, (((Below.refl w.heap.size w).alloc (Nat.le_refl _) _).alloc (by simp) _)⟩
set_option maxRecDepth 100000 in
set_option maxHeartbeats 4000000 in
theorem beforeE_is (a b : Elem) (w : World) : Calls Try.prog 73 #[.agg #[.int .i64 a.id.kind, .string a.id.text, .int .i64 a.id.n, .int .i64 a.attr.kind, .string a.attr.text, .int .i64 a.attr.n, .int .i64 a.value.kind, .string a.value.text, .int .i64 a.value.n, .bool a.acc, .bool a.goal, .int .i64 a.tag], .agg #[.int .i64 b.id.kind, .string b.id.text, .int .i64 b.id.n, .int .i64 b.attr.kind, .string b.attr.text, .int .i64 b.attr.n, .int .i64 b.value.kind, .string b.value.text, .int .i64 b.value.n, .bool b.acc, .bool b.goal, .int .i64 b.tag]] w fun e w' => e = .returned (.bool (decide (cmpElem a b < 0))) ∧ Below w.heap.size w w' := by
  have hA : ∀ x y : Int, andThen x y = if x = 0 then y else x := fun _ _ => rfl
  by_cases h1 : a.id = b.id
  · have t1 : decide (a.id = b.id) = true := by simpa using h1
    have e1 := fun W => eql_sym a.id b.id W
    have n1 := fun W => neq_sym a.id b.id W
    simp only [t1] at e1 n1
    simp only [Bool.not_true, Bool.not_false] at n1
    by_cases h2 : a.attr = b.attr
    · have t2 : decide (a.attr = b.attr) = true := by simpa using h2
      have e2 := fun W => eql_sym a.attr b.attr W
      have n2 := fun W => neq_sym a.attr b.attr W
      simp only [t2] at e2 n2
      simp only [Bool.not_true, Bool.not_false] at n2
      by_cases h3 : a.value = b.value
      · have t3 : decide (a.value = b.value) = true := by simpa using h3
        have e3 := fun W => eql_sym a.value b.value W
        have n3 := fun W => neq_sym a.value b.value W
        simp only [t3] at e3 n3
        simp only [Bool.not_true, Bool.not_false] at n3
        have HR := Lib.hid (show decide (cmpElem a b < 0) = decide (cmpBool a.acc b.acc < 0) by unfold cmpElem; rw [hA, if_pos (cmpSym_eq.2 h1), hA, if_pos (cmpSym_eq.2 h2), hA, if_pos (cmpSym_eq.2 h3)])
        obtain ⟨pa, hpa⟩ : ∃ pa, pa = a.acc := ⟨_, rfl⟩
        obtain ⟨pb, hpb⟩ : ∃ pb, pb = b.acc := ⟨_, rfl⟩
        rw [← hpa, ← hpb] at HR
        rw [← hpa, ← hpb]
        clear h1 h2 h3 hA hpa hpb
        cases pa <;> cases pb
        all_goals
          go_enter Try.func73, Try.ntmps73
          go_wp2_with fail
          go_ret
          exact ⟨by rw [HR.out] <;> rfl, (((Below.refl w.heap.size w).alloc (Nat.le_refl _) _).alloc (by simp) _)⟩
      · have t3 : decide (a.value = b.value) = false := by simpa using h3
        have e3 := fun W => eql_sym a.value b.value W
        have n3 := fun W => neq_sym a.value b.value W
        simp only [t3] at e3 n3
        simp only [Bool.not_true, Bool.not_false] at n3
        have HR := Lib.hid (show decide (cmpElem a b < 0) = decide (cmpSym a.value b.value < 0) by unfold cmpElem; rw [hA, if_pos (cmpSym_eq.2 h1), hA, if_pos (cmpSym_eq.2 h2), hA, if_neg (fun h => h3 (cmpSym_eq.1 h))])
        clear h1 h2 h3 hA
        go_enter Try.func73, Try.ntmps73
        go_wp2_with fail
        refine (before_is a.value b.value _).mono ?_
        rintro e w1 ⟨rfl, hb1⟩
        have HB1 := Lib.hid hb1
        clear hb1
        go_wp2_with fail
        go_ret
        exact ⟨by rw [HR.out] <;> rfl, ((((Below.refl w.heap.size w).alloc (Nat.le_refl _) _).alloc (by simp) _)).trans (HB1.out.mono (by simp; omega))⟩
    · have t2 : decide (a.attr = b.attr) = false := by simpa using h2
      have e2 := fun W => eql_sym a.attr b.attr W
      have n2 := fun W => neq_sym a.attr b.attr W
      simp only [t2] at e2 n2
      simp only [Bool.not_true, Bool.not_false] at n2
      have HR := Lib.hid (show decide (cmpElem a b < 0) = decide (cmpSym a.attr b.attr < 0) by unfold cmpElem; rw [hA, if_pos (cmpSym_eq.2 h1), hA, if_neg (fun h => h2 (cmpSym_eq.1 h))])
      clear h1 h2 hA
      go_enter Try.func73, Try.ntmps73
      go_wp2_with fail
      refine (before_is a.attr b.attr _).mono ?_
      rintro e w1 ⟨rfl, hb1⟩
      have HB1 := Lib.hid hb1
      clear hb1
      go_wp2_with fail
      go_ret
      exact ⟨by rw [HR.out] <;> rfl, ((((Below.refl w.heap.size w).alloc (Nat.le_refl _) _).alloc (by simp) _)).trans (HB1.out.mono (by simp; omega))⟩
  · have t1 : decide (a.id = b.id) = false := by simpa using h1
    have e1 := fun W => eql_sym a.id b.id W
    have n1 := fun W => neq_sym a.id b.id W
    simp only [t1] at e1 n1
    simp only [Bool.not_true, Bool.not_false] at n1
    have HR := Lib.hid (show decide (cmpElem a b < 0) = decide (cmpSym a.id b.id < 0) by unfold cmpElem; rw [hA, if_neg (fun h => h1 (cmpSym_eq.1 h))])
    clear h1 hA
    go_enter Try.func73, Try.ntmps73
    go_wp2_with fail
    refine (before_is a.id b.id _).mono ?_
    rintro e w1 ⟨rfl, hb1⟩
    have HB1 := Lib.hid hb1
    clear hb1
    go_wp2_with fail
    go_ret
    exact ⟨by rw [HR.out] <;> rfl, ((((Below.refl w.heap.size w).alloc (Nat.le_refl _) _).alloc (by simp) _)).trans (HB1.out.mono (by simp; omega))⟩
end Go.Proofs.Ythhhhjllpejpgaa
