/-
  The walk of the comparison of two lists of elements.
-/
import Derived.Test.YthhhhjllpejpgaaKeepNeq
namespace Go.Proofs.Ythhhhjllpejpgaa
open Go.RowKit
set_option maxRecDepth 100000 in
set_option maxHeartbeats 4000000 in
theorem elems_is (A B : Option Addr) (c d : Nat) (l m : List Elem) (w : World) (hl : RowRd w 12 Elem.cells A c l) (hm : RowRd w 12 Elem.cells B d m) :
    Calls Try.prog 42 #[.slice A l.length c, .slice B m.length d] w fun e w' => e = .returned (.bool (decide (l = m))) ∧ Below w.heap.size w w' := by
  have HL := Lib.hid hl
  have HM := Lib.hid hm
  have hlc := hl.cap
  clear hl hm
  by_cases hlm : l.length = m.length
  · have t1 : ((l.length : Int) != (m.length : Int)) = false := by simp; omega
    have HLM := Lib.hid hlm
    clear hlm
    go_enter Try.func42, Try.ntmps42
    go_wp2_with fail
    go_loopw [5] (fun s wr => ∃ i : Nat, s = .int .i64 i ∧ i ≤ l.length ∧ (∀ k, (h : k < l.length) → (h' : k < m.length) → k < i → l[k] = m[k]) ∧ Below w.heap.size w wr) (fun s wr => l.length - (intOf s).toNat)
    case atStart => exact ⟨0, rfl, Nat.zero_le _, fun k _ _ h => absurd h (by omega), Below.refl _ _⟩
    case round =>
      obtain ⟨i, rfl, hi, hall, hB⟩ := hrel
      have HALL := Lib.hid hall
      have HB := Lib.hid hB
      clear hall hB
      by_cases hlt : i < l.length
      · have hlt2 : i < m.length := by have := HLM.out; omega
        obtain ⟨x, hx⟩ : ∃ x, x = l[i] := ⟨_, rfl⟩
        obtain ⟨y, hy⟩ : ∃ y, y = m[i] := ⟨_, rfl⟩
        obtain ⟨g, off, rfl, hgs, q0, q1, q2, q3, q4, q5, q6, q7, q8, q9, q10, q11⟩ := elem_rd (HL.out.new_ HB.out) hlt
        obtain ⟨g2, off2, rfl, hgs2, p0, p1, p2, p3, p4, p5, p6, p7, p8, p9, p10, p11⟩ := elem_rd (HM.out.new_ HB.out) hlt2
        rw [← hx] at q0 q1 q2 q3 q4 q5 q6 q7 q8 q9 q10 q11
        rw [← hy] at p0 p1 p2 p3 p4 p5 p6 p7 p8 p9 p10 p11
        have b1 : (0 : Int) ≤ (i : Int) := by omega
        have b2 : (i : Int) < (l.length : Int) := by omega
        have b3 : (i : Int) < (m.length : Int) := by omega
        have HX := Lib.hid hx
        have HY := Lib.hid hy
        clear hx hy
        have hbe := fun W => neq_elem x y W
        by_cases he : x = y
        · have HE := Lib.hid he
          have t2 : decide (x = y) = true := by simpa using he
          simp only [t2, Bool.not_true] at hbe
          clear he
          go_wp2_with fail
          go_quiet (fail)
          have HB2 := Lib.hid (Below.drewN' HB.out nq)
          clear q0 q1 q2 q3 q4 q5 q6 q7 q8 q9 q10 q11 p0 p1 p2 p3 p4 p5 p6 p7 p8 p9 p10 p11
          go_wp2_with fail
          go_roundw
          case rel =>
            refine ⟨i + 1, by go_num, by omega, fun k h h' hk => ?_, HB2.out⟩
            rcases Nat.lt_or_ge k i with h3 | h3
            · exact HALL.out k h h' h3
            · obtain rfl : k = i := by omega
              rw [← HX.out, ← HY.out]
              exact HE.out
          case measure => simp [intOf] <;> omega
        · have HE := Lib.hid he
          have t2 : decide (x = y) = false := by simpa using he
          simp only [t2, Bool.not_false] at hbe
          clear he
          go_wp2_with fail
          go_quiet (fail)
          have HB2 := Lib.hid (Below.drewN' HB.out nq)
          clear q0 q1 q2 q3 q4 q5 q6 q7 q8 q9 q10 q11 p0 p1 p2 p3 p4 p5 p6 p7 p8 p9 p10 p11
          go_wp2_with fail
          go_ret
          refine ⟨?_, HB2.out⟩
          have : l ≠ m := by
            rintro rfl
            exact HE.out (HX.out.trans HY.out.symm)
          rw [decide_eq_false this]; rfl
      · have hie : i = l.length := by omega
        subst hie
        go_wp2_with fail
        go_ret
        refine ⟨?_, HB.out⟩
        have : l = m := List.ext_getElem HLM.out (fun k h h' => HALL.out k h h' h)
        rw [decide_eq_true this]; rfl
  · have t1 : ((l.length : Int) != (m.length : Int)) = true := by simp; omega
    have HLM := Lib.hid hlm
    clear hlm
    go_enter Try.func42, Try.ntmps42
    go_wp2_with fail
    go_ret
    refine ⟨?_, Below.refl _ _⟩
    have : l ≠ m := fun e => HLM.out (by rw [e])
    rw [decide_eq_false this]; rfl
end Go.Proofs.Ythhhhjllpejpgaa
