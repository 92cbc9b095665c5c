/-
  The walk of the document's Sort of elements.
-/
import Derived.Test.YthhhhjllpejpgaaRefPutE
import Derived.Test.YthhhhjllpejpgaaKeepNeq
namespace Go.Proofs.Ythhhhjllpejpgaa
open Go.RowKit
theorem aputE {A A' : Option Addr} {n m m' : Nat} (h : AIn A (fun k => n ≤ k ∧ k < m)) (h' : A' = A ∨ AIn A' (fun k => m ≤ k ∧ k < m')) (hn : n ≤ m) (hm : m ≤ m') : AIn A' (fun k => n ≤ k ∧ k < m') := by
  rcases h' with rfl | h'
  · exact h.mono (fun k hk => ⟨hk.1, by omega⟩)
  · exact h'.mono (fun k hk => ⟨by omega, hk.2⟩)
set_option maxRecDepth 100000 in
set_option maxHeartbeats 8000000 in
theorem sortE_is (A : Option Addr) (c : Nat) (l : List Elem) (w : World) (hrd : RowRd w 12 Elem.cells A c l) (hl : (l.length : Int) ≤ 1000000) :
    Calls Try.prog 41 #[.slice A l.length c] w fun e w' => ∃ A' c', e = .returned (.slice A' (puts cmpElem [] l).length c') ∧ RowRd w' 12 Elem.cells A' c' (puts cmpElem [] l) ∧ AIn A' (fun k => w.heap.size ≤ k ∧ k < w'.heap.size) ∧ Below w.heap.size w w' := by
  have HRD := Lib.hid hrd
  have hlc := hrd.cap
  clear hrd
  go_enter Try.func41, Try.ntmps41
  go_wp2_with fail
  go_loopw [3, 4] (fun o s wr => ∃ i : Nat, ∃ P A' c', s = .int .i64 i ∧ i ≤ l.length ∧ P = puts cmpElem [] (l.take i) ∧ o = .slice A' P.length c' ∧ RowRd wr 12 Elem.cells A' c' P ∧ AIn A' (fun k => w.heap.size ≤ k ∧ k < wr.heap.size) ∧ Below w.heap.size w wr) (fun o s wr => l.length - (intOf s).toNat)
  case atStart => exact ⟨0, [], none, 0, rfl, Nat.zero_le _, rfl, rfl, RowRd.nil _ _ _, AIn.none_ _, Below.refl _ _⟩
  case round =>
    obtain ⟨i, P, A', c', rfl, hi, hP, rfl, hr, hA, hB⟩ := hrel
    have hs : Srt cmpElem P := by rw [hP]; exact Srt.puts tc_elem _ Srt.nil
    have hpl : P.length ≤ l.length := by rw [hP]; have := length_puts_le tc_elem (l.take i) (Srt.nil (cmp := cmpElem)); simp at this; omega
    have HP := Lib.hid hP
    have HR := Lib.hid hr
    have HS := Lib.hid hs
    have HA := Lib.hid hA
    have HB := Lib.hid hB
    have hzr := hB.size
    clear hP hr hs hA hB
    by_cases hlt : i < l.length
    · have g1 : decide ((i : Int) < (l.length : Int)) = true := by simpa using hlt
      have b1 : (0 : Int) ≤ (i : Int) := by omega
      have b2 : (i : Int) < (l.length : Int) := by omega
      obtain ⟨x, hx⟩ : ∃ x, x = l[i] := ⟨_, rfl⟩
      obtain ⟨g, off, rfl, hgs, q0, q1, q2, q3, q4, q5, q6, q7, q8, q9, q10, q11⟩ := elem_rd (HRD.out.new_ HB.out) hlt
      rw [← hx] at q0 q1 q2 q3 q4 q5 q6 q7 q8 q9 q10 q11
      have HX := Lib.hid hx
      clear hx
      go_wp2_with fail
      refine (rputE_is A' c' P x _ HR.out HS.out (by omega)).mono ?_
      rintro e w1 ⟨A2, c2, rfl, hr2, hA2, hB2⟩
      have hz2 := hB2.size
      have HA2 := Lib.hid (aputE HA.out hA2 hzr hz2)
      have HR2 := Lib.hid hr2
      have HB2 := Lib.hid (HB.out.trans (hB2.mono hzr))
      have HST := Lib.hid (show put cmpElem P x = puts cmpElem [] (l.take (i + 1)) by rw [HP.out, HX.out, take_snocE hlt, puts_snoc])
      clear hr2 hA2 hB2 q0 q1 q2 q3 q4 q5 q6 q7 q8 q9 q10 q11
      go_wp2_with fail
      go_roundw
      case rel => exact ⟨i + 1, _, A2, c2, by go_num, by omega, HST.out, rfl, HR2.out, HA2.out, HB2.out⟩
      case measure => simp [intOf] <;> omega
    · have hie : i = l.length := by omega
      subst hie
      have g1 : decide ((l.length : Int) < (l.length : Int)) = false := by simp
      go_wp2_with fail
      go_ret
      have e := HP.out
      rw [List.take_length] at e
      subst e
      exact ⟨_, _, rfl, HR.out, HA.out, HB.out⟩
end Go.Proofs.Ythhhhjllpejpgaa
