/-
  Numbers read: what the digits of a text say, and the walks of the functions that read them: the program's and the document's own.
-/
import Derived.Test.YtlkffnmmphehdaaSymValid
namespace Go.Proofs.Ytlkffnmmphehdaa
open Go.RowKit
/-- What digits say. -/
def val (l : List UInt8) : Nat := l.foldl (fun n c => 10 * n + (c.toNat - 48)) 0
theorem val_snoc (l : List UInt8) (c : UInt8) : val (l ++ [c]) = 10 * val l + (c.toNat - 48) := by simp [val]
theorem fold_lt : ∀ (l : List UInt8) (a : Nat), (∀ c ∈ l, digitB c = true) → l.foldl (fun n c => 10 * n + (c.toNat - 48)) a < (a + 1) * 10 ^ l.length
  | [], a, _ => by simp
  | c :: l, a, h => by
    have h2 := h c (by simp)
    simp only [digitB, Bool.and_eq_true, decide_eq_true_eq] at h2
    have h1 := fold_lt l (10 * a + (c.toNat - 48)) (fun x hx => h x (by simp [hx]))
    rw [List.foldl_cons, List.length_cons, Nat.pow_succ]
    refine Nat.lt_of_lt_of_le h1 ?_
    have h3 : 10 * a + (c.toNat - 48) + 1 ≤ (a + 1) * 10 := by omega
    calc (10 * a + (c.toNat - 48) + 1) * 10 ^ l.length ≤ ((a + 1) * 10) * 10 ^ l.length := Nat.mul_le_mul_right _ h3
      _ = (a + 1) * (10 ^ l.length * 10) := by rw [Nat.mul_assoc, Nat.mul_comm 10]
theorem val_lt (l : List UInt8) (h : ∀ c ∈ l, digitB c = true) : val l < 10 ^ l.length := by
  have := fold_lt l 0 h
  simpa [val] using this
/-- Digits without a nought ahead, one to ten. -/
def goodNum (t : ByteArray) : Bool := decide (1 ≤ t.size) && decide (t.size ≤ 10) && !(headB (fun c => c.toNat == 48) t && decide (1 < t.size)) && t.data.toList.all digitB
def tval (t : ByteArray) : Nat := val t.data.toList
theorem allDig_iff {t : ByteArray} : t.data.toList.all digitB = true ↔ ∀ k, (h : k < t.size) → digitB t[k] = true := by
  rw [List.all_eq_true]
  have hs : t.data.toList.length = t.size := Array.length_toList
  constructor
  · intro h k hk
    have e : t[k] = t.data.toList[k]'(by omega) := by rw [Array.getElem_toList]; rfl
    rw [e]; exact h _ (List.getElem_mem _)
  · intro h x hx
    obtain ⟨k, hk, rfl⟩ := List.getElem_of_mem hx
    have := h k (by omega)
    rw [Array.getElem_toList]; exact this
theorem good_yes {t : ByteArray} (h1 : 0 < t.size) (h2 : t.size ≤ 10) (h3 : ¬ (t[0].toNat = 48 ∧ 1 < t.size)) (h4 : ∀ k, (h : k < t.size) → digitB t[k] = true) : goodNum t = true := by
  unfold goodNum
  rw [allDig_iff.2 h4, headB_eq h1, decide_eq_true (show 1 ≤ t.size from h1), decide_eq_true h2]
  simp only [Bool.true_and, Bool.and_true, Bool.not_eq_true', Bool.and_eq_false_iff, decide_eq_false_iff_not, beq_eq_false_iff_ne]
  by_cases e : t[0].toNat = 48
  · exact .inr (fun h => h3 ⟨e, h⟩)
  · exact .inl e
theorem good_no {t : ByteArray} (h : t.size < 1 ∨ 10 < t.size ∨ (∃ h : 0 < t.size, t[0].toNat = 48 ∧ 1 < t.size) ∨ ∃ k, ∃ h : k < t.size, digitB t[k] = false) : goodNum t = false := by
  cases e : goodNum t
  · rfl
  · unfold goodNum at e
    simp only [Bool.and_eq_true, decide_eq_true_eq, Bool.not_eq_true'] at e
    obtain ⟨⟨⟨h1, h2⟩, h3⟩, h4⟩ := e
    have h5 := allDig_iff.1 h4
    rcases h with h | h | ⟨h0, h6, h7⟩ | ⟨k, hk, h6⟩
    · omega
    · omega
    · rw [headB_eq h0, decide_eq_true h7] at h3
      simp [h6] at h3
    · rw [h5 k hk] at h6; cases h6
theorem take_byte (t : ByteArray) (k : Nat) (h : k < t.size) : t.data.toList.take (k + 1) = t.data.toList.take k ++ [t[k]] := by
  have hs : t.data.toList.length = t.size := Array.length_toList
  rw [List.take_succ_eq_append_getElem (by omega), Array.getElem_toList]; rfl
theorem val_take_lt {t : ByteArray} {k : Nat} (hk : k ≤ t.size) (h : ∀ j, (hj : j < t.size) → j < k → digitB t[j] = true) : val (t.data.toList.take k) < 10 ^ k := by
  have hs : t.data.toList.length = t.size := Array.length_toList
  have := val_lt (t.data.toList.take k) (fun c hc => by
    obtain ⟨j, hj, rfl⟩ := List.getElem_of_mem hc
    simp only [List.length_take] at hj
    have h2 := h j (by omega) (by omega)
    rw [List.getElem_take, Array.getElem_toList]; exact h2)
  rwa [List.length_take, Nat.min_eq_left (by omega)] at this
theorem pow_le_ten {k : Nat} (h : k ≤ 10) : 10 ^ k ≤ 10000000000 := by
  have := Nat.pow_le_pow_right (show 0 < 10 by omega) h
  exact this
/-- What 'number' answers. -/
def numRes (t : ByteArray) (most : Int) : Value := .tuple #[.int .i64 ((if goodNum t = true then tval t else 0 : Nat) : Int), .bool (goodNum t && decide ((tval t : Int) ≤ most))]
theorem numRes_no {t : ByteArray} {most : Int} (h : goodNum t = false) : numRes t most = .tuple #[.int .i64 0, .bool false] := by unfold numRes; rw [h]; rfl
theorem numRes_yes {t : ByteArray} {most : Int} (h : goodNum t = true) : numRes t most = .tuple #[.int .i64 (tval t : Int), .bool (decide ((tval t : Int) ≤ most))] := by unfold numRes; rw [h]; rfl
theorem ret_num {a b : Int} {c d : Bool} (h : a = b) (h2 : c = d) : Ending.returned (.tuple #[.int .i64 a, .bool c]) = .returned (.tuple #[.int .i64 b, .bool d]) := by rw [h, h2]

set_option maxRecDepth 100000 in
set_option maxHeartbeats 4000000 in
theorem number_is (t : ByteArray) (most : Int) (w : World) : Calls Try.prog 40 #[.string t, .int .i64 most] w fun e w' => e = .returned (numRes t most) ∧ w = w' := by
  by_cases h1 : t.size < 1
  · have t1 : decide ((t.size : Int) < 1) = true := by simp; omega
    have HG := Lib.hid (good_no (t := t) (.inl h1))
    clear h1
    go_enter Try.func40, Try.ntmps40
    go_wp2
    go_ret2
    exact ⟨by rw [numRes_no HG.out] <;> rfl, rfl⟩
  have t1 : decide ((t.size : Int) < 1) = false := by simp; omega
  by_cases h2 : 10 < t.size
  · have t2 : decide ((10 : Int) < (t.size : Int)) = true := by simp; omega
    have HG := Lib.hid (good_no (t := t) (.inr (.inl h2)))
    clear h1 h2
    go_enter Try.func40, Try.ntmps40
    go_wp2
    go_ret2
    exact ⟨by rw [numRes_no HG.out] <;> rfl, rfl⟩
  have t2 : decide ((10 : Int) < (t.size : Int)) = false := by simp; omega
  have h0 : 0 < t.size := by omega
  have h2 : t.size ≤ 10 := by omega
  clear h1
  have hgo : ∀ (a1 a2 : Bool), ((t[0].toNat : Int) == 48) = a1 → decide ((1 : Int) < (t.size : Int)) = a2 → (a1 && a2) = false → Calls Try.prog 40 #[.string t, .int .i64 most] w fun e w' => e = .returned (numRes t most) ∧ w = w' := by
    intro a1 a2 t3 t4 ha
    have h3 : ¬ (t[0].toNat = 48 ∧ 1 < t.size) := by
      rintro ⟨h5, h6⟩
      have e1 : a1 = true := by rw [← t3]; simp; omega
      have e2 : a2 = true := by rw [← t4]; simp; omega
      rw [e1, e2] at ha; cases ha
    have H3 := Lib.hid h3
    clear h3
    go_enter Try.func40, Try.ntmps40
    cases a1 <;> cases a2 <;> (first | (exfalso; exact Bool.noConfusion ha) | skip)
    all_goals clear ha
    all_goals go_wp2
    all_goals clear t1 t2 t3 t4
    all_goals
      go_loop [6, 7] (fun n s => ∃ i : Nat, s = .int .i64 i ∧ n = .int .i64 (val (t.data.toList.take i)) ∧ i ≤ t.size ∧ ∀ k, (h : k < t.size) → k < i → digitB t[k] = true) (fun _ s => t.size - (intOf s).toNat)
      case atStart => exact ⟨0, rfl, rfl, Nat.zero_le _, fun k h hk => by omega⟩
      case round =>
        obtain ⟨i, rfl, rfl, hi, hall⟩ := hrel
        have hvl := val_take_lt hi hall
        have hpw := pow_le_ten (Nat.le_trans hi h2)
        have HALL := Lib.hid hall
        clear hall
        obtain ⟨m, hm⟩ : ∃ m, m = val (t.data.toList.take i) := ⟨_, rfl⟩
        rw [← hm] at hvl ⊢
        have HM := Lib.hid hm
        have hmb : m < 10000000000 := by omega
        clear hm hvl hpw
        by_cases hlt : i < t.size
        · have HS := Lib.hid (take_byte t i hlt)
          cases hd : digitB t[i]
          · have HG := Lib.hid (good_no (t := t) (.inr (.inr (.inr ⟨i, hlt, hd⟩))))
            go_wp2_with (go_at_call 44; refine (digit_is _ _).mono ?_; rintro e w' ⟨rfl, rfl⟩)
            go_ret2
            exact ⟨by rw [numRes_no HG.out] <;> rfl, rfl⟩
          · have hd2 := hd
            simp only [digitB, Bool.and_eq_true, decide_eq_true_eq] at hd2
            obtain ⟨hd3, hd4⟩ := hd2
            have HD := Lib.hid hd
            have hmm : (m : Int) < 10000000000 := by omega
            have hm0 : (0 : Int) ≤ (m : Int) := by omega
            have v1 : IntKind.u8.wrap ((t[i].toNat : Int) - 48) = (t[i].toNat : Int) - 48 := by simp [IntKind.wrap, IntKind.signed, IntKind.bits]; omega
            have v2 : IntKind.i64.wrap ((t[i].toNat : Int) - 48) = (t[i].toNat : Int) - 48 := IntWalk.i64_in _ (by omega)
            have v3 : IntKind.i64.wrap (10 * (m : Int)) = 10 * (m : Int) := IntWalk.i64_in _ (by omega)
            have v4 : IntKind.i64.wrap (10 * (m : Int) + ((t[i].toNat : Int) - 48)) = 10 * (m : Int) + ((t[i].toNat : Int) - 48) := IntWalk.i64_in _ (by omega)
            have hd5 : (48 : Int) ≤ (t[i].toNat : Int) := by omega
            have hd6 : (t[i].toNat : Int) ≤ 57 := by omega
            go_wp2_with (go_at_call 44; refine (digit_is _ _).mono ?_; rintro e w' ⟨rfl, rfl⟩)
            go_round
            case rel => exact ⟨i + 1, by go_num, by
                rw [HS.out, val_snoc, ← HM.out]
                have : ((10 * m + (t[i].toNat - 48) : Nat) : Int) = 10 * (m : Int) + ((t[i].toNat : Int) - 48) := by omega
                rw [this] <;> rfl, by omega, fun k h hk => by
                   rcases Nat.lt_or_ge k i with h3 | h3
                   · exact HALL.out k h h3
                   · obtain rfl : k = i := by omega
                     exact HD.out⟩
            case measure => simp [intOf] <;> omega
        · have hie : i = t.size := by omega
          subst hie
          have hs : t.data.toList.length = t.size := Array.length_toList
          have HG := Lib.hid (good_yes h0 h2 H3.out (fun k h => HALL.out k h h))
          have HV := Lib.hid (show tval t = m by rw [HM.out, ← hs, List.take_length]; rfl)
          go_wp2
          all_goals go_ret2
          all_goals exact ⟨by rw [numRes_yes HG.out, HV.out] <;> rfl, rfl⟩
  by_cases h5 : t[0].toNat = 48
  · by_cases h6 : 1 < t.size
    · have t3 : ((t[0].toNat : Int) == 48) = true := by simp; omega
      have t4 : decide ((1 : Int) < (t.size : Int)) = true := by simp; omega
      have HG := Lib.hid (good_no (t := t) (.inr (.inr (.inl ⟨h0, h5, h6⟩))))
      clear h5 h6 hgo
      go_enter Try.func40, Try.ntmps40
      go_wp2
      go_ret2
      exact ⟨by rw [numRes_no HG.out] <;> rfl, rfl⟩
    · exact hgo true false (by simp; omega) (by simp; omega) rfl
  · by_cases h6 : 1 < t.size
    · exact hgo false true (by simp; omega) (by simp; omega) rfl
    · exact hgo false false (by simp; omega) (by simp; omega) rfl
end Go.Proofs.Ytlkffnmmphehdaa
