/-
  Words, digits and letters of chapter 4: what they are, and the walks of the functions that ask for them: the program's and the document's own.
-/
import Derived.Test.YtlkffnmmphehdaaSetLeaf
import Derived.Deep.Cut
namespace Go.Proofs.Ytlkffnmmphehdaa
open Go.RowKit

def smallB (c : UInt8) : Bool := decide (97 ≤ c.toNat) && decide (c.toNat ≤ 122)
def greatB (c : UInt8) : Bool := decide (65 ≤ c.toNat) && decide (c.toNat ≤ 90)
def digitB (c : UInt8) : Bool := decide (48 ≤ c.toNat) && decide (c.toNat ≤ 57)
def partB (c : UInt8) : Bool := smallB c || digitB c || c.toNat == 45 || c.toNat == 95
/-- A word: 1 to 32 bytes, the first a small letter, all of them letters, digits or - or _. -/
def isWord (t : ByteArray) : Bool := decide (1 ≤ t.size) && decide (t.size ≤ 32) && t.data.toList.head?.any smallB && t.data.toList.all partB
theorem isWord_iff {t : ByteArray} : isWord t = true ↔ ∃ h : 0 < t.size, t.size ≤ 32 ∧ smallB t[0] = true ∧ ∀ k, (h : k < t.size) → partB t[k] = true := by
  unfold isWord
  rw [Bool.and_eq_true, Bool.and_eq_true, Bool.and_eq_true, decide_eq_true_iff, decide_eq_true_iff, List.all_eq_true]
  have hs : t.data.toList.length = t.size := Array.length_toList
  constructor
  · rintro ⟨⟨⟨h1, h2⟩, h3⟩, h4⟩
    refine ⟨h1, h2, ?_, fun k h => h4 _ ?_⟩
    · rw [List.head?_eq_getElem?, List.getElem?_eq_getElem (by omega)] at h3
      exact (by simpa only [Option.any_some, Array.getElem_toList] using h3 : smallB t.data[0] = true)
    · have : t[k] = t.data.toList[k]'(by omega) := by rw [Array.getElem_toList]; rfl
      rw [this]; exact List.getElem_mem _
  · rintro ⟨h1, h2, h3, h4⟩
    refine ⟨⟨⟨h1, h2⟩, ?_⟩, fun x hx => ?_⟩
    · rw [List.head?_eq_getElem?, List.getElem?_eq_getElem (by omega)]
      rw [Option.any_some, Array.getElem_toList]
      exact h3
    · obtain ⟨k, hk, rfl⟩ := List.getElem_of_mem hx
      have := h4 k (by omega)
      rw [Array.getElem_toList]
      exact this
theorem isWord_no {t : ByteArray} (h : ¬ ∃ h : 0 < t.size, t.size ≤ 32 ∧ smallB t[0] = true ∧ ∀ k, (h : k < t.size) → partB t[k] = true) : isWord t = false := by
  cases e : isWord t
  · rfl
  · exact absurd (isWord_iff.1 e) h

set_option maxHeartbeats 400000 in
theorem small_is (c : UInt8) (w : World) : Calls Try.prog 43 #[.int .u8 (c.toNat : Int)] w fun e w' => e = .returned (.bool (smallB c)) ∧ w = w' := by
  by_cases h1 : 97 ≤ c.toNat
  · have t1 : decide ((97 : Int) ≤ (c.toNat : Int)) = true := by simp; omega
    by_cases h2 : c.toNat ≤ 122
    · have t2 : decide ((c.toNat : Int) ≤ 122) = true := by simp; omega
      have HF : Hid (smallB c = true) := by simp [Hid, smallB, h1, h2]
      clear h1 h2
      go_enter Try.func43, Try.ntmps43
      go_wp2
      go_ret
      exact ⟨by rw [HF.out]; rfl, rfl⟩
    · have t2 : decide ((c.toNat : Int) ≤ 122) = false := by simp; omega
      have HF : Hid (smallB c = false) := by simp [Hid, smallB, h2]
      clear h1 h2
      go_enter Try.func43, Try.ntmps43
      go_wp2
      go_ret
      exact ⟨by rw [HF.out]; rfl, rfl⟩
  · have t1 : decide ((97 : Int) ≤ (c.toNat : Int)) = false := by simp; omega
    have HF : Hid (smallB c = false) := by simp [Hid, smallB, h1]
    clear h1
    go_enter Try.func43, Try.ntmps43
    go_wp2
    go_ret
    exact ⟨by rw [HF.out]; rfl, rfl⟩

set_option maxHeartbeats 400000 in
theorem great_is (c : UInt8) (w : World) : Calls Try.prog 37 #[.int .u8 (c.toNat : Int)] w fun e w' => e = .returned (.bool (greatB c)) ∧ w = w' := by
  by_cases h1 : 65 ≤ c.toNat
  · have t1 : decide ((65 : Int) ≤ (c.toNat : Int)) = true := by simp; omega
    by_cases h2 : c.toNat ≤ 90
    · have t2 : decide ((c.toNat : Int) ≤ 90) = true := by simp; omega
      have HF : Hid (greatB c = true) := by simp [Hid, greatB, h1, h2]
      clear h1 h2
      go_enter Try.func37, Try.ntmps37
      go_wp2
      go_ret
      exact ⟨by rw [HF.out]; rfl, rfl⟩
    · have t2 : decide ((c.toNat : Int) ≤ 90) = false := by simp; omega
      have HF : Hid (greatB c = false) := by simp [Hid, greatB, h2]
      clear h1 h2
      go_enter Try.func37, Try.ntmps37
      go_wp2
      go_ret
      exact ⟨by rw [HF.out]; rfl, rfl⟩
  · have t1 : decide ((65 : Int) ≤ (c.toNat : Int)) = false := by simp; omega
    have HF : Hid (greatB c = false) := by simp [Hid, greatB, h1]
    clear h1
    go_enter Try.func37, Try.ntmps37
    go_wp2
    go_ret
    exact ⟨by rw [HF.out]; rfl, rfl⟩

set_option maxHeartbeats 400000 in
theorem digit_is (c : UInt8) (w : World) : Calls Try.prog 44 #[.int .u8 (c.toNat : Int)] w fun e w' => e = .returned (.bool (digitB c)) ∧ w = w' := by
  by_cases h1 : 48 ≤ c.toNat
  · have t1 : decide ((48 : Int) ≤ (c.toNat : Int)) = true := by simp; omega
    by_cases h2 : c.toNat ≤ 57
    · have t2 : decide ((c.toNat : Int) ≤ 57) = true := by simp; omega
      have HF : Hid (digitB c = true) := by simp [Hid, digitB, h1, h2]
      clear h1 h2
      go_enter Try.func44, Try.ntmps44
      go_wp2
      go_ret
      exact ⟨by rw [HF.out]; rfl, rfl⟩
    · have t2 : decide ((c.toNat : Int) ≤ 57) = false := by simp; omega
      have HF : Hid (digitB c = false) := by simp [Hid, digitB, h2]
      clear h1 h2
      go_enter Try.func44, Try.ntmps44
      go_wp2
      go_ret
      exact ⟨by rw [HF.out]; rfl, rfl⟩
  · have t1 : decide ((48 : Int) ≤ (c.toNat : Int)) = false := by simp; omega
    have HF : Hid (digitB c = false) := by simp [Hid, digitB, h1]
    clear h1
    go_enter Try.func44, Try.ntmps44
    go_wp2
    go_ret
    exact ⟨by rw [HF.out]; rfl, rfl⟩

set_option maxHeartbeats 1000000 in
theorem part_is (c : UInt8) (w : World) : Calls Try.prog 45 #[.int .u8 (c.toNat : Int)] w fun e w' => e = .returned (.bool (partB c)) ∧ w = w' := by
  have HF : Hid (partB c = (((decide (97 ≤ c.toNat) && decide (c.toNat ≤ 122)) || (decide (48 ≤ c.toNat) && decide (c.toNat ≤ 57))) || decide (c.toNat = 45) || decide (c.toNat = 95))) := rfl
  have t1 : decide ((97 : Int) ≤ (c.toNat : Int)) = decide (97 ≤ c.toNat) := by apply decide_eq_decide.2; omega
  have t2 : decide ((c.toNat : Int) ≤ 122) = decide (c.toNat ≤ 122) := by apply decide_eq_decide.2; omega
  have t3 : decide ((48 : Int) ≤ (c.toNat : Int)) = decide (48 ≤ c.toNat) := by apply decide_eq_decide.2; omega
  have t4 : decide ((c.toNat : Int) ≤ 57) = decide (c.toNat ≤ 57) := by apply decide_eq_decide.2; omega
  have t5 : ((c.toNat : Int) == 45) = decide (c.toNat = 45) := by rw [Bool.eq_iff_iff]; simp; omega
  have t6 : ((c.toNat : Int) == 95) = decide (c.toNat = 95) := by rw [Bool.eq_iff_iff]; simp; omega
  cases h1 : decide (97 ≤ c.toNat) <;> cases h2 : decide (c.toNat ≤ 122) <;> cases h3 : decide (48 ≤ c.toNat) <;> cases h4 : decide (c.toNat ≤ 57) <;> cases h5 : decide (c.toNat = 45) <;> cases h6 : decide (c.toNat = 95)
  all_goals
    rw [h1] at t1; rw [h2] at t2; rw [h3] at t3; rw [h4] at t4; rw [h5] at t5; rw [h6] at t6
    have HF2 := HF.out
    rw [h1, h2, h3, h4, h5, h6] at HF2
    have HF3 := Lib.hid HF2
    clear h1 h2 h3 h4 h5 h6 HF HF2
    go_enter Try.func45, Try.ntmps45
    go_wp2
    go_ret
    exact ⟨by rw [HF3.out]; rfl, rfl⟩

set_option maxRecDepth 100000 in
set_option maxHeartbeats 2000000 in
theorem word_is (t : ByteArray) (w : World) : Calls Try.prog 17 #[.string t] w fun e w' => e = .returned (.bool (isWord t)) ∧ w = w' := by
  by_cases h1 : t.size < 1
  · have t1 : decide ((t.size : Int) < 1) = true := by simp; omega
    have HF := Lib.hid (isWord_no (t := t) (fun ⟨h, _⟩ => by omega))
    clear h1
    go_enter Try.func17, Try.ntmps17
    go_wp2
    go_ret
    exact ⟨by rw [HF.out]; rfl, rfl⟩
  have t1 : decide ((t.size : Int) < 1) = false := by simp; omega
  by_cases h2 : 32 < t.size
  · have t2 : decide ((32 : Int) < (t.size : Int)) = true := by simp; omega
    have HF := Lib.hid (isWord_no (t := t) (fun ⟨h, h3, _⟩ => by omega))
    clear h1 h2
    go_enter Try.func17, Try.ntmps17
    go_wp2
    go_ret
    exact ⟨by rw [HF.out]; rfl, rfl⟩
  have t2 : decide ((32 : Int) < (t.size : Int)) = false := by simp; omega
  have h0 : 0 < t.size := by omega
  have h32 : t.size ≤ 32 := by omega
  clear h1 h2
  cases h3 : smallB t[0]
  · have HF := Lib.hid (isWord_no (t := t) (fun ⟨h, _, h4, _⟩ => by rw [h3] at h4; cases h4))
    go_enter Try.func17, Try.ntmps17
    go_wp2_with (go_at_call 43; refine (small_is _ _).mono ?_; rintro e w' ⟨rfl, rfl⟩)
    go_ret
    exact ⟨by rw [HF.out]; rfl, rfl⟩
  go_enter Try.func17, Try.ntmps17
  go_wp2_with (go_at_call 43; refine (small_is _ _).mono ?_; rintro e w' ⟨rfl, rfl⟩)
  have H3 := Lib.hid h3
  clear h3 t1 t2
  go_loop [3] (fun s => ∃ i : Nat, s = .int .i64 i ∧ 1 ≤ i ∧ i ≤ t.size ∧ ∀ k, (h : k < t.size) → k < i → partB t[k] = true) (fun s => t.size - (intOf s).toNat)
  case atStart => exact ⟨1, rfl, Nat.le_refl _, h0, fun k h hk => by obtain rfl : k = 0 := by omega
                                                                     simp [partB, H3.out]⟩
  case round =>
    obtain ⟨i, rfl, hi1, hi, hall⟩ := hrel
    have HALL := Lib.hid hall
    clear hall
    by_cases hlt : i < t.size
    · have HP : Hid (partB t[i] = (smallB t[i] || digitB t[i] || decide (t[i].toNat = 45) || decide (t[i].toNat = 95))) := rfl
      have t5 : ((t[i].toNat : Int) != 45) = !decide (t[i].toNat = 45) := by rw [Bool.eq_iff_iff]; simp; omega
      have t6 : ((t[i].toNat : Int) != 95) = !decide (t[i].toNat = 95) := by rw [Bool.eq_iff_iff]; simp; omega
      cases hs : smallB t[i] <;> cases hd : digitB t[i] <;> cases h5 : decide (t[i].toNat = 45) <;> cases h6 : decide (t[i].toNat = 95)
      all_goals
        rw [h5] at t5; rw [h6] at t6
        simp only [Bool.not_true, Bool.not_false] at t5 t6
        have HF1 := HP.out
        rw [hs, hd, h5, h6] at HF1
        have HF2 := Lib.hid HF1
        clear h5 h6 HP HF1
        go_wp2_with (first | (go_at_call 43; refine (small_is _ _).mono ?_; rintro e w' ⟨rfl, rfl⟩) | (go_at_call 44; refine (digit_is _ _).mono ?_; rintro e w' ⟨rfl, rfl⟩))
        first
          | (go_ret
             refine ⟨?_, rfl⟩
             rw [isWord_no (t := t) (fun ⟨_, _, _, h⟩ => by have h2 := h i hlt; rw [HF2.out] at h2; exact absurd h2 (by decide))]; rfl)
          | (go_round
             case rel => exact ⟨i + 1, by go_num, by omega, by omega, fun k h hk => by
                 rcases Nat.lt_or_ge k i with h3 | h3
                 · exact HALL.out k h h3
                 · obtain rfl : k = i := by omega
                   rw [HF2.out]; rfl⟩
             case measure => simp [intOf] <;> omega)
    · have hie : i = t.size := by omega
      subst hie
      go_wp2
      go_ret
      exact ⟨by rw [isWord_iff.2 ⟨h0, h32, H3.out, fun k h => HALL.out k h h⟩]; rfl, rfl⟩

set_option maxRecDepth 100000 in
set_option maxHeartbeats 2000000 in
theorem rword_is (t : ByteArray) (w : World) : Calls Try.prog 18 #[.string t] w fun e w' => e = .returned (.bool (isWord t)) ∧ w = w' := by
  by_cases h1 : t.size < 1
  · have t1 : decide ((t.size : Int) < 1) = true := by simp; omega
    have HF := Lib.hid (isWord_no (t := t) (fun ⟨h, _⟩ => by omega))
    clear h1
    go_enter Try.func18, Try.ntmps18
    go_wp2
    go_ret
    exact ⟨by rw [HF.out]; rfl, rfl⟩
  have t1 : decide ((t.size : Int) < 1) = false := by simp; omega
  by_cases h2 : 32 < t.size
  · have t2 : decide ((32 : Int) < (t.size : Int)) = true := by simp; omega
    have HF := Lib.hid (isWord_no (t := t) (fun ⟨h, h3, _⟩ => by omega))
    clear h1 h2
    go_enter Try.func18, Try.ntmps18
    go_wp2
    go_ret
    exact ⟨by rw [HF.out]; rfl, rfl⟩
  have t2 : decide ((32 : Int) < (t.size : Int)) = false := by simp; omega
  have h0 : 0 < t.size := by omega
  have h32 : t.size ≤ 32 := by omega
  clear h1 h2
  by_cases h3 : t[0].toNat < 97
  · have t3 : decide ((t[0].toNat : Int) < 97) = true := by simp; omega
    have HF := Lib.hid (isWord_no (t := t) (fun ⟨h, _, h4, _⟩ => by simp [smallB] at h4; omega))
    clear h3
    go_enter Try.func18, Try.ntmps18
    go_wp2
    go_ret
    exact ⟨by rw [HF.out]; rfl, rfl⟩
  have t3 : decide ((t[0].toNat : Int) < 97) = false := by simp; omega
  by_cases h4 : 122 < t[0].toNat
  · have t4 : decide ((122 : Int) < (t[0].toNat : Int)) = true := by simp; omega
    have HF := Lib.hid (isWord_no (t := t) (fun ⟨h, _, h4, _⟩ => by simp [smallB] at h4; omega))
    clear h3 h4
    go_enter Try.func18, Try.ntmps18
    go_wp2
    go_ret
    exact ⟨by rw [HF.out]; rfl, rfl⟩
  have t4 : decide ((122 : Int) < (t[0].toNat : Int)) = false := by simp; omega
  have h5 : smallB t[0] = true := by simp [smallB]; omega
  have H5 := Lib.hid h5
  clear h3 h4 h5
  go_enter Try.func18, Try.ntmps18
  go_wp2
  clear t1 t2 t3 t4
  go_loop [3] (fun s => ∃ i : Nat, s = .int .i64 i ∧ i ≤ t.size ∧ ∀ k, (h : k < t.size) → k < i → partB t[k] = true) (fun s => t.size - (intOf s).toNat)
  case atStart => exact ⟨0, rfl, Nat.zero_le _, fun k h hk => by omega⟩
  case round =>
    obtain ⟨i, rfl, hi, hall⟩ := hrel
    have HALL := Lib.hid hall
    clear hall
    by_cases hlt : i < t.size
    · cases hp : partB t[i]
      · go_wp2_with (go_at_call 45; refine (part_is _ _).mono ?_; rintro e w' ⟨rfl, rfl⟩)
        go_ret
        refine ⟨?_, rfl⟩
        rw [isWord_no (t := t) (fun ⟨_, _, _, h⟩ => by have h2 := h i hlt; rw [hp] at h2; cases h2)]; rfl
      · have HP := Lib.hid hp
        go_wp2_with (go_at_call 45; refine (part_is _ _).mono ?_; rintro e w' ⟨rfl, rfl⟩)
        go_round
        case rel => exact ⟨i + 1, by go_num, by omega, fun k h hk => by
                 rcases Nat.lt_or_ge k i with h3 | h3
                 · exact HALL.out k h h3
                 · obtain rfl : k = i := by omega
                   exact HP.out⟩
        case measure => simp [intOf] <;> omega
    · have hie : i = t.size := by omega
      subst hie
      go_wp2
      go_ret
      exact ⟨by rw [isWord_iff.2 ⟨h0, h32, H5.out, fun k h => HALL.out k h h⟩]; rfl, rfl⟩
end Go.Proofs.Ytlkffnmmphehdaa
