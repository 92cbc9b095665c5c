/-
  A right symbol's text is read as it: with no program in sight.
-/
import Derived.Test.YtlkffnmmphehdaaSymParse
namespace Go.Proofs.Ytlkffnmmphehdaa
open Go.RowKit
theorem byte1_list (n : Nat) : (byte1 n).data.toList = [UInt8.ofNat (48 + n)] := rfl
theorem byte1_toNat {n : Nat} (h : n < 10) : (UInt8.ofNat (48 + n)).toNat = 48 + n := by simp; omega
theorem app_list (a b : ByteArray) : (a ++ b).data.toList = a.data.toList ++ b.data.toList := by simp [ByteArray.data_append]
/-- What the digits of a number are. -/
theorem decB_good : ∀ (n : Nat), (∀ c ∈ (decB n).data.toList, digitB c = true) ∧ val (decB n).data.toList = n ∧ (0 < (decB n).data.toList.length) ∧ (n < 10 → (decB n).data.toList.length = 1) ∧ (10 ≤ n → ∃ c r, (decB n).data.toList = c :: r ∧ c.toNat ≠ 48) := by
  intro n
  induction n using Nat.strongRecOn with
  | _ n ih =>
    by_cases h : n < 10
    · have e : decB n = byte1 n := by rw [decB, if_pos h]
      rw [e, byte1_list]
      refine ⟨fun c hc => ?_, ?_, by simp, fun _ => rfl, fun h2 => by omega⟩
      · simp only [List.mem_singleton] at hc
        subst hc
        simp only [digitB, byte1_toNat h, Bool.and_eq_true, decide_eq_true_eq]
        omega
      · simp only [val, List.foldl_cons, List.foldl_nil, byte1_toNat h]; omega
    · have e : decB n = decB (n / 10) ++ byte1 (n % 10) := by rw [decB, if_neg h]
      obtain ⟨h1, h2, h3, h4, h5⟩ := ih (n / 10) (by omega)
      have hm : n % 10 < 10 := by omega
      rw [e, app_list, byte1_list]
      refine ⟨fun c hc => ?_, ?_, by simp, fun h2 => by omega, fun _ => ?_⟩
      · rcases List.mem_append.1 hc with hc | hc
        · exact h1 c hc
        · simp only [List.mem_singleton] at hc
          subst hc
          simp only [digitB, byte1_toNat hm, Bool.and_eq_true, decide_eq_true_eq]
          omega
      · rw [val_snoc, h2, byte1_toNat hm]; omega
      · by_cases h10 : 10 ≤ n / 10
        · obtain ⟨c, r, hr, hc⟩ := h5 h10
          exact ⟨c, r ++ [UInt8.ofNat (48 + n % 10)], by rw [hr]; rfl, hc⟩
        · have e2 : decB (n / 10) = byte1 (n / 10) := by rw [decB, if_pos (by omega)]
          rw [e2, byte1_list]
          refine ⟨_, _, rfl, ?_⟩
          rw [byte1_toNat (by omega)]; omega
theorem decB_len : ∀ (k n : Nat), n < 10 ^ (k + 1) → (decB n).size ≤ k + 1
  | 0, n, h => by
    rw [decB, if_pos (by simpa using h)]
    exact Nat.le_refl _
  | k + 1, n, h => by
    by_cases h1 : n < 10
    · rw [decB, if_pos h1, byte1_size]; omega
    · have h2 := decB_len k (n / 10) (by rw [Nat.pow_succ] at h; omega)
      rw [decB, if_neg h1, ByteArray.size_append, byte1_size]; omega
theorem size_list (t : ByteArray) : t.data.toList.length = t.size := Array.length_toList
theorem headB_cons {f : UInt8 → Bool} {t : ByteArray} {c : UInt8} {r : List UInt8} (h : t.data.toList = c :: r) : headB f t = f c := by unfold headB; rw [h]; rfl
theorem goodNum_dec {n : Nat} (h : n < 10000000000) : goodNum (decB n) = true ∧ tval (decB n) = n := by
  obtain ⟨h1, h2, h3, h4, h5⟩ := decB_good n
  have hl := decB_len 9 n h
  have hs := size_list (decB n)
  refine ⟨?_, h2⟩
  unfold goodNum
  rw [decide_eq_true (show 1 ≤ (decB n).size by omega), decide_eq_true (show (decB n).size ≤ 10 by omega), List.all_eq_true.2 h1]
  simp only [Bool.true_and, Bool.and_true, Bool.not_eq_true', Bool.and_eq_false_iff, decide_eq_false_iff_not]
  by_cases h10 : n < 10
  · right; have := h4 h10; omega
  · left
    obtain ⟨c, r, hr, hc⟩ := h5 (by omega)
    rw [headB_cons hr]
    simpa using hc
theorem not_word {t : ByteArray} {c : UInt8} {r : List UInt8} (h : t.data.toList = c :: r) (hc : smallB c = false) : isWord t = false := by
  unfold isWord
  rw [h]
  simp [hc]
theorem ext_of_list {a b : ByteArray} (h : a.data.toList = b.data.toList) : a = b := by
  apply ByteArray.ext
  exact Array.toList_inj.1 h
theorem extract_rest {t u : ByteArray} {c : UInt8} (h : t.data.toList = c :: u.data.toList) : t.extract 1 t.size = u := by
  apply ext_of_list
  rw [Lib.extract_data, h]
  have e1 := size_list t
  have e2 := size_list u
  rw [h] at e1
  simp only [List.length_cons] at e1
  rw [List.drop_succ_cons, List.drop_zero]
  exact List.take_of_length_le (by omega)
theorem extract_head {t u : ByteArray} {c : UInt8} {r : List UInt8} (h : t.data.toList = c :: r) (hu : u.data.toList = [c]) : t.extract 0 1 = u := by
  apply ext_of_list
  rw [Lib.extract_data, h, hu]
  rfl
theorem one_list {t : ByteArray} (h : t.size = 1) : ∃ c, t.data.toList = [c] := by
  have e := size_list t
  rw [h] at e
  exact List.length_eq_one_iff.1 e
theorem great_not_small {c : UInt8} (h : greatB c = true) : smallB c = false := by
  simp [greatB, smallB] at *; omega
theorem digit_not {c : UInt8} (h : digitB c = true) : smallB c = false ∧ greatB c = false ∧ (c.toNat == 45) = false := by
  simp [greatB, smallB, digitB] at *; omega
theorem dec_cons (n : Nat) : ∃ c r, (decB n).data.toList = c :: r ∧ digitB c = true := by
  obtain ⟨h1, _, h3, _⟩ := decB_good n
  cases h : (decB n).data.toList with
  | nil => rw [h] at h3; simp at h3
  | cons c r => exact ⟨c, r, rfl, h1 c (by rw [h]; simp)⟩
theorem empty_of {t : ByteArray} (h : t.toList = []) : t = ⟨#[]⟩ := toList_inj (by rw [h]; kernel_rfl)
/-- A right symbol's text is read as it. -/
theorem parse_text (s : Sym) (h : validB s = true) : parseB (textB s) = some s := by
  obtain ⟨k, t, n⟩ := s
  rcases validB_kind h with rfl | rfl | rfl
  · obtain ⟨h1, hg, h3, h4⟩ := validB_id h
    obtain ⟨m, rfl⟩ : ∃ m : Nat, n = (m : Int) := ⟨n.toNat, by omega⟩
    have ht : textB ⟨1, t, m⟩ = t ++ decB m := by unfold textB; rw [h]; simp [numB_nat]
    obtain ⟨c, hc⟩ := one_list h1
    have hl : (t ++ decB m).data.toList = c :: (decB m).data.toList := by rw [app_list, hc]; rfl
    have hgc : greatB c = true := by rw [headB_cons hc] at hg; exact hg
    obtain ⟨hgd, htv⟩ := goodNum_dec (n := m) (by omega)
    rw [ht]
    unfold parseB
    rw [if_neg (by rw [not_word hl (great_not_small hgc)]; simp), if_pos (by rw [headB_cons hl]; exact hgc), extract_rest hl, extract_head hl hc, htv, if_pos ⟨hgd, by omega, by omega⟩]
  · obtain ⟨h1, h3, h4⟩ := validB_int h
    obtain rfl := empty_of h1
    by_cases hn : n < 0
    · obtain ⟨m, rfl⟩ : ∃ m : Nat, n = -(m : Int) := ⟨(-n).toNat, by omega⟩
      have ht : textB ⟨2, ⟨#[]⟩, -(m : Int)⟩ = ⟨#[45]⟩ ++ decB m := by unfold textB; rw [h]; simp [numB_neg m (by omega)]
      have hl : ((⟨#[45]⟩ : ByteArray) ++ decB m).data.toList = 45 :: (decB m).data.toList := by rw [app_list]; rfl
      obtain ⟨hgd, htv⟩ := goodNum_dec (n := m) (by omega)
      rw [ht]
      unfold parseB
      rw [if_neg (by rw [not_word hl (by decide)]; simp), if_neg (by rw [headB_cons hl]; decide), if_pos (by rw [headB_cons hl]; decide), extract_rest hl, htv, if_pos ⟨hgd, by omega, by omega⟩]
    · obtain ⟨m, rfl⟩ : ∃ m : Nat, n = (m : Int) := ⟨n.toNat, by omega⟩
      have ht : textB ⟨2, ⟨#[]⟩, (m : Int)⟩ = decB m := by unfold textB; rw [h]; simp [numB_nat]
      obtain ⟨c, r, hl, hc⟩ := dec_cons m
      obtain ⟨e1, e2, e3⟩ := digit_not hc
      obtain ⟨hgd, htv⟩ := goodNum_dec (n := m) (by omega)
      rw [ht]
      unfold parseB
      rw [if_neg (by rw [not_word hl e1]; simp), if_neg (by rw [headB_cons hl, e2]; simp), if_neg (by rw [headB_cons hl, e3]; simp), htv, if_pos ⟨hgd, by omega⟩]
  · have hv : n = 0 ∧ isWord t = true := by simpa [validB] using h
    obtain ⟨rfl, hw⟩ := hv
    have ht : textB ⟨3, t, 0⟩ = t := by unfold textB; rw [h]; simp
    rw [ht]
    unfold parseB
    rw [if_pos hw]
theorem text_inj {a b : Sym} (ha : validB a = true) (hb : validB b = true) : textB a = textB b ↔ a = b := by
  constructor
  · intro h
    have h1 := parse_text a ha
    rw [h, parse_text b hb] at h1
    exact (Option.some.inj h1).symm
  · intro h; rw [h]
theorem text_size {s : Sym} (h : validB s = true) (hs : s.text.size ≤ 100) : (textB s).size ≤ 200 := by
  obtain ⟨k, t, n⟩ := s
  have hnum : ∀ n : Int, -2147483647 ≤ n → n ≤ 2147483647 → (numB n).size ≤ 11 := fun n h1 h2 => by
    unfold numB
    split
    · have := decB_len 9 (-n).toNat (by omega)
      rw [ByteArray.size_append]
      have e : (⟨#[45]⟩ : ByteArray).size = 1 := rfl
      omega
    · have := decB_len 9 n.toNat (by omega)
      omega
  unfold textB
  rw [h]
  simp only [if_true]
  dsimp only at hs ⊢
  rcases validB_kind h with rfl | rfl | rfl
  · obtain ⟨_, _, h3, h4⟩ := validB_id h
    have := hnum n (by omega) (by omega)
    rw [if_pos rfl, ByteArray.size_append]; omega
  · obtain ⟨_, h3, h4⟩ := validB_int h
    have := hnum n (by omega) (by omega)
    rw [if_neg (by decide), if_pos rfl]; omega
  · rw [if_neg (by decide), if_neg (by decide)]; omega
end Go.Proofs.Ytlkffnmmphehdaa
