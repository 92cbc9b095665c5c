/-
  The digits of a number: what they are, and the walks of the functions that write them: the program's (by itself) and the document's own.
-/
import Derived.Test.YtlkffnmmphehdaaSymWord
import Derived.Test.YtlkffnmmphehdaaEagerT
import Derived.Lib.SlBytesRow
namespace Go.Proofs.Ytlkffnmmphehdaa
open Go.RowKit
/-- One byte. -/
def byte1 (n : Nat) : ByteArray := ⟨#[UInt8.ofNat (48 + n)]⟩
theorem conv1 (n : Nat) (h : n < 10) (W : World) (g : Nat) (hc : W.cell? ⟨g, 0, none⟩ = some (.int .u8 (48 + (n : Int)))) : (convert 58 9 (.slice (some ⟨g, 0, none⟩) 1 1)).run Try.prog W = .ok (.string (byte1 n)) W :=
  Lib.run_convert_whole (P := Try.prog) W 58 5 9 Try.underlying58 Try.underlying5 Try.underlying9 g 0 (byte1 n) (fun i hi => by
    have : i = 0 := by have : (byte1 n).size = 1 := rfl; omega
    subst this
    rw [Nat.add_zero, hc]
    have e : (byte1 n)[0].toNat = 48 + n := by show (UInt8.ofNat (48 + n)).toNat = 48 + n; simp; omega
    rw [e]
    simp) 1
def decB (n : Nat) : ByteArray := if n < 10 then byte1 n else decB (n / 10) ++ byte1 (n % 10)
theorem byte1_size (n : Nat) : (byte1 n).size = 1 := rfl
theorem decB_size (n : Nat) : (decB n).size ≤ n + 1 := by
  induction n using Nat.strongRecOn with
  | _ n ih =>
    rw [decB]
    split
    · rw [byte1_size]; omega
    · have h1 := ih (n / 10) (by omega)
      rw [ByteArray.size_append, byte1_size]; omega
set_option maxRecDepth 100000 in
set_option maxHeartbeats 4000000 in
theorem digits_step (n : Nat) (h : ¬ n < 10) (hn : n ≤ 4000000000) (ih : ∀ w, Calls Try.prog 38 #[.int .i64 ((n / 10 : Nat) : Int)] w fun e w' => e = .returned (.string (decB (n / 10))) ∧ Below w.heap.size w w') (w : World) : Calls Try.prog 38 #[.int .i64 n] w fun e w' => e = .returned (.string (decB n)) ∧ Below w.heap.size w w' := by
  have t1 : decide ((n : Int) < 10) = false := by simp; omega
  have b0 : (0 : Int) ≤ (n : Int) := by omega
  have b1 : (n : Int) ≤ 4000000000 := by omega
  have hc := conv1 (n % 10) (by omega)
  have e1 : ((n : Int) / 10) = ((n / 10 : Nat) : Int) := by omega
  have e2 : ((n : Int) % 10) = ((n % 10 : Nat) : Int) := by omega
  have m0 : (0 : Int) ≤ ((n % 10 : Nat) : Int) := by omega
  have m1 : ((n % 10 : Nat) : Int) ≤ 9 := by omega
  obtain ⟨m, hm⟩ : ∃ m, m = n % 10 := ⟨_, rfl⟩
  obtain ⟨q, hq⟩ : ∃ q, q = n / 10 := ⟨_, rfl⟩
  rw [← hm] at hc e2 m0 m1
  rw [← hq] at e1 ih
  have HD : Hid (decB n = decB q ++ byte1 m) := by rw [decB, if_neg h, hm, hq]; rfl
  have v1 : IntKind.i64.wrap (q : Int) = (q : Int) := IntWalk.i64_in _ (by omega)
  have v2 : ((n : Int)).tmod 10 = (m : Int) := by rw [Int.tmod_eq_emod_of_nonneg b0, e2]
  have v3 : IntKind.i64.wrap (48 + (m : Int)) = 48 + (m : Int) := IntWalk.i64_in _ (by omega)
  have v4 : IntKind.u8.wrap (48 + (m : Int)) = 48 + (m : Int) := by simp [IntKind.wrap, IntKind.signed, IntKind.bits]; omega
  have hz : ¬ 9223372036854775807 < (decB q).size + (byte1 m).size := by have := decB_size q; rw [byte1_size]; omega
  clear e2
  have IH := Lib.hid ih
  have HC := Lib.hid hc
  clear ih h hm hq hc
  go_enter Try.func38, Try.ntmps38
  go_wp2_with fail
  refine wp_region_Pl (fun _ => True) [0, 1, 3, 4, 5, 6, 9, 10] [] (.fork [(0, 0), (1, 0), (3, 0), (4, 0), (5, 0), (6, 0)] 2 (.fin [(7, 2), (8, 2), (9, 0), (10, 0)]) 7 (.fork [] 2 (.fin [(8, 2), (9, 0), (10, 0)]) 8 (.fin [(2, 2), (9, 0), (10, 0)]))) (by kernel_rfl) (by kernel_rfl) (by kernel_rfl) (fun KK hKK => ?_)
  simp only [wpPl, beside, List.filterMap_cons, List.filterMap_nil, List.getElem?_toArray, List.getElem?_cons_zero, List.getElem?_cons_succ, Option.map_some, List.any_nil]
  repeat (refine wpY_w ?_ (Or.inl ⟨by rfl, fun w9 => ?_⟩) ?_; rotate_left 1; go_simp; with_reducible rfl; simp only [Act.put, List.setIfInBounds_toArray, List.set_cons_zero, List.set_cons_succ])
  refine wpY_nil ⟨?_, ?_⟩
  · refine wpOp_c (fun _ => by simp) rfl (fun K9 hK9 => ?_)
    go_simp
    refine (IH.out _).mono ?_
    rintro e w1 ⟨rfl, hb1⟩
    refine hK9 _ _ ?_
    clear hK9 K9
    try simp only [Act.put, List.setIfInBounds_toArray, List.set_cons_zero, List.set_cons_succ]
    refine wpY_e (by rfl) (fun K9 hK9 => ?_)
    go_simp
    refine hK9 _ _ ?_
    clear hK9 K9
    try simp only [Act.put, List.setIfInBounds_toArray, List.set_cons_zero, List.set_cons_succ]
    refine wpY_e (by rfl) (fun K9 hK9 => ?_)
    have hc := HC.out (w1.alloc (.cells #[.int .u8 (48 + (m : Int))] 5)) w1.heap.size ((Blk.new _ _ _).cell 0)
    go_simp
    refine hK9 _ _ ?_
    clear hK9 K9 hc
    try simp only [Act.put, List.setIfInBounds_toArray, List.set_cons_zero, List.set_cons_succ]
    repeat (refine wpY_w ?_ (Or.inl ⟨by rfl, fun w9 => ?_⟩) ?_; rotate_left 1; go_simp; with_reducible rfl; simp only [Act.put, List.setIfInBounds_toArray, List.set_cons_zero, List.set_cons_succ])
    refine wpY_nil ?_
    simp only [OnlyN_normal]
    refine hKK _ _ ?_
    clear hKK KK
    go_wp2_with fail
    go_ret
    exact ⟨by rw [HD.out]; rfl, ((Below.refl _ _).drew.trans (hb1.mono (by simp))).alloc (by have := hb1.size; simpa using this) _⟩
  · refine wpOp_c (fun _ => by simp) rfl (fun K9 hK9 => ?_)
    go_simp
    refine hK9 _ _ ?_
    clear hK9 K9
    try simp only [Act.put, List.setIfInBounds_toArray, List.set_cons_zero, List.set_cons_succ]
    try simp only [beside]
    refine wpY_nil ⟨?_, ?_⟩
    · refine wpOp_c (fun _ => by simp) rfl (fun K9 hK9 => ?_)
      go_simp
      refine (IH.out _).mono ?_
      rintro e w1 ⟨rfl, hb1⟩
      refine hK9 _ _ ?_
      clear hK9 K9
      try simp only [Act.put, List.setIfInBounds_toArray, List.set_cons_zero, List.set_cons_succ]
      refine wpY_e (by rfl) (fun K9 hK9 => ?_)
      have hc := HC.out w1 w.heap.size ((hb1.cell (by simp)).trans ((Blk.new w.drew 5 #[.int .u8 (48 + (m : Int))]).cell 0))
      go_simp
      refine hK9 _ _ ?_
      clear hK9 K9 hc
      try simp only [Act.put, List.setIfInBounds_toArray, List.set_cons_zero, List.set_cons_succ]
      repeat (refine wpY_w ?_ (Or.inl ⟨by rfl, fun w9 => ?_⟩) ?_; rotate_left 1; go_simp; with_reducible rfl; simp only [Act.put, List.setIfInBounds_toArray, List.set_cons_zero, List.set_cons_succ])
      refine wpY_nil ?_
      simp only [OnlyN_normal]
      refine hKK _ _ ?_
      clear hKK KK
      go_wp2_with fail
      go_ret
      exact ⟨by rw [HD.out]; rfl, ((Below.refl _ _).drew.alloc (by simp) _).trans (hb1.mono (by simp))⟩
    · refine wpOp_c (fun _ => by simp) rfl (fun K9 hK9 => ?_)
      have hc := HC.out (w.alloc (.cells #[.int .u8 (48 + (m : Int))] 5)).drew w.heap.size (((Blk.new w 5 #[.int .u8 (48 + (m : Int))]).drew.cell 0).trans rfl)
      go_simp
      refine hK9 _ _ ?_
      clear hK9 K9 hc
      try simp only [Act.put, List.setIfInBounds_toArray, List.set_cons_zero, List.set_cons_succ]
      refine wpY_e (by rfl) (fun K9 hK9 => ?_)
      go_simp
      refine (IH.out _).mono ?_
      rintro e w1 ⟨rfl, hb1⟩
      refine hK9 _ _ ?_
      clear hK9 K9
      try simp only [Act.put, List.setIfInBounds_toArray, List.set_cons_zero, List.set_cons_succ]
      repeat (refine wpY_w ?_ (Or.inl ⟨by rfl, fun w9 => ?_⟩) ?_; rotate_left 1; go_simp; with_reducible rfl; simp only [Act.put, List.setIfInBounds_toArray, List.set_cons_zero, List.set_cons_succ])
      refine wpY_nil ?_
      simp only [OnlyN_normal]
      refine hKK _ _ ?_
      clear hKK KK
      go_wp2_with fail
      go_ret
      exact ⟨by rw [HD.out]; rfl, ((Below.refl _ _).drew.alloc (by simp) _).trans (hb1.mono (by simp))⟩

set_option maxRecDepth 100000 in
set_option maxHeartbeats 1000000 in
theorem digits_base (n : Nat) (h : n < 10) (w : World) : Calls Try.prog 38 #[.int .i64 n] w fun e w' => e = .returned (.string (decB n)) ∧ Below w.heap.size w w' := by
  have t1 : decide ((n : Int) < 10) = true := by simp; omega
  have b0 : (0 : Int) ≤ (n : Int) := by omega
  have b1 : (n : Int) ≤ 9 := by omega
  have hc := conv1 n h (w.alloc (.cells #[.int .u8 (48 + (n : Int))] 5)) w.heap.size ((Blk.new _ _ _).cell 0)
  have HD : Hid (decB n = byte1 n) := by rw [decB, if_pos h]; rfl
  clear h
  go_enter Try.func38, Try.ntmps38
  go_wp2_with fail
  go_ret
  exact ⟨by rw [HD.out]; rfl, (Below.refl _ _).alloc (Nat.le_refl _) _⟩

theorem digits_is (n : Nat) (hn : n ≤ 4000000000) (w : World) : Calls Try.prog 38 #[.int .i64 n] w fun e w' => e = .returned (.string (decB n)) ∧ Below w.heap.size w w' := by
  induction n using Nat.strongRecOn generalizing w with
  | _ n ih =>
    by_cases h : n < 10
    · exact digits_base n h w
    · exact digits_step n h hn (fun w => ih (n / 10) (by omega) (by omega) w) w

set_option maxRecDepth 100000 in
set_option maxHeartbeats 2000000 in
theorem rdigits_is (n : Nat) (hn : n ≤ 4000000000) (w : World) : Calls Try.prog 60 #[.int .i64 n] w fun e w' => e = .returned (.string (decB n)) ∧ Below w.heap.size w w' := by
  have hsz := decB_size n
  go_enter Try.func60, Try.ntmps60
  go_wp2_with fail
  go_loopw [0, 3] (fun a b wr => ∃ (q : Nat) (t : ByteArray), a = .int .i64 q ∧ b = .string t ∧ q ≤ n ∧ decB q ++ t = decB n ∧ Below w.heap.size w wr) (fun a b wr => (intOf a).toNat)
  case atStart => exact ⟨n, ⟨#[]⟩, rfl, rfl, Nat.le_refl _, ByteArray.append_empty, Below.refl _ _⟩
  case round =>
    obtain ⟨q, t, rfl, rfl, hq, he, hB⟩ := hrel
    have hts : t.size ≤ n + 1 := by have := congrArg ByteArray.size he; rw [ByteArray.size_append] at this; omega
    have HB := Lib.hid hB
    clear hB hsz
    by_cases h9 : 9 < q
    · obtain ⟨m, hm⟩ : ∃ m, m = q % 10 := ⟨_, rfl⟩
      obtain ⟨p, hp⟩ : ∃ p, p = q / 10 := ⟨_, rfl⟩
      have hpq : p < q := by omega
      have HE : Hid (decB p ++ (byte1 m ++ t) = decB n) := by
        have e := he
        rw [decB, if_neg (by omega), ← hm, ← hp, ByteArray.append_assoc] at e
        exact e
      have hc := conv1 m (by omega) (wr.alloc (.cells #[.int .u8 (48 + (m : Int))] 5)) wr.heap.size ((Blk.new _ _ _).cell 0)
      have t1 : decide ((9 : Int) < (q : Int)) = true := by simp; omega
      have v2 : ((q : Int)).tmod 10 = (m : Int) := by rw [Int.tmod_eq_emod_of_nonneg (by omega)]; omega
      have v5 : ((q : Int)) % 10 = (m : Int) := by omega
      have v6 : ((q : Int)) / 10 = (p : Int) := by omega
      have v7 : ((q : Int)).tdiv 10 = (p : Int) := by rw [Int.tdiv_eq_ediv_of_nonneg (by omega)]; omega
      have v3 : IntKind.i64.wrap (48 + (m : Int)) = 48 + (m : Int) := IntWalk.i64_in _ (by omega)
      have v4 : IntKind.u8.wrap (48 + (m : Int)) = 48 + (m : Int) := by simp [IntKind.wrap, IntKind.signed, IntKind.bits]; omega
      have hz : ¬ 9223372036854775807 < (byte1 m).size + t.size := by rw [byte1_size]; omega
      have hpn : p ≤ n := by omega
      have HPQ := Lib.hid hpq
      clear he hm hp h9 hpq
      go_wp2_with fail
      go_roundw
      case rel => exact ⟨p, byte1 m ++ t, by first | rfl | go_num, rfl, hpn, HE.out, HB.out.alloc HB.out.size _⟩
      case measure => have := HPQ.out; simp [intOf] <;> omega
    · have t1 : decide ((9 : Int) < (q : Int)) = false := by simp; omega
      have hc := conv1 q (by omega) (wr.alloc (.cells #[.int .u8 (48 + (q : Int))] 5)) wr.heap.size ((Blk.new _ _ _).cell 0)
      have HE : Hid (byte1 q ++ t = decB n) := by
        have e := he
        rw [decB, if_pos (by omega)] at e
        exact e
      have v3 : IntKind.i64.wrap (48 + (q : Int)) = 48 + (q : Int) := IntWalk.i64_in _ (by omega)
      have v4 : IntKind.u8.wrap (48 + (q : Int)) = 48 + (q : Int) := by simp [IntKind.wrap, IntKind.signed, IntKind.bits]; omega
      have hz : ¬ 9223372036854775807 < (byte1 q).size + t.size := by rw [byte1_size]; omega
      clear he h9
      go_wp2_with fail
      go_ret
      exact ⟨by rw [HE.out]; rfl, HB.out.alloc HB.out.size _⟩

/-- A number's text. -/
def numB (n : Int) : ByteArray := if n < 0 then ⟨#[45]⟩ ++ decB (-n).toNat else decB n.toNat
set_option maxRecDepth 100000 in
set_option maxHeartbeats 2000000 in
theorem rnumber_is (n : Int) (h1 : -4000000000 ≤ n) (h2 : n ≤ 4000000000) (w : World) : Calls Try.prog 39 #[.int .i64 n] w fun e w' => e = .returned (.string (numB n)) ∧ Below w.heap.size w w' := by
  by_cases h : n < 0
  · obtain ⟨k, rfl⟩ : ∃ k : Nat, n = -(k : Int) := ⟨(-n).toNat, by omega⟩
    have HN := Lib.hid (show numB (-(k : Int)) = ⟨#[45]⟩ ++ decB k by unfold numB; rw [if_pos h]; simp)
    have t1 : decide (-(k : Int) < 0) = true := by simpa using h
    have v1 : IntKind.i64.wrap (-(-(k : Int))) = (k : Int) := by rw [IntWalk.i64_in _ (by omega)]; omega
    have v2 : IntKind.i64.wrap (k : Int) = (k : Int) := IntWalk.i64_in _ (by omega)
    have hz : ¬ 9223372036854775807 < 1 + (decB k).size := by have := decB_size k; omega
    have hz2 : ¬ 9223372036854775807 < (⟨#[45]⟩ : ByteArray).size + (decB k).size := by have := decB_size k; have e : (⟨#[45]⟩ : ByteArray).size = 1 := rfl; omega
    go_enter Try.func39, Try.ntmps39
    go_wp2_with fail
    refine (rdigits_is k (by omega) _).mono ?_
    rintro e w1 ⟨rfl, hb1⟩
    have HB := Lib.hid hb1
    clear hb1
    go_wp2_with fail
    go_ret
    exact ⟨by rw [HN.out]; rfl, HB.out⟩
  · obtain ⟨k, rfl⟩ : ∃ k : Nat, n = (k : Int) := ⟨n.toNat, by omega⟩
    have HN := Lib.hid (show numB (k : Int) = decB k by unfold numB; rw [if_neg h]; simp)
    have t1 : decide ((k : Int) < 0) = false := by simp
    go_enter Try.func39, Try.ntmps39
    go_wp2_with fail
    refine (rdigits_is k (by omega) _).mono ?_
    rintro e w1 ⟨rfl, hb1⟩
    have HB := Lib.hid hb1
    clear hb1
    go_wp2_with fail
    go_ret
    exact ⟨by rw [HN.out]; rfl, HB.out⟩
end Go.Proofs.Ytlkffnmmphehdaa
