/-
  The document's Read: what it answers, and its walk.
-/
import Derived.Test.YtlkffnmmphehdaaSymNumber
namespace Go.Proofs.Ytlkffnmmphehdaa
open Go.RowKit

/-- What the document's Read answers. -/
def readGood (neg : Bool) (r : ByteArray) : Bool := goodNum r && !(neg && headB (fun c => c.toNat == 48) r)
def readRes (neg : Bool) (r : ByteArray) : Value := if readGood neg r = true then .tuple #[.int .i64 (if neg = true then -(tval r : Int) else (tval r : Int)), .bool true] else .tuple #[.int .i64 0, .bool false]
def readOf (t : ByteArray) : Value := if headB (fun c => c.toNat == 45) t = true then readRes true (t.extract 1 t.size) else readRes false t
theorem readRes_bad {neg : Bool} {r : ByteArray} (h : goodNum r = false) : readRes neg r = .tuple #[.int .i64 0, .bool false] := by unfold readRes readGood; rw [h]; rfl
theorem readRes_nought {r : ByteArray} (h : 0 < r.size) (h2 : r[0].toNat = 48) : readRes true r = .tuple #[.int .i64 0, .bool false] := by unfold readRes readGood; rw [headB_eq h]; simp [h2]
theorem readRes_pos {r : ByteArray} (h : goodNum r = true) : readRes false r = .tuple #[.int .i64 (tval r : Int), .bool true] := by unfold readRes readGood; rw [h]; rfl
theorem readRes_neg {r : ByteArray} (h : goodNum r = true) (h0 : 0 < r.size) (h2 : ¬ r[0].toNat = 48) : readRes true r = .tuple #[.int .i64 (-(tval r : Int)), .bool true] := by
  unfold readRes readGood
  rw [h, headB_eq h0]
  have : (r[0].toNat == 48) = false := by simpa using h2
  rw [this]; rfl
set_option maxRecDepth 100000 in
set_option maxHeartbeats 8000000 in
theorem read_is (t : ByteArray) (hts : (t.size : Int) ≤ 1000000000) (w : World) : Calls Try.prog 41 #[.string t] w fun e w' => e = .returned (readOf t) ∧ w = w' := by
  by_cases hz : 0 < t.size
  · have g1 : decide ((0 : Int) < (t.size : Int)) = true := by simp; omega
    by_cases hm : t[0].toNat = 45
    · have g2 : ((t[0].toNat : Int) == 45) = true := by simp; omega
      have HN0 : readOf t = readRes true (t.extract 1 t.size) := by unfold readOf; rw [headB_eq hz]; simp [hm]
      obtain ⟨r, hr⟩ : ∃ r, r = t.extract 1 t.size := ⟨_, rfl⟩
      rw [← hr] at HN0
      have HN := Lib.hid HN0
      have hl1 : (1 : Int) ≤ (t.size : Int) := by omega
      clear HN0 hm
      go_enter Try.func41, Try.ntmps41
      go_upto_region 4 with (fail)
      rw [← hr]
      clear hr g1 g2
      by_cases h1 : r.size < 1
      · have t1 : decide ((r.size : Int) < 1) = true := by simp; omega
        have HG := Lib.hid (good_no (t := r) (.inl h1))
        clear h1
        go_wp2
        go_ret2
        exact ⟨by rw [HN.out, readRes_bad HG.out] <;> rfl, rfl⟩
      have t1 : decide ((r.size : Int) < 1) = false := by simp; omega
      by_cases h2 : 10 < r.size
      · have t2 : decide ((10 : Int) < (r.size : Int)) = true := by simp; omega
        have HG := Lib.hid (good_no (t := r) (.inr (.inl h2)))
        clear h1 h2
        go_wp2
        go_ret2
        exact ⟨by rw [HN.out, readRes_bad HG.out] <;> rfl, rfl⟩
      have t2 : decide ((10 : Int) < (r.size : Int)) = false := by simp; omega
      have h0 : 0 < r.size := by omega
      have h2 : r.size ≤ 10 := by omega
      clear h1
      by_cases h5 : r[0].toNat = 48
      · have HG := Lib.hid (readRes_nought h0 h5)
        have t3 : ((r[0].toNat : Int) == 48) = true := by simp; omega
        clear h5
        go_wp2
        all_goals go_ret2
        all_goals exact ⟨by rw [HN.out, HG.out] <;> rfl, rfl⟩
      · have ts : ((r[0].toNat : Int) == 48) = false := by simp; omega
        have H3 := Lib.hid (show ¬ (r[0].toNat = 48 ∧ 1 < r.size) by omega)
        have H5 := Lib.hid h5
        go_wp2
        clear t1 t2 ts
        go_loop [5, 6] (fun n s => ∃ i : Nat, s = .int .i64 i ∧ n = .int .i64 (val (r.data.toList.take i)) ∧ i ≤ r.size ∧ ∀ k, (h : k < r.size) → k < i → digitB r[k] = true) (fun _ s => r.size - (intOf s).toNat)
        case atStart => exact ⟨0, rfl, rfl, Nat.zero_le _, fun k h hk => by omega⟩
        case round =>
          obtain ⟨i, rfl, rfl, hi, hall⟩ := hrel
          have hvl := val_take_lt hi hall
          have hpw := pow_le_ten (Nat.le_trans hi h2)
          have HALL := Lib.hid hall
          clear hall
          obtain ⟨m, hm⟩ : ∃ m, m = val (r.data.toList.take i) := ⟨_, rfl⟩
          rw [← hm] at hvl ⊢
          have HM := Lib.hid hm
          have hmb : m < 10000000000 := by omega
          have hmm : (m : Int) < 10000000000 := by omega
          have hm0 : (0 : Int) ≤ (m : Int) := by omega
          clear hm hvl hpw
          by_cases hlt : i < r.size
          · have HS := Lib.hid (take_byte r i hlt)
            by_cases hd3 : 48 ≤ r[i].toNat
            · have u1 : decide ((r[i].toNat : Int) < 48) = false := by simp; omega
              by_cases hd4 : r[i].toNat ≤ 57
              · have u2 : decide ((57 : Int) < (r[i].toNat : Int)) = false := by simp; omega
                have HD := Lib.hid (show digitB r[i] = true by simp [digitB, hd3, hd4])
                have v1 : IntKind.u8.wrap ((r[i].toNat : Int) - 48) = (r[i].toNat : Int) - 48 := by simp [IntKind.wrap, IntKind.signed, IntKind.bits]; omega
                have v2 : IntKind.i64.wrap ((r[i].toNat : Int) - 48) = (r[i].toNat : Int) - 48 := IntWalk.i64_in _ (by omega)
                have v3 : IntKind.i64.wrap (10 * (m : Int)) = 10 * (m : Int) := IntWalk.i64_in _ (by omega)
                have v4 : IntKind.i64.wrap (10 * (m : Int) + ((r[i].toNat : Int) - 48)) = 10 * (m : Int) + ((r[i].toNat : Int) - 48) := IntWalk.i64_in _ (by omega)
                have hd5 : (48 : Int) ≤ (r[i].toNat : Int) := by omega
                have hd6 : (r[i].toNat : Int) ≤ 57 := by omega
                go_wp2
                go_round
                case rel => exact ⟨i + 1, by go_num, by
                    rw [HS.out, val_snoc, ← HM.out]
                    have : ((10 * m + (r[i].toNat - 48) : Nat) : Int) = 10 * (m : Int) + ((r[i].toNat : Int) - 48) := by omega
                    rw [this] <;> rfl, by omega, fun k h hk => by
                       rcases Nat.lt_or_ge k i with h3 | h3
                       · exact HALL.out k h h3
                       · obtain rfl : k = i := by omega
                         exact HD.out⟩
                case measure => simp [intOf] <;> omega
              · have u2 : decide ((57 : Int) < (r[i].toNat : Int)) = true := by simp; omega
                have HG := Lib.hid (good_no (t := r) (.inr (.inr (.inr ⟨i, hlt, by simp [digitB]; omega⟩))))
                clear hd3 hd4
                go_wp2
                go_ret2
                exact ⟨by rw [HN.out, readRes_bad HG.out] <;> rfl, rfl⟩
            · have u1 : decide ((r[i].toNat : Int) < 48) = true := by simp; omega
              have HG := Lib.hid (good_no (t := r) (.inr (.inr (.inr ⟨i, hlt, by simp [digitB]; omega⟩))))
              clear hd3
              go_wp2
              go_ret2
              exact ⟨by rw [HN.out, readRes_bad HG.out] <;> rfl, rfl⟩
          · have hie : i = r.size := by omega
            subst hie
            have hs : r.data.toList.length = r.size := Array.length_toList
            have HG := Lib.hid (good_yes h0 h2 H3.out (fun k h => HALL.out k h h))
            have HV := Lib.hid (show tval r = m by rw [HM.out, ← hs, List.take_length]; rfl)
            have v5 : IntKind.i64.wrap (-(m : Int)) = -(m : Int) := IntWalk.i64_in _ (by omega)
            go_wp2
            go_ret2
            exact ⟨by rw [HN.out, readRes_neg HG.out h0 H5.out, HV.out] <;> rfl, rfl⟩
    · have g2 : ((t[0].toNat : Int) == 45) = false := by simp; omega
      have HN0 : readOf t = readRes false t := by unfold readOf; rw [headB_eq hz]; simp [hm]
      obtain ⟨r, hr⟩ : ∃ r, r = t := ⟨_, rfl⟩
      have HN := Lib.hid (show readOf t = readRes false r by rw [hr]; exact HN0)
      clear HN0 hm
      go_enter Try.func41, Try.ntmps41
      go_upto_region 4 with (fail)
      clear g1 g2
      subst hr
      by_cases h1 : r.size < 1
      · have t1 : decide ((r.size : Int) < 1) = true := by simp; omega
        have HG := Lib.hid (good_no (t := r) (.inl h1))
        clear h1
        go_wp2
        go_ret2
        exact ⟨by rw [HN.out, readRes_bad HG.out] <;> rfl, rfl⟩
      have t1 : decide ((r.size : Int) < 1) = false := by simp; omega
      by_cases h2 : 10 < r.size
      · have t2 : decide ((10 : Int) < (r.size : Int)) = true := by simp; omega
        have HG := Lib.hid (good_no (t := r) (.inr (.inl h2)))
        clear h1 h2
        go_wp2
        go_ret2
        exact ⟨by rw [HN.out, readRes_bad HG.out] <;> rfl, rfl⟩
      have t2 : decide ((10 : Int) < (r.size : Int)) = false := by simp; omega
      have h0 : 0 < r.size := by omega
      have h2 : r.size ≤ 10 := by omega
      clear h1
      by_cases h5 : r[0].toNat = 48
      · have ts : ((r[0].toNat : Int) == 48) = true := by simp; omega
        by_cases h6 : 1 < r.size
        · have t4 : decide ((1 : Int) < (r.size : Int)) = true := by simp; omega
          have HG := Lib.hid (good_no (t := r) (.inr (.inr (.inl ⟨h0, h5, h6⟩))))
          clear h5 h6
          go_wp2
          go_ret2
          exact ⟨by rw [HN.out, readRes_bad HG.out] <;> rfl, rfl⟩
        · have t4 : decide ((1 : Int) < (r.size : Int)) = false := by simp; omega
          have H3 := Lib.hid (show ¬ (r[0].toNat = 48 ∧ 1 < r.size) by omega)
          go_wp2
          clear t1 t2 ts
          go_loop [5, 6] (fun n s => ∃ i : Nat, s = .int .i64 i ∧ n = .int .i64 (val (r.data.toList.take i)) ∧ i ≤ r.size ∧ ∀ k, (h : k < r.size) → k < i → digitB r[k] = true) (fun _ s => r.size - (intOf s).toNat)
          case atStart => exact ⟨0, rfl, rfl, Nat.zero_le _, fun k h hk => by omega⟩
          case round =>
            obtain ⟨i, rfl, rfl, hi, hall⟩ := hrel
            have hvl := val_take_lt hi hall
            have hpw := pow_le_ten (Nat.le_trans hi h2)
            have HALL := Lib.hid hall
            clear hall
            obtain ⟨m, hm⟩ : ∃ m, m = val (r.data.toList.take i) := ⟨_, rfl⟩
            rw [← hm] at hvl ⊢
            have HM := Lib.hid hm
            have hmb : m < 10000000000 := by omega
            have hmm : (m : Int) < 10000000000 := by omega
            have hm0 : (0 : Int) ≤ (m : Int) := by omega
            clear hm hvl hpw
            by_cases hlt : i < r.size
            · have HS := Lib.hid (take_byte r i hlt)
              by_cases hd3 : 48 ≤ r[i].toNat
              · have u1 : decide ((r[i].toNat : Int) < 48) = false := by simp; omega
                by_cases hd4 : r[i].toNat ≤ 57
                · have u2 : decide ((57 : Int) < (r[i].toNat : Int)) = false := by simp; omega
                  have HD := Lib.hid (show digitB r[i] = true by simp [digitB, hd3, hd4])
                  have v1 : IntKind.u8.wrap ((r[i].toNat : Int) - 48) = (r[i].toNat : Int) - 48 := by simp [IntKind.wrap, IntKind.signed, IntKind.bits]; omega
                  have v2 : IntKind.i64.wrap ((r[i].toNat : Int) - 48) = (r[i].toNat : Int) - 48 := IntWalk.i64_in _ (by omega)
                  have v3 : IntKind.i64.wrap (10 * (m : Int)) = 10 * (m : Int) := IntWalk.i64_in _ (by omega)
                  have v4 : IntKind.i64.wrap (10 * (m : Int) + ((r[i].toNat : Int) - 48)) = 10 * (m : Int) + ((r[i].toNat : Int) - 48) := IntWalk.i64_in _ (by omega)
                  have hd5 : (48 : Int) ≤ (r[i].toNat : Int) := by omega
                  have hd6 : (r[i].toNat : Int) ≤ 57 := by omega
                  go_wp2
                  go_round
                  case rel => exact ⟨i + 1, by go_num, by
                      rw [HS.out, val_snoc, ← HM.out]
                      have : ((10 * m + (r[i].toNat - 48) : Nat) : Int) = 10 * (m : Int) + ((r[i].toNat : Int) - 48) := by omega
                      rw [this] <;> rfl, by omega, fun k h hk => by
                         rcases Nat.lt_or_ge k i with h3 | h3
                         · exact HALL.out k h h3
                         · obtain rfl : k = i := by omega
                           exact HD.out⟩
                  case measure => simp [intOf] <;> omega
                · have u2 : decide ((57 : Int) < (r[i].toNat : Int)) = true := by simp; omega
                  have HG := Lib.hid (good_no (t := r) (.inr (.inr (.inr ⟨i, hlt, by simp [digitB]; omega⟩))))
                  clear hd3 hd4
                  go_wp2
                  go_ret2
                  exact ⟨by rw [HN.out, readRes_bad HG.out] <;> rfl, rfl⟩
              · have u1 : decide ((r[i].toNat : Int) < 48) = true := by simp; omega
                have HG := Lib.hid (good_no (t := r) (.inr (.inr (.inr ⟨i, hlt, by simp [digitB]; omega⟩))))
                clear hd3
                go_wp2
                go_ret2
                exact ⟨by rw [HN.out, readRes_bad HG.out] <;> rfl, rfl⟩
            · have hie : i = r.size := by omega
              subst hie
              have hs : r.data.toList.length = r.size := Array.length_toList
              have HG := Lib.hid (good_yes h0 h2 H3.out (fun k h => HALL.out k h h))
              have HV := Lib.hid (show tval r = m by rw [HM.out, ← hs, List.take_length]; rfl)
              have v5 : IntKind.i64.wrap (-(m : Int)) = -(m : Int) := IntWalk.i64_in _ (by omega)
              go_wp2
              go_ret2
              exact ⟨by rw [HN.out, readRes_pos HG.out, HV.out] <;> rfl, rfl⟩
      · have ts : ((r[0].toNat : Int) == 48) = false := by simp; omega
        have H3 := Lib.hid (show ¬ (r[0].toNat = 48 ∧ 1 < r.size) by omega)
        go_wp2
        clear t1 t2 ts
        go_loop [5, 6] (fun n s => ∃ i : Nat, s = .int .i64 i ∧ n = .int .i64 (val (r.data.toList.take i)) ∧ i ≤ r.size ∧ ∀ k, (h : k < r.size) → k < i → digitB r[k] = true) (fun _ s => r.size - (intOf s).toNat)
        case atStart => exact ⟨0, rfl, rfl, Nat.zero_le _, fun k h hk => by omega⟩
        case round =>
          obtain ⟨i, rfl, rfl, hi, hall⟩ := hrel
          have hvl := val_take_lt hi hall
          have hpw := pow_le_ten (Nat.le_trans hi h2)
          have HALL := Lib.hid hall
          clear hall
          obtain ⟨m, hm⟩ : ∃ m, m = val (r.data.toList.take i) := ⟨_, rfl⟩
          rw [← hm] at hvl ⊢
          have HM := Lib.hid hm
          have hmb : m < 10000000000 := by omega
          have hmm : (m : Int) < 10000000000 := by omega
          have hm0 : (0 : Int) ≤ (m : Int) := by omega
          clear hm hvl hpw
          by_cases hlt : i < r.size
          · have HS := Lib.hid (take_byte r i hlt)
            by_cases hd3 : 48 ≤ r[i].toNat
            · have u1 : decide ((r[i].toNat : Int) < 48) = false := by simp; omega
              by_cases hd4 : r[i].toNat ≤ 57
              · have u2 : decide ((57 : Int) < (r[i].toNat : Int)) = false := by simp; omega
                have HD := Lib.hid (show digitB r[i] = true by simp [digitB, hd3, hd4])
                have v1 : IntKind.u8.wrap ((r[i].toNat : Int) - 48) = (r[i].toNat : Int) - 48 := by simp [IntKind.wrap, IntKind.signed, IntKind.bits]; omega
                have v2 : IntKind.i64.wrap ((r[i].toNat : Int) - 48) = (r[i].toNat : Int) - 48 := IntWalk.i64_in _ (by omega)
                have v3 : IntKind.i64.wrap (10 * (m : Int)) = 10 * (m : Int) := IntWalk.i64_in _ (by omega)
                have v4 : IntKind.i64.wrap (10 * (m : Int) + ((r[i].toNat : Int) - 48)) = 10 * (m : Int) + ((r[i].toNat : Int) - 48) := IntWalk.i64_in _ (by omega)
                have hd5 : (48 : Int) ≤ (r[i].toNat : Int) := by omega
                have hd6 : (r[i].toNat : Int) ≤ 57 := by omega
                go_wp2
                go_round
                case rel => exact ⟨i + 1, by go_num, by
                    rw [HS.out, val_snoc, ← HM.out]
                    have : ((10 * m + (r[i].toNat - 48) : Nat) : Int) = 10 * (m : Int) + ((r[i].toNat : Int) - 48) := by omega
                    rw [this] <;> rfl, by omega, fun k h hk => by
                       rcases Nat.lt_or_ge k i with h3 | h3
                       · exact HALL.out k h h3
                       · obtain rfl : k = i := by omega
                         exact HD.out⟩
                case measure => simp [intOf] <;> omega
              · have u2 : decide ((57 : Int) < (r[i].toNat : Int)) = true := by simp; omega
                have HG := Lib.hid (good_no (t := r) (.inr (.inr (.inr ⟨i, hlt, by simp [digitB]; omega⟩))))
                clear hd3 hd4
                go_wp2
                go_ret2
                exact ⟨by rw [HN.out, readRes_bad HG.out] <;> rfl, rfl⟩
            · have u1 : decide ((r[i].toNat : Int) < 48) = true := by simp; omega
              have HG := Lib.hid (good_no (t := r) (.inr (.inr (.inr ⟨i, hlt, by simp [digitB]; omega⟩))))
              clear hd3
              go_wp2
              go_ret2
              exact ⟨by rw [HN.out, readRes_bad HG.out] <;> rfl, rfl⟩
          · have hie : i = r.size := by omega
            subst hie
            have hs : r.data.toList.length = r.size := Array.length_toList
            have HG := Lib.hid (good_yes h0 h2 H3.out (fun k h => HALL.out k h h))
            have HV := Lib.hid (show tval r = m by rw [HM.out, ← hs, List.take_length]; rfl)
            have v5 : IntKind.i64.wrap (-(m : Int)) = -(m : Int) := IntWalk.i64_in _ (by omega)
            go_wp2
            go_ret2
            exact ⟨by rw [HN.out, readRes_pos HG.out, HV.out] <;> rfl, rfl⟩
  · have g1 : decide ((0 : Int) < (t.size : Int)) = false := by rw [decide_eq_false_iff_not]; omega
    have h0 : t.size = 0 := by omega
    have e : t = ⟨#[]⟩ := by apply ByteArray.ext; exact Array.eq_empty_of_size_eq_zero h0
    subst e
    have HN := Lib.hid (show readOf ⟨#[]⟩ = .tuple #[.int .i64 0, .bool false] by rfl)
    clear h0 g1 hz
    go_enter Try.func41, Try.ntmps41
    go_wp2
    go_ret2
    exact ⟨by rw [HN.out] <;> rfl, rfl⟩
end Go.Proofs.Ytlkffnmmphehdaa
