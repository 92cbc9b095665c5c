/-
  The law on numbers of a type of its own: its walk.
-/
import Derived.Test.YthhhhjllpejpgaaWorkNum
import Derived.Test.YthhhhjllpejpgaaKitWakes
import Derived.Test.YthhhhjllpejpgaaOpen
namespace Go.Proofs.Ythhhhjllpejpgaa
open Go.RowKit
theorem eq0_trans {α : Type} {cmp : α → α → Int} (t : TC cmp) {x y z : α} (h1 : cmp x y = 0) (h2 : cmp y z = 0) : cmp x z = 0 := by
  rcases Int.lt_trichotomy (cmp x z) 0 with h | h | h
  · have h3 := t.lt_of_lt_of_le h (show cmp z y ≤ 0 by rw [t.eq_symm h2]; exact Int.le_refl _)
    omega
  · exact h
  · have h4 := (t.symm _ _).2 h
    have h3 := t.lt_of_lt_of_le h4 (show cmp x y ≤ 0 by rw [h1]; exact Int.le_refl _)
    have h5 := t.eq_symm h2
    omega
theorem has_put {α : Type} {cmp : α → α → Int} (t : TC cmp) (l : List α) (x y : α) : has cmp (put cmp l x) y = (has cmp l y || (cmp x y == 0)) := by
  rw [Bool.eq_iff_iff, Bool.or_eq_true, beq_iff_eq]
  unfold put
  split
  · rename_i h
    constructor
    · exact .inl
    · rintro (h2 | h2)
      · exact h2
      · obtain ⟨z, hz, e⟩ := has_iff.1 h
        exact has_iff.2 ⟨z, hz, eq0_trans t e h2⟩
  · rename_i h
    have hn := has_false.1 (by simpa using h)
    rw [has_iff, has_iff]
    constructor
    · rintro ⟨z, hz, e⟩
      rcases List.mem_append.1 hz with hz | hz
      · exact .inl ⟨z, (mem_below.1 hz).1, e⟩
      · rcases List.mem_cons.1 hz with rfl | hz
        · exact .inr e
        · exact .inl ⟨z, (mem_above.1 hz).1, e⟩
    · rintro (⟨z, hz, e⟩ | e)
      · refine ⟨z, ?_, e⟩
        rcases Int.lt_trichotomy (cmp z x) 0 with h1 | h1 | h1
        · exact List.mem_append.2 (.inl (mem_below.2 ⟨hz, h1⟩))
        · exact absurd h1 (hn z hz)
        · exact List.mem_append.2 (.inr (List.mem_cons.2 (.inr (mem_above.2 ⟨hz, h1⟩))))
      · exact ⟨x, by simp, e⟩
theorem has_puts {α : Type} {cmp : α → α → Int} (t : TC cmp) : ∀ (xs l : List α) (y : α), has cmp (puts cmp l xs) y = (has cmp l y || has cmp xs y)
  | [], l, y => by simp [puts, has]
  | x :: xs, l, y => by
    rw [show puts cmp l (x :: xs) = puts cmp (put cmp l x) xs from rfl, has_puts t xs, has_put t]
    simp [has, Bool.or_assoc]
theorem num_at {w : World} {A : Option Addr} {c k : Nat} {l : List Num} (h : RowRd w 1 Num.cells A c l) (hk : k < l.length) : ∃ g off, A = some ⟨g, off, none⟩ ∧ g < w.heap.size ∧ w.cell? ⟨g, off + k, none⟩ = some (.int .i64 l[k]) := by
  obtain ⟨g, off, hA, hg, hc⟩ := h.at_ hk
  exact ⟨g, off, hA, hg, by simpa using hc 0 _ rfl⟩
theorem has_snoc {l : List Num} {x : Num} {k : Nat} (h : k < l.length) : has cmpNum (l.take (k + 1)) x = (has cmpNum (l.take k) x || decide (l[k] = x)) := by
  rw [List.take_add_one, List.getElem?_eq_getElem h]
  simp only [has, Option.toList_some, List.any_append, List.any_cons, List.any_nil, Bool.or_false]
  congr 1
  rw [Bool.eq_iff_iff]
  simp [cmpNum_eq]

theorem num_lt {l : List Num} (hs : Srt cmpNum l) {i j : Nat} (hij : i < j) (hj : j < l.length) : (l[i]'(by omega) : Int) < l[j] := by
  have h : cmpInt (l[i]'(by omega)) l[j] < 0 := hs.lt hij hj
  unfold cmpInt at h
  split at h
  · assumption
  · split at h <;> omega
set_option maxRecDepth 100000 in
set_option maxHeartbeats 16000000 in
theorem numbers_walk (A : Option Addr) (c : Nat) (l : List Num) (w : World) (hl : RowRd w 1 Num.cells A c l) :
    Calls Try.prog 4 #[.slice A l.length c] w fun e w' => e = .returned (.bool true) ∧ Below w.heap.size w w' := by
  have HL := Lib.hid hl
  clear hl
  have hnew : ∀ (w : World), Calls Try.prog 21 #[.slice none 0 0] w fun e w' => MadeNum (· < w.heap.size) w (fun _ => none) (fun _ => ⟨false, none, 0⟩) (puts cmpNum [] []) e w' ∧ Below w.heap.size w w' := fun w =>
    sNew_Num none 0 [] (Sets.start _ _ _ Num.cells cmpNum w) (RowRd.nil _ _ _) (by simp)
  have HNEW := Lib.hid hnew
  clear hnew
  by_cases h1 : 100 < l.length
  · have t1 : decide ((100 : Int) < (l.length : Int)) = true := by simp; omega
    clear h1
    go_enter Try.func4, Try.ntmps4
    go_wp2_with fail
    refine (wakes_is _).mono ?_
    rintro e w2 ⟨rfl, hB⟩
    have HB := Lib.hid hB
    clear hB
    go_wp2_with fail
    go_ret
    exact ⟨rfl, HB.out⟩
  have t1 : decide ((100 : Int) < (l.length : Int)) = false := by simp; omega
  have hl100 : l.length ≤ 100 := by omega
  clear h1
  go_enter Try.func4, Try.ntmps4
  go_wp2_with fail
  refine (HNEW.out w).mono ?_
  rintro e w1 ⟨⟨s, rfl, hs, _, σ1, hs1, _⟩, hB1⟩
  have HS1 := Lib.hid hs1
  have HB1 := Lib.hid hB1
  clear hs1 hB1
  go_wp2_with fail
  go_loopw [4] (fun t wr => ∃ i : Nat, t = .int .i64 i ∧ i ≤ l.length ∧ Below w.heap.size w wr ∧ ∃ S σ, NumSets (· < w.heap.size) wr S σ ∧ S s = some (puts cmpNum [] (l.take i))) (fun t wr => l.length - (intOf t).toNat)
  case atStart => exact ⟨0, rfl, Nat.zero_le _, HB1.out, _, σ1, HS1.out, upd_same _ _ _⟩
  case round =>
    obtain ⟨i, rfl, hi, hB, S, σ, hS, hSs⟩ := hrel
    have HB := Lib.hid hB
    have HS := Lib.hid hS
    have HSs := Lib.hid hSs
    clear hB hS hSs
    by_cases hlt : i < l.length
    · obtain ⟨x, hx⟩ : ∃ x : Int, x = l[i] := ⟨_, rfl⟩
      obtain ⟨g, off, rfl, hg, q0⟩ := num_at (HL.out.new_ HB.out) hlt
      have hg0 : g < w.heap.size := by
        obtain ⟨b', off', e, hb', _⟩ := HL.out.at_ hlt
        cases e; exact hb'
      rw [← hx] at q0
      have HX := Lib.hid hx
      clear hx
      have b1 : (0 : Int) ≤ (i : Int) := by omega
      have b2 : (i : Int) < (l.length : Int) := by omega
      obtain ⟨w2, rfl⟩ : ∃ w2, w2 = wr := ⟨_, rfl⟩
      go_wp2_with fail
      go_loopw [5, 6] (fun b t W => ∃ k : Nat, t = .int .i64 k ∧ k ≤ i ∧ b = .bool (has cmpNum (l.take k) x) ∧ Below w2.heap.size w2 W) (fun b t W => i - (intOf t).toNat)
      case atStart => exact ⟨0, rfl, Nat.zero_le _, by simp [has], Below.refl _ _⟩
      case round =>
        obtain ⟨k, rfl, hk, rfl, hB2⟩ := hrel
        by_cases hki : k < i
        · have hkl : k < l.length := by omega
          have hst := has_snoc (x := x) hkl
          obtain ⟨y, hy⟩ : ∃ y : Int, y = l[k] := ⟨_, rfl⟩
          have p0 := (hB2.cell (p := ⟨g, off + i, none⟩) (Nat.lt_of_lt_of_le hg0 HB.out.size)).trans q0
          obtain ⟨g2, off2, hA2, hg2, p1⟩ := num_at ((HL.out.new_ HB.out).new_ hB2) hkl
          cases hA2
          rw [← hy] at p1 hst
          have HB2 := Lib.hid hB2
          have b3 : (0 : Int) ≤ (k : Int) := by omega
          have b4 : (k : Int) < (l.length : Int) := by omega
          cases hh : has cmpNum (l.take k) x
          · rw [hh, Bool.false_or] at hst
            by_cases he : y = x
            · have t2 : decide (y = x) = true := by simpa using he
              rw [t2] at hst
              have HST := Lib.hid hst
              clear hst hB2 hy hh
              go_wp2_with fail
              go_quiet (fail)
              have HB3 := Lib.hid (Below.drewN' HB2.out nq)
              clear p0 p1
              go_wp2_with fail
              go_roundw
              case rel => exact ⟨k + 1, by go_num, by omega, by rw [HST.out] <;> simp [he], HB3.out⟩
              case measure => simp [intOf] <;> omega
            · have t2 : decide (y = x) = false := by simpa using he
              rw [t2] at hst
              have HST := Lib.hid hst
              clear hst hB2 hy hh
              go_wp2_with fail
              go_quiet (fail)
              have HB3 := Lib.hid (Below.drewN' HB2.out nq)
              clear p0 p1
              go_wp2_with fail
              go_roundw
              case rel => exact ⟨k + 1, by go_num, by omega, by rw [HST.out] <;> simp [he], HB3.out⟩
              case measure => simp [intOf] <;> omega
          · rw [hh, Bool.true_or] at hst
            have HST := Lib.hid hst
            clear hst hB2 hy hh
            go_wp2_with fail
            go_quiet (fail)
            have HB3 := Lib.hid (Below.drewN' HB2.out nq)
            clear p0 p1
            go_wp2_with fail
            go_roundw
            case rel => exact ⟨k + 1, by go_num, by omega, by rw [HST.out], HB3.out⟩
            case measure => simp [intOf] <;> omega
        · have hke : k = i := by omega
          subst hke
          have p0 := (hB2.cell (p := ⟨g, off + k, none⟩) (Nat.lt_of_lt_of_le hg0 HB.out.size)).trans q0
          have HB2 := Lib.hid hB2
          clear hB2 q0
          obtain ⟨sb, hsb⟩ : ∃ sb, sb = has cmpNum (l.take k) x := ⟨_, rfl⟩
          have hpu : has cmpNum (puts cmpNum [] (l.take k)) x = sb := by rw [has_puts tc_num, hsb]; simp [has]
          have hlen : (((puts cmpNum [] (l.take k)).length : Nat) : Int) ≤ 100000000 := by
            have := length_puts_le tc_num (l.take k) (Srt.nil (cmp := cmpNum))
            simp at this; omega
          rw [← hsb]
          have HPU := Lib.hid hpu
          clear hsb hpu
          go_wp2_with fail
          refine (sPut_Num x (HS.out.below HB2.out) HSs.out hlen).mono ?_
          rintro e w5 ⟨rfl, σ5, h5, _, hF5, _⟩
          rw [HPU.out]
          have H5 := Lib.hid h5
          have HB5 := Lib.hid ((HB.out.trans (HB2.out.mono HB.out.size)).trans (hF5.below (by have := HB.out.size; have := HB2.out.size; omega) (fun j hj hd => hd hj)))
          clear h5 hF5 p0 hlen
          cases sb
          all_goals
            go_wp2_with fail
            go_roundw
            case rel =>
              refine ⟨k + 1, by go_num, by omega, HB5.out, _, σ5, H5.out, ?_⟩
              rw [upd_same, List.take_add_one, List.getElem?_eq_getElem hlt, ← HX.out]
              simp only [Option.toList_some, puts_snoc]
            case measure => simp [intOf] <;> omega
    · have hie : i = l.length := by omega
      subst hie
      have hSs := HSs.out
      rw [List.take_length] at hSs
      obtain ⟨X, hX⟩ : ∃ X, X = puts cmpNum [] l := ⟨_, rfl⟩
      rw [← hX] at hSs
      have hXl : X.length ≤ 100 := by
        have := length_puts_le tc_num l (Srt.nil (cmp := cmpNum))
        rw [hX]; simp at this; omega
      have hXs := HS.out.srt s X hSs
      have HXE := Lib.hid hX
      have HXS := Lib.hid hXs
      clear HSs
      have HSs := Lib.hid hSs
      clear hSs hX hXs
      go_wp2_with fail
      refine (mkall_Num s wr).mono ?_
      rintro e w2 ⟨rfl, hB2, hbox⟩
      have HB2 := Lib.hid hB2
      have HBX := Lib.hid hbox
      clear hB2 hbox
      go_wp2_with fail
      refine (sSeq_Num _ (HS.out.below HB2.out) HSs.out HBX.out (by omega)).mono ?_
      rintro e w3 ⟨A3, c3, rfl, hr3, _, ⟨σ3, h3⟩, hF3, _⟩
      have HR3 := Lib.hid hr3
      have HS3 := Lib.hid (h3.at_ s X HSs.out)
      have HB3 := Lib.hid ((HB.out.trans (HB2.out.mono HB.out.size)).trans (hF3.below (by have := HB.out.size; have := HB2.out.size; omega) (fun j hj hd => hd hj)))
      clear hr3 h3 hF3
      go_wp2_with fail
      go_loopw [8] (fun t W => ∃ i : Nat, t = .int .i64 i ∧ i ≤ X.length ∧ Below w3.heap.size w3 W) (fun t W => X.length - (intOf t).toNat)
      case atStart => exact ⟨0, rfl, Nat.zero_le _, Below.refl _ _⟩
      case round =>
        obtain ⟨i, rfl, hi, hB4⟩ := hrel
        have HB4 := Lib.hid hB4
        clear hB4
        by_cases hlt2 : i < X.length
        · obtain ⟨x, hx⟩ : ∃ x : Int, x = X[i] := ⟨_, rfl⟩
          have hrd := HR3.out.new_ HB4.out
          obtain ⟨g, off, hA3, hg, q0⟩ := num_at hrd hlt2
          rw [← hx] at q0
          have hrk : rank cmpNum X x = i := by rw [hx]; exact rank_some tc_num HXS.out hlt2 (cmpNum_eq.2 rfl)
          have hhs : has cmpNum X x = true := has_iff.2 ⟨x, by rw [hx]; exact List.getElem_mem _, cmpNum_eq.2 rfl⟩
          have HRD := Lib.hid hrd
          have HX := Lib.hid hx
          have HRK := Lib.hid hrk
          have HHS := Lib.hid hhs
          clear hx hrd hrk hhs
          subst hA3
          have b1 : (0 : Int) ≤ (i : Int) := by omega
          have b2 : (i : Int) < (X.length : Int) := by omega
          go_wp2_with fail
          refine (place_Num s _ _ _ X x _ (HS3.out.new_ HB4.out) HXS.out (by omega)).mono ?_
          rintro e W1 ⟨rfl, hB5⟩
          rw [HRK.out, HHS.out]
          have q1 := (hB5.cell hg).trans q0
          have HB5 := Lib.hid (HB4.out.trans (hB5.mono HB4.out.size))
          rcases i with _ | j
          · clear hB5 q0
            go_wp2_with fail
            go_quiet (fail)
            have HB6 := Lib.hid (Below.drewN' HB5.out nq)
            clear q1
            go_wp2_with fail
            go_roundw
            case rel => exact ⟨0 + 1, by go_num, by omega, HB6.out⟩
            case measure => simp [intOf] <;> omega
          · obtain ⟨g3, off3, hA3, hg3, r0⟩ := num_at (HRD.out.new_ hB5) (show j < X.length by omega)
            cases hA3
            have hlt3 := num_lt HXS.out (Nat.lt_succ_self j) hlt2
            obtain ⟨y, hy⟩ : ∃ y : Int, y = X[j] := ⟨_, rfl⟩
            rw [← hy] at r0
            have hyx : y < x := by rw [hy, HX.out]; exact hlt3
            have d1 : decide (x ≤ y) = false := by simp; omega
            have d2 : decide ((0 : Int) < (j : Int) + 1) = true := by simp <;> omega
            have v1 : IntKind.i64.wrap ((j : Int) + 1 - 1) = (j : Int) := by rw [IntWalk.i64_in _ (by omega)]; omega
            have b0 : (0 : Int) ≤ (j : Int) + 1 := by omega
            have b5 : (j : Int) + 1 < (X.length : Int) := by omega
            have b6 : ((j : Int) + 1).toNat = j + 1 := by omega
            have b3 : (0 : Int) ≤ (j : Int) := by omega
            have b4 : (j : Int) < (X.length : Int) := by omega
            clear hB5 q0 hlt3 hy hyx b1 b2
            go_wp2_with fail
            go_quiet (fail)
            have HB6 := Lib.hid (Below.drewN' HB5.out nq)
            clear q1 r0 d1 d2 v1 b0 b5 b6 b3 b4
            go_wp2_with fail
            go_roundw
            case rel => exact ⟨j + 1 + 1, by go_num, by omega, HB6.out⟩
            case measure => simp [intOf] <;> omega
        · have hie : i = X.length := by omega
          subst hie
          obtain ⟨w4, hw4⟩ : ∃ w4, w4 = wr := ⟨_, rfl⟩
          rw [← hw4] at HB4 ⊢
          clear hw4
          have hz34 := HB4.out.size
          go_wp2_with fail
          go_loopw [11] (fun t W => ∃ i : Nat, t = .int .i64 i ∧ i ≤ l.length ∧ Below w4.heap.size w4 W) (fun t W => l.length - (intOf t).toNat)
          case atStart => exact ⟨0, rfl, Nat.zero_le _, Below.refl _ _⟩
          case round =>
            obtain ⟨i, rfl, hi, hB5⟩ := hrel
            have HB5 := Lib.hid hB5
            clear hB5
            have HB45 := Lib.hid (HB4.out.trans (HB5.out.mono hz34))
            by_cases hlt2 : i < l.length
            · obtain ⟨x, hx⟩ : ∃ x : Int, x = l[i] := ⟨_, rfl⟩
              obtain ⟨g, off, rfl, hg, q0⟩ := num_at ((HL.out.new_ HB3.out).new_ HB45.out) hlt2
              rw [← hx] at q0
              have hhs : has cmpNum X x = true := by
                rw [HXE.out, has_puts tc_num, Bool.or_eq_true]
                exact .inr (has_iff.2 ⟨x, by rw [hx]; exact List.getElem_mem _, cmpNum_eq.2 rfl⟩)
              have hget : X[rank cmpNum X x]? = some x := by
                obtain ⟨_, _, hk, he⟩ := drop_eq tc_num HXS.out hhs
                rw [List.getElem?_eq_getElem hk, cmpNum_eq.1 he]
              have HX := Lib.hid hx
              have HHS := Lib.hid hhs
              have HG := Lib.hid hget
              clear hx hhs hget
              have b1 : (0 : Int) ≤ (i : Int) := by omega
              have b2 : (i : Int) < (l.length : Int) := by omega
              go_wp2_with fail
              refine (get_is_Num s _ _ _ X x x _ (HS3.out.new_ HB45.out) HXS.out (by omega) HHS.out HG.out).mono ?_
              rintro e W1 ⟨rfl, hB6⟩
              have q1 := (hB6.cell hg).trans q0
              have HB6 := Lib.hid (HB5.out.trans (hB6.mono HB5.out.size))
              clear hB6 q0
              go_wp2_with fail
              go_roundw
              case rel => exact ⟨i + 1, by go_num, by omega, HB6.out⟩
              case measure => simp [intOf] <;> omega
            · have hie : i = l.length := by omega
              subst hie
              go_wp2_with fail
              refine (len_Num s _ _ _ X _ (HS3.out.new_ HB45.out)).mono ?_
              rintro e W1 ⟨rfl, rfl⟩
              go_wp2_with fail
              refine (wakes_is _).mono ?_
              rintro e W2 ⟨rfl, hB7⟩
              have HB7 := Lib.hid hB7
              clear hB7
              go_wp2_with fail
              go_ret
              exact ⟨rfl, (HB3.out.trans (HB45.out.mono HB3.out.size)).trans (HB7.out.mono (by have := HB3.out.size; have := HB45.out.size; omega))⟩
end Go.Proofs.Ythhhhjllpejpgaa
