/-
  Symbols read: which text is a symbol's, and whose; the walk of the program's Parse.
-/
import Derived.Test.YtlkffnmmphehdaaSymNumber
namespace Go.Proofs.Ytlkffnmmphehdaa
open Go.RowKit
/-- The right symbol whose text it is. -/
def parseB (t : ByteArray) : Option Sym :=
  if isWord t = true then some ⟨3, t, 0⟩
  else if headB greatB t = true then
    if goodNum (t.extract 1 t.size) = true ∧ tval (t.extract 1 t.size) ≤ 1048576 ∧ tval (t.extract 1 t.size) ≠ 0 then some ⟨1, t.extract 0 1, tval (t.extract 1 t.size)⟩ else none
  else if headB (fun c => c.toNat == 45) t = true then
    if goodNum (t.extract 1 t.size) = true ∧ tval (t.extract 1 t.size) ≤ 2147483647 ∧ tval (t.extract 1 t.size) ≠ 0 then some ⟨2, ⟨#[]⟩, -(tval (t.extract 1 t.size) : Int)⟩ else none
  else if goodNum t = true ∧ tval t ≤ 2147483647 then some ⟨2, ⟨#[]⟩, tval t⟩ else none
/-- A symbol, or that there is none, as functions answer it. -/
def symRes : Option Sym → Value
  | some s => .tuple #[.agg #[.int .i64 s.kind, .string s.text, .int .i64 s.n], .bool true]
  | none => .tuple #[.agg #[.int .i64 0, .string ⟨#[]⟩, .int .i64 0], .bool false]
theorem toList_ne {t : ByteArray} (h : 0 < t.size) : ¬ t.toList = [] := by
  intro e
  have h2 : t = ⟨#[]⟩ := toList_inj (by rw [e]; kernel_rfl)
  rw [h2] at h
  exact absurd h (by decide)

set_option maxRecDepth 100000 in
set_option maxHeartbeats 8000000 in
theorem parse_is (t : ByteArray) (hts : (t.size : Int) ≤ 1000000000) (w : World) : Calls Try.prog 15 #[.string t] w fun e w' => e = .returned (symRes (parseB t)) ∧ Below w.heap.size w w' := by
  by_cases hz : 0 < t.size
  · have hne := toList_ne hz
    have te : (t.toList == []) = false := by simp [hne]
    have te2 : (!t.toList.isEmpty) = true := by simp [hne]
    have hl1 : (1 : Int) ≤ (t.size : Int) := by omega
    have hP : parseB t = if isWord t = true then some ⟨3, t, 0⟩ else if greatB t[0] = true then
        if goodNum (t.extract 1 t.size) = true ∧ tval (t.extract 1 t.size) ≤ 1048576 ∧ tval (t.extract 1 t.size) ≠ 0 then some ⟨1, t.extract 0 1, tval (t.extract 1 t.size)⟩ else none
      else if (t[0].toNat == 45) = true then
        if goodNum (t.extract 1 t.size) = true ∧ tval (t.extract 1 t.size) ≤ 2147483647 ∧ tval (t.extract 1 t.size) ≠ 0 then some ⟨2, ⟨#[]⟩, -(tval (t.extract 1 t.size) : Int)⟩ else none
      else if goodNum t = true ∧ tval t ≤ 2147483647 then some ⟨2, ⟨#[]⟩, tval t⟩ else none := by
      unfold parseB; rw [headB_eq hz, headB_eq hz]
    have HP := Lib.hid hP
    clear hP
    cases hw : isWord t
    · cases hg : greatB t[0]
      · by_cases hm : t[0].toNat = 45
        · have tm : ((t[0].toNat : Int) == 45) = true := by simp; omega
          have HP2 : Hid (parseB t = if goodNum (t.extract 1 t.size) = true ∧ tval (t.extract 1 t.size) ≤ 2147483647 ∧ tval (t.extract 1 t.size) ≠ 0 then some ⟨2, ⟨#[]⟩, -(tval (t.extract 1 t.size) : Int)⟩ else none) := Lib.hid (by rw [HP.out, hw, hg]; simp [hm])
          clear hm HP
          obtain ⟨r, hr⟩ : ∃ r, r = t.extract 1 t.size := ⟨_, rfl⟩
          rw [← hr] at HP2
          have HR := Lib.hid hr
          clear hr
          cases hgd : goodNum r
          · have HP3 : Hid (parseB t = none) := Lib.hid (by rw [HP2.out, hgd]; simp)
            have HG := Lib.hid (numRes_no (most := 2147483647) hgd)
            clear hgd HP2
            go_enter Try.func15, Try.ntmps15
            go_wp2_with (first | (go_at_call 17; refine (word_is _ _).mono ?_; rintro e w' ⟨rfl, rfl⟩) | (go_at_call 37; refine (great_is _ _).mono ?_; rintro e w' ⟨rfl, rfl⟩))
            rw [← HR.out]
            refine (number_is r 2147483647 _).mono ?_
            rintro e w1 ⟨rfl, rfl⟩
            rw [HG.out]
            go_wp2_with fail
            exact bodyPost_ret (v := .tuple #[.agg #[.int .i64 0, .string ⟨#[]⟩, .int .i64 0], .bool false]) (by simp [results, Try.results15, go_sem]) rfl ⟨by rw [HP3.out] <;> rfl, by (repeat (first | exact Below.refl _ _ | (refine Below.drew ?_) | (refine Below.alloc ?_ (by simp <;> omega) _) | (refine Below.setCell ?_ (by simp <;> omega) _)))⟩
          · have HG := Lib.hid (numRes_yes (most := 2147483647) hgd)
            obtain ⟨v, hv⟩ : ∃ v, v = tval r := ⟨_, rfl⟩
            rw [← hv] at HG HP2
            by_cases hle : v ≤ 2147483647
            · by_cases h00 : v = 0
              · have HP3 : Hid (parseB t = none) := Lib.hid (by rw [HP2.out, hgd]; simp [h00])
                have d2 : decide ((v : Int) ≤ 2147483647) = true := by simp; omega
                have d3 : ((v : Int) == 0) = true := by simp; omega
                clear hgd HP2 hv hle h00
                go_enter Try.func15, Try.ntmps15
                go_wp2_with (first | (go_at_call 17; refine (word_is _ _).mono ?_; rintro e w' ⟨rfl, rfl⟩) | (go_at_call 37; refine (great_is _ _).mono ?_; rintro e w' ⟨rfl, rfl⟩))
                rw [← HR.out]
                refine (number_is r 2147483647 _).mono ?_
                rintro e w1 ⟨rfl, rfl⟩
                rw [HG.out]
                go_wp2_with fail
                exact bodyPost_ret (v := .tuple #[.agg #[.int .i64 0, .string ⟨#[]⟩, .int .i64 0], .bool false]) (by simp [results, Try.results15, go_sem]) rfl ⟨by rw [HP3.out] <;> rfl, by (repeat (first | exact Below.refl _ _ | (refine Below.drew ?_) | (refine Below.alloc ?_ (by simp <;> omega) _) | (refine Below.setCell ?_ (by simp <;> omega) _)))⟩
              · have HP3 : Hid (parseB t = some ⟨2, ⟨#[]⟩, -(v : Int)⟩) := Lib.hid (by rw [HP2.out, hgd]; simp [hle, h00])
                have d3 : ((v : Int) == 0) = false := by simp; omega
                have d2 : decide ((v : Int) ≤ 2147483647) = true := by simp; omega
                have v5 : IntKind.i64.wrap (-(v : Int)) = -(v : Int) := IntWalk.i64_in _ (by omega)
                clear hgd HP2 hv h00
                go_enter Try.func15, Try.ntmps15
                go_wp2_with (first | (go_at_call 17; refine (word_is _ _).mono ?_; rintro e w' ⟨rfl, rfl⟩) | (go_at_call 37; refine (great_is _ _).mono ?_; rintro e w' ⟨rfl, rfl⟩))
                rw [← HR.out]
                refine (number_is r 2147483647 _).mono ?_
                rintro e w1 ⟨rfl, rfl⟩
                rw [HG.out]
                go_wp2_with fail
                exact bodyPost_ret (v := .tuple #[.agg #[.int .i64 2, .string ⟨#[]⟩, .int .i64 (-(v : Int))], .bool true]) (by simp [results, Try.results15, go_sem]) rfl ⟨by rw [HP3.out] <;> rfl, by (repeat (first | exact Below.refl _ _ | (refine Below.drew ?_) | (refine Below.alloc ?_ (by simp <;> omega) _) | (refine Below.setCell ?_ (by simp <;> omega) _)))⟩
            · have HP3 : Hid (parseB t = none) := Lib.hid (by rw [HP2.out, hgd]; simp [hle])
              have d2 : decide ((v : Int) ≤ 2147483647) = false := by simp; omega
              clear hgd HP2 hv hle
              go_enter Try.func15, Try.ntmps15
              go_wp2_with (first | (go_at_call 17; refine (word_is _ _).mono ?_; rintro e w' ⟨rfl, rfl⟩) | (go_at_call 37; refine (great_is _ _).mono ?_; rintro e w' ⟨rfl, rfl⟩))
              rw [← HR.out]
              refine (number_is r 2147483647 _).mono ?_
              rintro e w1 ⟨rfl, rfl⟩
              rw [HG.out]
              go_wp2_with fail
              exact bodyPost_ret (v := .tuple #[.agg #[.int .i64 0, .string ⟨#[]⟩, .int .i64 0], .bool false]) (by simp [results, Try.results15, go_sem]) rfl ⟨by rw [HP3.out] <;> rfl, by (repeat (first | exact Below.refl _ _ | (refine Below.drew ?_) | (refine Below.alloc ?_ (by simp <;> omega) _) | (refine Below.setCell ?_ (by simp <;> omega) _)))⟩
        · have tm : ((t[0].toNat : Int) == 45) = false := by simp; omega
          have HP2 : Hid (parseB t = if goodNum t = true ∧ tval t ≤ 2147483647 then some ⟨2, ⟨#[]⟩, tval t⟩ else none) := Lib.hid (by rw [HP.out, hw, hg]; simp [hm])
          clear hm HP
          cases hgd : goodNum t
          · have HP3 : Hid (parseB t = none) := Lib.hid (by rw [HP2.out, hgd]; simp)
            have HG := Lib.hid (numRes_no (most := 2147483647) hgd)
            clear hgd HP2
            go_enter Try.func15, Try.ntmps15
            go_wp2_with (first | (go_at_call 17; refine (word_is _ _).mono ?_; rintro e w' ⟨rfl, rfl⟩) | (go_at_call 37; refine (great_is _ _).mono ?_; rintro e w' ⟨rfl, rfl⟩))
            refine (number_is t 2147483647 _).mono ?_
            rintro e w1 ⟨rfl, rfl⟩
            rw [HG.out]
            go_wp2_with fail
            exact bodyPost_ret (v := .tuple #[.agg #[.int .i64 0, .string ⟨#[]⟩, .int .i64 0], .bool false]) (by simp [results, Try.results15, go_sem]) rfl ⟨by rw [HP3.out] <;> rfl, by (repeat (first | exact Below.refl _ _ | (refine Below.drew ?_) | (refine Below.alloc ?_ (by simp <;> omega) _) | (refine Below.setCell ?_ (by simp <;> omega) _)))⟩
          · have HG := Lib.hid (numRes_yes (most := 2147483647) hgd)
            obtain ⟨v, hv⟩ : ∃ v, v = tval t := ⟨_, rfl⟩
            rw [← hv] at HG HP2
            by_cases hle : v ≤ 2147483647
            · have HP3 : Hid (parseB t = some ⟨2, ⟨#[]⟩, v⟩) := Lib.hid (by rw [HP2.out, hgd]; simp [hle])
              have d2 : decide ((v : Int) ≤ 2147483647) = true := by simp; omega
              have v5 : IntKind.i64.wrap (-(v : Int)) = -(v : Int) := IntWalk.i64_in _ (by omega)
              clear hgd HP2 hv
              go_enter Try.func15, Try.ntmps15
              go_wp2_with (first | (go_at_call 17; refine (word_is _ _).mono ?_; rintro e w' ⟨rfl, rfl⟩) | (go_at_call 37; refine (great_is _ _).mono ?_; rintro e w' ⟨rfl, rfl⟩))
              refine (number_is t 2147483647 _).mono ?_
              rintro e w1 ⟨rfl, rfl⟩
              rw [HG.out]
              go_wp2_with fail
              exact bodyPost_ret (v := .tuple #[.agg #[.int .i64 2, .string ⟨#[]⟩, .int .i64 (v : Int)], .bool true]) (by simp [results, Try.results15, go_sem]) rfl ⟨by rw [HP3.out] <;> rfl, by (repeat (first | exact Below.refl _ _ | (refine Below.drew ?_) | (refine Below.alloc ?_ (by simp <;> omega) _) | (refine Below.setCell ?_ (by simp <;> omega) _)))⟩
            · have HP3 : Hid (parseB t = none) := Lib.hid (by rw [HP2.out, hgd]; simp [hle])
              have d2 : decide ((v : Int) ≤ 2147483647) = false := by simp; omega
              clear hgd HP2 hv hle
              go_enter Try.func15, Try.ntmps15
              go_wp2_with (first | (go_at_call 17; refine (word_is _ _).mono ?_; rintro e w' ⟨rfl, rfl⟩) | (go_at_call 37; refine (great_is _ _).mono ?_; rintro e w' ⟨rfl, rfl⟩))
              refine (number_is t 2147483647 _).mono ?_
              rintro e w1 ⟨rfl, rfl⟩
              rw [HG.out]
              go_wp2_with fail
              exact bodyPost_ret (v := .tuple #[.agg #[.int .i64 0, .string ⟨#[]⟩, .int .i64 0], .bool false]) (by simp [results, Try.results15, go_sem]) rfl ⟨by rw [HP3.out] <;> rfl, by (repeat (first | exact Below.refl _ _ | (refine Below.drew ?_) | (refine Below.alloc ?_ (by simp <;> omega) _) | (refine Below.setCell ?_ (by simp <;> omega) _)))⟩
      · have HP2 : Hid (parseB t = if goodNum (t.extract 1 t.size) = true ∧ tval (t.extract 1 t.size) ≤ 1048576 ∧ tval (t.extract 1 t.size) ≠ 0 then some ⟨1, t.extract 0 1, tval (t.extract 1 t.size)⟩ else none) := Lib.hid (by rw [HP.out, hw, hg]; simp)
        clear HP
        obtain ⟨r, hr⟩ : ∃ r, r = t.extract 1 t.size := ⟨_, rfl⟩
        rw [← hr] at HP2
        have HR := Lib.hid hr
        clear hr
        cases hgd : goodNum r
        · have HP3 : Hid (parseB t = none) := Lib.hid (by rw [HP2.out, hgd]; simp)
          have HG := Lib.hid (numRes_no (most := 1048576) hgd)
          clear hgd HP2
          go_enter Try.func15, Try.ntmps15
          go_wp2_with (first | (go_at_call 17; refine (word_is _ _).mono ?_; rintro e w' ⟨rfl, rfl⟩) | (go_at_call 37; refine (great_is _ _).mono ?_; rintro e w' ⟨rfl, rfl⟩))
          rw [← HR.out]
          refine (number_is r 1048576 _).mono ?_
          rintro e w1 ⟨rfl, rfl⟩
          rw [HG.out]
          go_wp2_with fail
          exact bodyPost_ret (v := .tuple #[.agg #[.int .i64 0, .string ⟨#[]⟩, .int .i64 0], .bool false]) (by simp [results, Try.results15, go_sem]) rfl ⟨by rw [HP3.out] <;> rfl, by (repeat (first | exact Below.refl _ _ | (refine Below.drew ?_) | (refine Below.alloc ?_ (by simp <;> omega) _) | (refine Below.setCell ?_ (by simp <;> omega) _)))⟩
        · have HG := Lib.hid (numRes_yes (most := 1048576) hgd)
          obtain ⟨v, hv⟩ : ∃ v, v = tval r := ⟨_, rfl⟩
          rw [← hv] at HG HP2
          by_cases hle : v ≤ 1048576
          · by_cases h00 : v = 0
            · have HP3 : Hid (parseB t = none) := Lib.hid (by rw [HP2.out, hgd]; simp [h00])
              have d2 : decide ((v : Int) ≤ 1048576) = true := by simp; omega
              have d3 : ((v : Int) == 0) = true := by simp; omega
              clear hgd HP2 hv hle h00
              go_enter Try.func15, Try.ntmps15
              go_wp2_with (first | (go_at_call 17; refine (word_is _ _).mono ?_; rintro e w' ⟨rfl, rfl⟩) | (go_at_call 37; refine (great_is _ _).mono ?_; rintro e w' ⟨rfl, rfl⟩))
              rw [← HR.out]
              refine (number_is r 1048576 _).mono ?_
              rintro e w1 ⟨rfl, rfl⟩
              rw [HG.out]
              go_wp2_with fail
              exact bodyPost_ret (v := .tuple #[.agg #[.int .i64 0, .string ⟨#[]⟩, .int .i64 0], .bool false]) (by simp [results, Try.results15, go_sem]) rfl ⟨by rw [HP3.out] <;> rfl, by (repeat (first | exact Below.refl _ _ | (refine Below.drew ?_) | (refine Below.alloc ?_ (by simp <;> omega) _) | (refine Below.setCell ?_ (by simp <;> omega) _)))⟩
            · have HP3 : Hid (parseB t = some ⟨1, t.extract 0 1, v⟩) := Lib.hid (by rw [HP2.out, hgd]; simp [hle, h00])
              have d3 : ((v : Int) == 0) = false := by simp; omega
              have d2 : decide ((v : Int) ≤ 1048576) = true := by simp; omega
              have v5 : IntKind.i64.wrap (-(v : Int)) = -(v : Int) := IntWalk.i64_in _ (by omega)
              clear hgd HP2 hv h00
              go_enter Try.func15, Try.ntmps15
              go_wp2_with (first | (go_at_call 17; refine (word_is _ _).mono ?_; rintro e w' ⟨rfl, rfl⟩) | (go_at_call 37; refine (great_is _ _).mono ?_; rintro e w' ⟨rfl, rfl⟩))
              rw [← HR.out]
              refine (number_is r 1048576 _).mono ?_
              rintro e w1 ⟨rfl, rfl⟩
              rw [HG.out]
              go_wp2_with fail
              exact bodyPost_ret (v := .tuple #[.agg #[.int .i64 1, .string (t.extract 0 1), .int .i64 (v : Int)], .bool true]) (by simp [results, Try.results15, go_sem]) rfl ⟨by rw [HP3.out] <;> rfl, by (repeat (first | exact Below.refl _ _ | (refine Below.drew ?_) | (refine Below.alloc ?_ (by simp <;> omega) _) | (refine Below.setCell ?_ (by simp <;> omega) _)))⟩
          · have HP3 : Hid (parseB t = none) := Lib.hid (by rw [HP2.out, hgd]; simp [hle])
            have d2 : decide ((v : Int) ≤ 1048576) = false := by simp; omega
            clear hgd HP2 hv hle
            go_enter Try.func15, Try.ntmps15
            go_wp2_with (first | (go_at_call 17; refine (word_is _ _).mono ?_; rintro e w' ⟨rfl, rfl⟩) | (go_at_call 37; refine (great_is _ _).mono ?_; rintro e w' ⟨rfl, rfl⟩))
            rw [← HR.out]
            refine (number_is r 1048576 _).mono ?_
            rintro e w1 ⟨rfl, rfl⟩
            rw [HG.out]
            go_wp2_with fail
            exact bodyPost_ret (v := .tuple #[.agg #[.int .i64 0, .string ⟨#[]⟩, .int .i64 0], .bool false]) (by simp [results, Try.results15, go_sem]) rfl ⟨by rw [HP3.out] <;> rfl, by (repeat (first | exact Below.refl _ _ | (refine Below.drew ?_) | (refine Below.alloc ?_ (by simp <;> omega) _) | (refine Below.setCell ?_ (by simp <;> omega) _)))⟩
    · have HP2 : Hid (parseB t = some ⟨3, t, 0⟩) := Lib.hid (by rw [HP.out, hw]; simp)
      clear HP
      go_enter Try.func15, Try.ntmps15
      go_wp2_with (go_at_call 17; refine (word_is _ _).mono ?_; rintro e w' ⟨rfl, rfl⟩)
      exact bodyPost_ret (v := .tuple #[.agg #[.int .i64 3, .string t, .int .i64 0], .bool true]) (by simp [results, Try.results15, go_sem]) rfl ⟨by rw [HP2.out] <;> rfl, by (repeat (first | exact Below.refl _ _ | (refine Below.drew ?_) | (refine Below.alloc ?_ (by simp <;> omega) _) | (refine Below.setCell ?_ (by simp <;> omega) _)))⟩
  · have h0 : t.size = 0 := by omega
    have e : t = ⟨#[]⟩ := by apply ByteArray.ext; exact Array.eq_empty_of_size_eq_zero h0
    subst e
    have HP2 := Lib.hid (show parseB ⟨#[]⟩ = none by rfl)
    clear h0 hz
    go_enter Try.func15, Try.ntmps15
    go_wp2_with fail
    exact bodyPost_ret (v := .tuple #[.agg #[.int .i64 0, .string ⟨#[]⟩, .int .i64 0], .bool false]) (by simp [results, Try.results15, go_sem]) rfl ⟨by rw [HP2.out] <;> rfl, by (repeat (first | exact Below.refl _ _ | (refine Below.drew ?_) | (refine Below.alloc ?_ (by simp <;> omega) _) | (refine Below.setCell ?_ (by simp <;> omega) _)))⟩
end Go.Proofs.Ytlkffnmmphehdaa
