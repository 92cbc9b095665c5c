/-
  The walks of the statement's own helps over symbols: the same lists, a number within, the document's Before, Put, Has, and the law's without, below, wakes.
-/
import Derived.Test.YthhhhjllpejpgaaWorkSym
namespace Go.Proofs.Ythhhhjllpejpgaa
open Go.RowKit
theorem eql_sym (x y : Sym) (W : World) : (binOp .eql 27 (.agg #[.int .i64 x.kind, .string x.text, .int .i64 x.n]) (.agg #[.int .i64 y.kind, .string y.text, .int .i64 y.n])).run Try.prog W = .ok (.bool (decide (x = y))) W := by
  rw [run_eql_struct]
  go_simp
  by_cases h : x = y
  · subst h; simp
  · have h2 : ¬ (x.kind = y.kind ∧ x.text.toList = y.text.toList ∧ x.n = y.n) := fun ⟨h1, h2, h3⟩ => h (Sym.ext' h1 (toList_inj h2) h3)
    rw [decide_eq_false h]
    split
    · split
      · split
        · exact absurd ⟨by assumption, by assumption, by assumption⟩ h2
        · rfl
      · rfl
    · rfl
theorem neq_sym (x y : Sym) (W : World) : (binOp .neq 27 (.agg #[.int .i64 x.kind, .string x.text, .int .i64 x.n]) (.agg #[.int .i64 y.kind, .string y.text, .int .i64 y.n])).run Try.prog W = .ok (.bool (!decide (x = y))) W := by
  rw [run_neq_struct]
  go_simp
  by_cases h : x = y
  · subst h; simp
  · have h2 : ¬ (x.kind = y.kind ∧ x.text.toList = y.text.toList ∧ x.n = y.n) := fun ⟨h1, h2, h3⟩ => h (Sym.ext' h1 (toList_inj h2) h3)
    rw [decide_eq_false h]
    split
    · split
      · split
        · exact absurd ⟨by assumption, by assumption, by assumption⟩ h2
        · rfl
      · rfl
    · rfl
attribute [local go_sem] eql_sym neq_sym
/-- Any number as one from 0 to n - 1. -/
def within (v n : Int) : Int := if n < 1 then 0 else v % n
/-- One symbol of a row, cell by cell. -/
theorem sym_at {w : World} {A : Option Addr} {c k : Nat} {l : List Sym} (h : RowRd w 3 Sym.cells A c l) (hk : k < l.length) : ∃ g off, A = some ⟨g, off, none⟩ ∧ g < w.heap.size ∧
    w.cell? ⟨g, off + k * 3, none⟩ = some (.int .i64 l[k].kind) ∧ w.cell? ⟨g, off + k * 3 + 1, none⟩ = some (.string l[k].text) ∧ w.cell? ⟨g, off + k * 3 + 2, none⟩ = some (.int .i64 l[k].n) := by
  obtain ⟨g, off, hA, hg, hc⟩ := h.at_ hk
  exact ⟨g, off, hA, hg, by simpa using hc 0 _ rfl, by simpa using hc 1 _ rfl, by simpa using hc 2 _ rfl⟩
theorem within_nat (v : Int) {n : Nat} (h : 0 < n) : ∃ j : Nat, within v n = j ∧ j < n := by
  have h1 : ¬ (n : Int) < 1 := by omega
  have h2 := Int.emod_nonneg v (show (n : Int) ≠ 0 by omega)
  have h3 := Int.emod_lt_of_pos v (show (0 : Int) < n by omega)
  refine ⟨(v % (n : Int)).toNat, ?_, by omega⟩
  simp only [within, if_neg h1]
  omega

set_option maxRecDepth 100000 in
set_option maxHeartbeats 2000000 in
theorem syms_is (A B : Option Addr) (c d : Nat) (l m : List Sym) (w : World) (hl : RowRd w 3 Sym.cells A c l) (hm : RowRd w 3 Sym.cells B d m) :
    Calls Try.prog 17 #[.slice A l.length c, .slice B m.length d] w fun e w' => e = .returned (.bool (decide (l = m))) ∧ Below w.heap.size w w' := by
  have HL := Lib.hid hl
  have HM := Lib.hid hm
  have hlc := hl.cap
  clear hl hm
  by_cases hlm : l.length = m.length
  · have t1 : ((l.length : Int) != (m.length : Int)) = false := by simp; omega
    have HLM := Lib.hid hlm
    clear hlm
    go_enter Try.func17, Try.ntmps17
    go_wp2_with fail
    go_loopw [5] (fun s wr => ∃ i : Nat, s = .int .i64 i ∧ i ≤ l.length ∧ (∀ k, (h : k < l.length) → (h' : k < m.length) → k < i → l[k] = m[k]) ∧ Below w.heap.size w wr) (fun s wr => l.length - (intOf s).toNat)
    case atStart => exact ⟨0, rfl, Nat.zero_le _, fun k _ _ h => absurd h (by omega), Below.refl _ _⟩
    case round =>
      obtain ⟨i, rfl, hi, hall, hB⟩ := hrel
      have HALL := Lib.hid hall
      have HB := Lib.hid hB
      clear hall hB
      by_cases hlt : i < l.length
      · have hlt2 : i < m.length := by have := HLM.out; omega
        obtain ⟨x, hx⟩ : ∃ x, x = l[i] := ⟨_, rfl⟩
        obtain ⟨y, hy⟩ : ∃ y, y = m[i] := ⟨_, rfl⟩
        obtain ⟨g, off, rfl, hgs, hcell⟩ := (HL.out.new_ HB.out).at_ hlt
        obtain ⟨g2, off2, rfl, hgs2, hcell2⟩ := (HM.out.new_ HB.out).at_ hlt2
        rw [← hx] at hcell
        rw [← hy] at hcell2
        have q0 : wr.cell? ⟨g, off + i * 3, none⟩ = some (.int .i64 x.kind) := by simpa using hcell 0 _ rfl
        have q1 : wr.cell? ⟨g, off + i * 3 + 1, none⟩ = some (.string x.text) := by simpa using hcell 1 _ rfl
        have q2 : wr.cell? ⟨g, off + i * 3 + 2, none⟩ = some (.int .i64 x.n) := by simpa using hcell 2 _ rfl
        have p0 : wr.cell? ⟨g2, off2 + i * 3, none⟩ = some (.int .i64 y.kind) := by simpa using hcell2 0 _ rfl
        have p1 : wr.cell? ⟨g2, off2 + i * 3 + 1, none⟩ = some (.string y.text) := by simpa using hcell2 1 _ rfl
        have p2 : wr.cell? ⟨g2, off2 + i * 3 + 2, none⟩ = some (.int .i64 y.n) := by simpa using hcell2 2 _ rfl
        have b1 : (0 : Int) ≤ (i : Int) := by omega
        have b2 : (i : Int) < (l.length : Int) := by omega
        have b3 : (i : Int) < (m.length : Int) := by omega
        have HX := Lib.hid hx
        have HY := Lib.hid hy
        clear hcell hcell2 hx hy
        have hbe := neq_sym x y
        by_cases he : x = y
        · have HE := Lib.hid he
          have t2 : decide (x = y) = true := by simpa using he
          rw [t2] at hbe
          clear he
          go_wp2_with fail
          go_quiet (fail)
          have HB2 := Lib.hid (Below.drewN' HB.out nq)
          clear q0 q1 q2 p0 p1 p2
          go_wp2_with fail
          go_roundw
          case rel =>
            refine ⟨i + 1, by go_num, by omega, fun k h h' hk => ?_, HB2.out⟩
            rcases Nat.lt_or_ge k i with h3 | h3
            · exact HALL.out k h h' h3
            · obtain rfl : k = i := by omega
              rw [← HX.out, ← HY.out]
              exact HE.out
          case measure => simp [intOf] <;> omega
        · have HE := Lib.hid he
          have t2 : decide (x = y) = false := by simpa using he
          rw [t2] at hbe
          clear he
          go_wp2_with fail
          go_quiet (fail)
          have HB2 := Lib.hid (Below.drewN' HB.out nq)
          clear q0 q1 q2 p0 p1 p2
          go_wp2_with fail
          go_ret
          refine ⟨?_, HB2.out⟩
          have : l ≠ m := by
            rintro rfl
            exact HE.out (HX.out.trans HY.out.symm)
          rw [decide_eq_false this]; rfl
      · have hie : i = l.length := by omega
        subst hie
        go_wp2_with fail
        go_ret
        refine ⟨?_, HB.out⟩
        have : l = m := List.ext_getElem HLM.out (fun k h h' => HALL.out k h h' h)
        rw [decide_eq_true this]; rfl
  · have t1 : ((l.length : Int) != (m.length : Int)) = true := by simp; omega
    have HLM := Lib.hid hlm
    clear hlm
    go_enter Try.func17, Try.ntmps17
    go_wp2_with fail
    go_ret
    refine ⟨?_, Below.refl _ _⟩
    have : l ≠ m := fun e => HLM.out (by rw [e])
    rw [decide_eq_false this]; rfl

set_option maxHeartbeats 1000000 in
theorem within_is (v n : Int) (w : World) (hn : n ≤ 9223372036854775807) :
    Calls Try.prog 30 #[.int .i64 v, .int .i64 n] w fun e w' => e = .returned (.int .i64 (within v n)) ∧ w = w' := by
  by_cases h : n < 1
  · have hw : within v n = 0 := by simp [within, h]
    rw [hw]
    go_enter Try.func30, Try.ntmps30
    go_wp2_with fail
    go_ret
    exact ⟨rfl, rfl⟩
  · have hw : within v n = v % n := by simp [within, h]
    rw [hw]
    have e0 : n ≠ 0 := by omega
    have h1 : v.tmod n < n := Int.tmod_lt_of_pos v (by omega)
    have h2 : -n < v.tmod n := by
      have := Int.lt_tmod_of_pos v (show 0 < n by omega)
      omega
    have e1 : IntKind.i64.wrap (v.tmod n) = v.tmod n := IntWalk.i64_in _ (by omega)
    have e2 : v.tmod n < 0 → v % n = v.tmod n + n := fun h3 => by
      have h4 := Int.emod_emod_of_dvd v (Int.dvd_refl n)
      have h5 : (v.tmod n) % n = v % n := by
        have := Int.mul_tdiv_add_tmod v n
        have h6 : v % n = (v.tmod n + n * v.tdiv n) % n := by congr 1; omega
        rw [h6, Int.add_mul_emod_self_left]
      have h7 : (v.tmod n + n) % n = v.tmod n % n := by simp
      rw [← h5, ← h7, Int.emod_eq_of_lt (by omega) (by omega)]
    have e3 : ¬ v.tmod n < 0 → v % n = v.tmod n := fun h3 => by
      have h5 : (v.tmod n) % n = v % n := by
        have := Int.mul_tdiv_add_tmod v n
        have h6 : v % n = (v.tmod n + n * v.tdiv n) % n := by congr 1; omega
        rw [h6, Int.add_mul_emod_self_left]
      rw [← h5, Int.emod_eq_of_lt (by omega) (by omega)]
    have E2 := Lib.hid e2
    have E3 := Lib.hid e3
    clear e2 e3
    go_enter Try.func30, Try.ntmps30
    by_cases h3 : v.tmod n < 0
    · have E := Lib.hid (E2.out h3)
      have e4 : IntKind.i64.wrap (v.tmod n + n) = v.tmod n + n := IntWalk.i64_in _ (by omega)
      clear E2 E3
      go_wp2_with fail
      go_ret
      exact ⟨by rw [E.out]; rfl, rfl⟩
    · have E := Lib.hid (E3.out h3)
      clear E2 E3
      go_wp2_with fail
      go_ret
      exact ⟨by rw [E.out]; rfl, rfl⟩
end Go.Proofs.Ythhhhjllpejpgaa
