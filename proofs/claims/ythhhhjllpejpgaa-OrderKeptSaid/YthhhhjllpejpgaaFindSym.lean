/-
  The walk of (*Set[T]).find at ponder/api.Sym: in a sorted list it tells the place and whether it is there; it makes nothing but new memory.
-/
import Derived.Test.YthhhhjllpejpgaaSetLeaf
namespace Go.Proofs.Ythhhhjllpejpgaa
open Go.RowKit
abbrev SymSet := SetAt (α := Sym) 86 27 3 Sym.cells
theorem nilAhead_Sym (k0 : Int) (k1 : ByteArray) (k2 : Int) (w : World) : (nilAhead 227 27 (.agg #[.int .i64 k0, .string k1, .int .i64 k2]) "Compare").run Try.prog w = .ok (some false) w := by kernel_rfl
theorem method_Sym (k0 : Int) (k1 : ByteArray) (k2 : Int) (w : World) : (method 227 27 (.agg #[.int .i64 k0, .string k1, .int .i64 k2]) "Compare").run Try.prog w = .ok (89, .agg #[.int .i64 k0, .string k1, .int .i64 k2]) w := by kernel_rfl

/-- What the search says at its end: the place, and whether it is there. -/
def FoundSym (l : List Sym) (x : Sym) (w : World) (e : Ending) (w' : World) : Prop :=
  e = .returned (.tuple #[.int .i64 (rank cmpSym l x), .bool (has cmpSym l x)]) ∧ Below w.heap.size w w'
set_option maxRecDepth 100000 in
set_option maxHeartbeats 4000000 in
theorem find_Sym (b c : Nat) (sn : Bool) (A : Option Addr) (l : List Sym) (x : Sym) (w : World) (hS : SymSet w b sn A c l) (hs : Srt cmpSym l) (hl : (l.length : Int) ≤ 4611686018427387904) :
    Calls Try.prog 55 #[.pointer (some ⟨b, 0, none⟩), .agg #[.int .i64 x.kind, .string x.text, .int .i64 x.n]] w (FoundSym l x w) := by
  have hrd := hS.rd Sym.cells_length
  have h0 := hS.cell0
  have hb := hS.lt
  clear hS
  have HS := Lib.hid hs
  have HRD := Lib.hid hrd
  clear hs hrd
  go_enter Try.func55, Try.ntmps55
  go_wp2_with fail
  go_quiet (fail)
  go_wp2_with fail
  obtain ⟨W0, hW0⟩ : ∃ W0, W0 = ((w.alloc (Obj.cells #[Value.int IntKind.i64 x.kind, Value.string x.text, Value.int IntKind.i64 x.n] 27)).drewN nq) := ⟨_, rfl⟩
  have hB0 : Below w.heap.size w W0 := by rw [hW0]; exact Below.drewN' ((Below.refl _ _).alloc (Nat.le_refl _) _) _
  have hx0 : W0.cell? ⟨w.heap.size, 0, none⟩ = some (.int .i64 x.kind) := by rw [hW0]; go_simp
  have hx1 : W0.cell? ⟨w.heap.size, 1, none⟩ = some (.string x.text) := by rw [hW0]; go_simp
  have hx2 : W0.cell? ⟨w.heap.size, 2, none⟩ = some (.int .i64 x.n) := by rw [hW0]; go_simp
  rw [← hW0]
  clear hW0
  have HB0 := Lib.hid hB0
  clear hB0
  go_loopw [6, 7] (fun lo hi wr => ∃ i j : Nat, lo = .int .i64 i ∧ hi = .int .i64 j ∧ i ≤ j ∧ j ≤ l.length ∧ (∀ k, (h : k < l.length) → k < i → cmpSym l[k] x < 0) ∧ (∀ k, (h : k < l.length) → j ≤ k → 0 < cmpSym l[k] x) ∧ Below W0.heap.size W0 wr) (fun lo hi wr => (intOf hi).toNat - (intOf lo).toNat)
  case atStart => exact ⟨0, l.length, rfl, rfl, Nat.zero_le _, Nat.le_refl _, fun k _ h => absurd h (by omega), fun k h h' => absurd h (by omega), Below.refl _ _⟩
  case round =>
    obtain ⟨i, j, rfl, rfl, hij, hj, hlo, hhi, hB⟩ := hrel
    have HLO := Lib.hid hlo
    have HHI := Lib.hid hhi
    clear hlo hhi
    have hsz : w.heap.size < W0.heap.size := World.block_lt_of_cell? W0 _ hx0
    by_cases hlt : i < j
    · obtain ⟨m, hm⟩ : ∃ m, m = i + (j - i) / 2 := ⟨_, rfl⟩
      have hml : m < l.length := by omega
      have hmj : m < j := by omega
      have hmi : i ≤ m := by omega
      have e1 : ((i : Int) + ((j : Int) - (i : Int)) / 2) = (m : Int) := by omega
      have E1 := Lib.hid e1
      clear e1 hm
      obtain ⟨g, off, rfl, hgs, hcell⟩ := HRD.out.at_ hml
      have low : ∀ (p : Addr), p.block < w.heap.size → wr.cell? p = w.cell? p := fun p hp => (hB.cell (p := p) (by omega)).trans (HB0.out.cell (p := p) hp)
      have r0 := (low ⟨b, 0, none⟩ hb).trans h0
      have q0 := (low ⟨g, off + m * 3, none⟩ hgs).trans (hcell 0 _ rfl)
      have q1 := (low ⟨g, off + m * 3 + 1, none⟩ hgs).trans (hcell 1 _ rfl)
      have q2 := (low ⟨g, off + m * 3 + 2, none⟩ hgs).trans (hcell 2 _ rfl)
      have y0 := (hB.cell (p := ⟨w.heap.size, 0, none⟩) hsz).trans hx0
      have y1 := (hB.cell (p := ⟨w.heap.size, 1, none⟩) hsz).trans hx1
      have y2 := (hB.cell (p := ⟨w.heap.size, 2, none⟩) hsz).trans hx2
      have b1 : (0 : Int) ≤ (m : Int) := by omega
      have b2 : (m : Int) < (l.length : Int) := by omega
      have hsw : W0.heap.size ≤ wr.heap.size := hB.size
      have N := nilAhead_Sym
      have M := method_Sym
      clear low hcell hx0 hx1 hx2 h0
      have HB := Lib.hid hB
      clear hB
      obtain ⟨y, hy⟩ : ∃ y, y = l[m] := ⟨_, rfl⟩
      rw [← hy] at q0 q1 q2
      have HY := Lib.hid hy
      clear hy
      have hbw : b < wr.heap.size := by omega
      have hgw : g < wr.heap.size := by omega
      have hww : w.heap.size < wr.heap.size := by omega
      go_wp2_with fail
      rw [E1.out]
      go_region_held3 (fun w' => w'.cell? ⟨b, 0, none⟩ = some (.slice (some ⟨g, off, none⟩) l.length c) ∧ w'.cell? ⟨g, off + m * 3, none⟩ = some (.int .i64 y.kind) ∧ w'.cell? ⟨g, off + m * 3 + 1, none⟩ = some (.string y.text) ∧ w'.cell? ⟨g, off + m * 3 + 2, none⟩ = some (.int .i64 y.n) ∧ w'.cell? ⟨w.heap.size, 0, none⟩ = some (.int .i64 x.kind) ∧ w'.cell? ⟨w.heap.size, 1, none⟩ = some (.string x.text) ∧ w'.cell? ⟨w.heap.size, 2, none⟩ = some (.int .i64 x.n))
        (first | go_keep | (refine ⟨?_, ?_, ?_, ?_, ?_, ?_, ?_⟩ <;> exact (hb1.cell (by simpa using by assumption)).trans (by simp [*])))
        ((go_at_call 89; refine (cmp_sym y x _).mono ?_; rintro e w1 ⟨rfl, hb1⟩))
      have HB1 : Below W0.heap.size W0 w1 := HB.out.drew.trans (hb1.mono hsw)
      clear r0 q0 q1 q2 y0 y1 y2 N M
      by_cases hc : cmpSym y x = 0
      · have HC := Lib.hid hc
        have t1 : (cmpSym y x == 0) = true := by simp [hc]
        clear hc
        go_wp2_with fail
        go_ret2
        have e := HC.out
        rw [HY.out] at e
        refine ⟨?_, HB0.out.trans (HB1.mono (by omega))⟩
        rw [rank_some tc_sym HS.out hml e, (at_some tc_sym HS.out hml e).2.2.1]
        rfl
      · have t1 : (cmpSym y x == 0) = false := by simp [hc]
        by_cases hc2 : cmpSym y x < 0
        · have HC := Lib.hid hc2
          have t2 : decide (cmpSym y x < 0) = true := by simpa using hc2
          clear hc hc2
          go_wp2_with fail
          go_roundw
          case rel =>
            refine ⟨m + 1, j, by go_num, rfl, by omega, hj, fun k h1 h2 => ?_, HHI.out, HB1⟩
            have e := HC.out
            rw [HY.out] at e
            rcases Nat.lt_or_ge k m with h3 | h3
            · exact tc_sym.lt_of_lt_of_le (HS.out.lt h3 hml) (by omega)
            · obtain rfl : k = m := by omega
              exact e
          case measure => simp [intOf]; omega
        · have t2 : decide (cmpSym y x < 0) = false := by simpa using hc2
          have hc3 : 0 < cmpSym y x := by omega
          have HC := Lib.hid hc3
          clear hc hc2 hc3
          go_wp2_with fail
          go_roundw
          case rel =>
            refine ⟨i, m, rfl, rfl, by omega, by omega, HLO.out, fun k h1 h2 => ?_, HB1⟩
            have e := HC.out
            rw [HY.out] at e
            rcases Nat.lt_or_ge m k with h3 | h3
            · exact (tc_sym.symm _ _).1 (tc_sym.lt_trans ((tc_sym.symm _ _).2 e) (HS.out.lt h3 h1))
            · obtain rfl : k = m := by omega
              exact e
          case measure => simp [intOf]; omega
    · obtain rfl : i = j := by omega
      have HB := Lib.hid hB
      clear hB
      go_wp2_with fail
      go_ret2
      refine ⟨?_, HB0.out.trans (HB.out.mono (by omega))⟩
      rw [rank_none hj HLO.out HHI.out, (at_none HLO.out HHI.out).2.2]
      rfl
end Go.Proofs.Ythhhhjllpejpgaa
