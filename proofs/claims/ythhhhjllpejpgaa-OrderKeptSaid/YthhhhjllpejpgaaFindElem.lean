/-
  The walk of (*Set[T]).find at ponder/api.Elem: in a sorted list it tells the place and whether it is there; it makes nothing but new memory.
-/
import Derived.Test.YthhhhjllpejpgaaLeafElem
namespace Go.Proofs.Ythhhhjllpejpgaa
open Go.RowKit
abbrev ElemSet := SetAt (α := Elem) 94 72 12 Elem.cells
theorem nilAhead_Elem (k0 : Int) (k1 : ByteArray) (k2 : Int) (k3 : Int) (k4 : ByteArray) (k5 : Int) (k6 : Int) (k7 : ByteArray) (k8 : Int) (k9 : Bool) (k10 : Bool) (k11 : Int) (w : World) : (nilAhead 227 72 (.agg #[.int .i64 k0, .string k1, .int .i64 k2, .int .i64 k3, .string k4, .int .i64 k5, .int .i64 k6, .string k7, .int .i64 k8, .bool k9, .bool k10, .int .i64 k11]) "Compare").run Try.prog w = .ok (some false) w := by kernel_rfl
theorem method_Elem (k0 : Int) (k1 : ByteArray) (k2 : Int) (k3 : Int) (k4 : ByteArray) (k5 : Int) (k6 : Int) (k7 : ByteArray) (k8 : Int) (k9 : Bool) (k10 : Bool) (k11 : Int) (w : World) : (method 227 72 (.agg #[.int .i64 k0, .string k1, .int .i64 k2, .int .i64 k3, .string k4, .int .i64 k5, .int .i64 k6, .string k7, .int .i64 k8, .bool k9, .bool k10, .int .i64 k11]) "Compare").run Try.prog w = .ok (105, .agg #[.int .i64 k0, .string k1, .int .i64 k2, .int .i64 k3, .string k4, .int .i64 k5, .int .i64 k6, .string k7, .int .i64 k8, .bool k9, .bool k10, .int .i64 k11]) w := by kernel_rfl

/-- What the search says at its end: the place, and whether it is there. -/
def FoundElem (l : List Elem) (x : Elem) (w : World) (e : Ending) (w' : World) : Prop :=
  e = .returned (.tuple #[.int .i64 (rank cmpElem l x), .bool (has cmpElem l x)]) ∧ Below w.heap.size w w'
set_option maxRecDepth 100000 in
set_option maxHeartbeats 4000000 in
theorem find_Elem (b c : Nat) (sn : Bool) (A : Option Addr) (l : List Elem) (x : Elem) (w : World) (hS : ElemSet w b sn A c l) (hs : Srt cmpElem l) (hl : (l.length : Int) ≤ 4611686018427387904) :
    Calls Try.prog 71 #[.pointer (some ⟨b, 0, none⟩), .agg #[.int .i64 x.id.kind, .string x.id.text, .int .i64 x.id.n, .int .i64 x.attr.kind, .string x.attr.text, .int .i64 x.attr.n, .int .i64 x.value.kind, .string x.value.text, .int .i64 x.value.n, .bool x.acc, .bool x.goal, .int .i64 x.tag]] w (FoundElem l x w) := by
  have hrd := hS.rd Elem.cells_length
  have h0 := hS.cell0
  have hb := hS.lt
  clear hS
  have HS := Lib.hid hs
  have HRD := Lib.hid hrd
  clear hs hrd
  go_enter Try.func71, Try.ntmps71
  go_wp2_with fail
  go_quiet (fail)
  go_wp2_with fail
  obtain ⟨W0, hW0⟩ : ∃ W0, W0 = ((w.alloc (Obj.cells #[Value.int IntKind.i64 x.id.kind, Value.string x.id.text, Value.int IntKind.i64 x.id.n, Value.int IntKind.i64 x.attr.kind, Value.string x.attr.text, Value.int IntKind.i64 x.attr.n, Value.int IntKind.i64 x.value.kind, Value.string x.value.text, Value.int IntKind.i64 x.value.n, Value.bool x.acc, Value.bool x.goal, Value.int IntKind.i64 x.tag] 72)).drewN nq) := ⟨_, rfl⟩
  have hB0 : Below w.heap.size w W0 := by rw [hW0]; exact Below.drewN' ((Below.refl _ _).alloc (Nat.le_refl _) _) _
  have hx0 : W0.cell? ⟨w.heap.size, 0, none⟩ = some (.int .i64 x.id.kind) := by rw [hW0]; go_simp
  have hx1 : W0.cell? ⟨w.heap.size, 1, none⟩ = some (.string x.id.text) := by rw [hW0]; go_simp
  have hx2 : W0.cell? ⟨w.heap.size, 2, none⟩ = some (.int .i64 x.id.n) := by rw [hW0]; go_simp
  have hx3 : W0.cell? ⟨w.heap.size, 3, none⟩ = some (.int .i64 x.attr.kind) := by rw [hW0]; go_simp
  have hx4 : W0.cell? ⟨w.heap.size, 4, none⟩ = some (.string x.attr.text) := by rw [hW0]; go_simp
  have hx5 : W0.cell? ⟨w.heap.size, 5, none⟩ = some (.int .i64 x.attr.n) := by rw [hW0]; go_simp
  have hx6 : W0.cell? ⟨w.heap.size, 6, none⟩ = some (.int .i64 x.value.kind) := by rw [hW0]; go_simp
  have hx7 : W0.cell? ⟨w.heap.size, 7, none⟩ = some (.string x.value.text) := by rw [hW0]; go_simp
  have hx8 : W0.cell? ⟨w.heap.size, 8, none⟩ = some (.int .i64 x.value.n) := by rw [hW0]; go_simp
  have hx9 : W0.cell? ⟨w.heap.size, 9, none⟩ = some (.bool x.acc) := by rw [hW0]; go_simp
  have hx10 : W0.cell? ⟨w.heap.size, 10, none⟩ = some (.bool x.goal) := by rw [hW0]; go_simp
  have hx11 : W0.cell? ⟨w.heap.size, 11, none⟩ = some (.int .i64 x.tag) := by rw [hW0]; go_simp
  rw [← hW0]
  clear hW0
  have HB0 := Lib.hid hB0
  clear hB0
  go_loopw [6, 7] (fun lo hi wr => ∃ i j : Nat, lo = .int .i64 i ∧ hi = .int .i64 j ∧ i ≤ j ∧ j ≤ l.length ∧ (∀ k, (h : k < l.length) → k < i → cmpElem l[k] x < 0) ∧ (∀ k, (h : k < l.length) → j ≤ k → 0 < cmpElem l[k] x) ∧ Below W0.heap.size W0 wr) (fun lo hi wr => (intOf hi).toNat - (intOf lo).toNat)
  case atStart => exact ⟨0, l.length, rfl, rfl, Nat.zero_le _, Nat.le_refl _, fun k _ h => absurd h (by omega), fun k h h' => absurd h (by omega), Below.refl _ _⟩
  case round =>
    obtain ⟨i, j, rfl, rfl, hij, hj, hlo, hhi, hB⟩ := hrel
    have HLO := Lib.hid hlo
    have HHI := Lib.hid hhi
    clear hlo hhi
    have hsz : w.heap.size < W0.heap.size := World.block_lt_of_cell? W0 _ hx0
    by_cases hlt : i < j
    · obtain ⟨m, hm⟩ : ∃ m, m = i + (j - i) / 2 := ⟨_, rfl⟩
      have hml : m < l.length := by omega
      have hmj : m < j := by omega
      have hmi : i ≤ m := by omega
      have e1 : ((i : Int) + ((j : Int) - (i : Int)) / 2) = (m : Int) := by omega
      have E1 := Lib.hid e1
      clear e1 hm
      obtain ⟨g, off, rfl, hgs, hcell⟩ := HRD.out.at_ hml
      have low : ∀ (p : Addr), p.block < w.heap.size → wr.cell? p = w.cell? p := fun p hp => (hB.cell (p := p) (by omega)).trans (HB0.out.cell (p := p) hp)
      have r0 := (low ⟨b, 0, none⟩ hb).trans h0
      have q0 := (low ⟨g, off + m * 12, none⟩ hgs).trans (hcell 0 _ rfl)
      have q1 := (low ⟨g, off + m * 12 + 1, none⟩ hgs).trans (hcell 1 _ rfl)
      have q2 := (low ⟨g, off + m * 12 + 2, none⟩ hgs).trans (hcell 2 _ rfl)
      have q3 := (low ⟨g, off + m * 12 + 3, none⟩ hgs).trans (hcell 3 _ rfl)
      have q4 := (low ⟨g, off + m * 12 + 4, none⟩ hgs).trans (hcell 4 _ rfl)
      have q5 := (low ⟨g, off + m * 12 + 5, none⟩ hgs).trans (hcell 5 _ rfl)
      have q6 := (low ⟨g, off + m * 12 + 6, none⟩ hgs).trans (hcell 6 _ rfl)
      have q7 := (low ⟨g, off + m * 12 + 7, none⟩ hgs).trans (hcell 7 _ rfl)
      have q8 := (low ⟨g, off + m * 12 + 8, none⟩ hgs).trans (hcell 8 _ rfl)
      have q9 := (low ⟨g, off + m * 12 + 9, none⟩ hgs).trans (hcell 9 _ rfl)
      have q10 := (low ⟨g, off + m * 12 + 10, none⟩ hgs).trans (hcell 10 _ rfl)
      have q11 := (low ⟨g, off + m * 12 + 11, none⟩ hgs).trans (hcell 11 _ rfl)
      have y0 := (hB.cell (p := ⟨w.heap.size, 0, none⟩) hsz).trans hx0
      have y1 := (hB.cell (p := ⟨w.heap.size, 1, none⟩) hsz).trans hx1
      have y2 := (hB.cell (p := ⟨w.heap.size, 2, none⟩) hsz).trans hx2
      have y3 := (hB.cell (p := ⟨w.heap.size, 3, none⟩) hsz).trans hx3
      have y4 := (hB.cell (p := ⟨w.heap.size, 4, none⟩) hsz).trans hx4
      have y5 := (hB.cell (p := ⟨w.heap.size, 5, none⟩) hsz).trans hx5
      have y6 := (hB.cell (p := ⟨w.heap.size, 6, none⟩) hsz).trans hx6
      have y7 := (hB.cell (p := ⟨w.heap.size, 7, none⟩) hsz).trans hx7
      have y8 := (hB.cell (p := ⟨w.heap.size, 8, none⟩) hsz).trans hx8
      have y9 := (hB.cell (p := ⟨w.heap.size, 9, none⟩) hsz).trans hx9
      have y10 := (hB.cell (p := ⟨w.heap.size, 10, none⟩) hsz).trans hx10
      have y11 := (hB.cell (p := ⟨w.heap.size, 11, none⟩) hsz).trans hx11
      have b1 : (0 : Int) ≤ (m : Int) := by omega
      have b2 : (m : Int) < (l.length : Int) := by omega
      have hsw : W0.heap.size ≤ wr.heap.size := hB.size
      have N := nilAhead_Elem
      have M := method_Elem
      clear low hcell hx0 hx1 hx2 hx3 hx4 hx5 hx6 hx7 hx8 hx9 hx10 hx11 h0
      have HB := Lib.hid hB
      clear hB
      obtain ⟨y, hy⟩ : ∃ y, y = l[m] := ⟨_, rfl⟩
      rw [← hy] at q0 q1 q2 q3 q4 q5 q6 q7 q8 q9 q10 q11
      have HY := Lib.hid hy
      clear hy
      have hbw : b < wr.heap.size := by omega
      have hgw : g < wr.heap.size := by omega
      have hww : w.heap.size < wr.heap.size := by omega
      go_wp2_with fail
      rw [E1.out]
      go_region_held3 (fun w' => w'.cell? ⟨b, 0, none⟩ = some (.slice (some ⟨g, off, none⟩) l.length c) ∧ w'.cell? ⟨g, off + m * 12, none⟩ = some (.int .i64 y.id.kind) ∧ w'.cell? ⟨g, off + m * 12 + 1, none⟩ = some (.string y.id.text) ∧ w'.cell? ⟨g, off + m * 12 + 2, none⟩ = some (.int .i64 y.id.n) ∧ w'.cell? ⟨g, off + m * 12 + 3, none⟩ = some (.int .i64 y.attr.kind) ∧ w'.cell? ⟨g, off + m * 12 + 4, none⟩ = some (.string y.attr.text) ∧ w'.cell? ⟨g, off + m * 12 + 5, none⟩ = some (.int .i64 y.attr.n) ∧ w'.cell? ⟨g, off + m * 12 + 6, none⟩ = some (.int .i64 y.value.kind) ∧ w'.cell? ⟨g, off + m * 12 + 7, none⟩ = some (.string y.value.text) ∧ w'.cell? ⟨g, off + m * 12 + 8, none⟩ = some (.int .i64 y.value.n) ∧ w'.cell? ⟨g, off + m * 12 + 9, none⟩ = some (.bool y.acc) ∧ w'.cell? ⟨g, off + m * 12 + 10, none⟩ = some (.bool y.goal) ∧ w'.cell? ⟨g, off + m * 12 + 11, none⟩ = some (.int .i64 y.tag) ∧ w'.cell? ⟨w.heap.size, 0, none⟩ = some (.int .i64 x.id.kind) ∧ w'.cell? ⟨w.heap.size, 1, none⟩ = some (.string x.id.text) ∧ w'.cell? ⟨w.heap.size, 2, none⟩ = some (.int .i64 x.id.n) ∧ w'.cell? ⟨w.heap.size, 3, none⟩ = some (.int .i64 x.attr.kind) ∧ w'.cell? ⟨w.heap.size, 4, none⟩ = some (.string x.attr.text) ∧ w'.cell? ⟨w.heap.size, 5, none⟩ = some (.int .i64 x.attr.n) ∧ w'.cell? ⟨w.heap.size, 6, none⟩ = some (.int .i64 x.value.kind) ∧ w'.cell? ⟨w.heap.size, 7, none⟩ = some (.string x.value.text) ∧ w'.cell? ⟨w.heap.size, 8, none⟩ = some (.int .i64 x.value.n) ∧ w'.cell? ⟨w.heap.size, 9, none⟩ = some (.bool x.acc) ∧ w'.cell? ⟨w.heap.size, 10, none⟩ = some (.bool x.goal) ∧ w'.cell? ⟨w.heap.size, 11, none⟩ = some (.int .i64 x.tag))
        (first | go_keep | (refine ⟨?_, ?_, ?_, ?_, ?_, ?_, ?_, ?_, ?_, ?_, ?_, ?_, ?_, ?_, ?_, ?_, ?_, ?_, ?_, ?_, ?_, ?_, ?_, ?_, ?_⟩ <;> exact (hb1.cell (by simpa using by assumption)).trans (by simp [*])))
        ((go_at_call 105; refine (cmp_elem y x _).mono ?_; rintro e w1 ⟨rfl, hb1⟩))
      have HB1 : Below W0.heap.size W0 w1 := HB.out.drew.trans (hb1.mono hsw)
      clear r0 q0 q1 q2 q3 q4 q5 q6 q7 q8 q9 q10 q11 y0 y1 y2 y3 y4 y5 y6 y7 y8 y9 y10 y11 N M
      by_cases hc : cmpElem y x = 0
      · have HC := Lib.hid hc
        have t1 : (cmpElem y x == 0) = true := by simp [hc]
        clear hc
        go_wp2_with fail
        go_ret2
        have e := HC.out
        rw [HY.out] at e
        refine ⟨?_, HB0.out.trans (HB1.mono (by omega))⟩
        rw [rank_some tc_elem HS.out hml e, (at_some tc_elem HS.out hml e).2.2.1]
        rfl
      · have t1 : (cmpElem y x == 0) = false := by simp [hc]
        by_cases hc2 : cmpElem y x < 0
        · have HC := Lib.hid hc2
          have t2 : decide (cmpElem y x < 0) = true := by simpa using hc2
          clear hc hc2
          go_wp2_with fail
          go_roundw
          case rel =>
            refine ⟨m + 1, j, by go_num, rfl, by omega, hj, fun k h1 h2 => ?_, HHI.out, HB1⟩
            have e := HC.out
            rw [HY.out] at e
            rcases Nat.lt_or_ge k m with h3 | h3
            · exact tc_elem.lt_of_lt_of_le (HS.out.lt h3 hml) (by omega)
            · obtain rfl : k = m := by omega
              exact e
          case measure => simp [intOf]; omega
        · have t2 : decide (cmpElem y x < 0) = false := by simpa using hc2
          have hc3 : 0 < cmpElem y x := by omega
          have HC := Lib.hid hc3
          clear hc hc2 hc3
          go_wp2_with fail
          go_roundw
          case rel =>
            refine ⟨i, m, rfl, rfl, by omega, by omega, HLO.out, fun k h1 h2 => ?_, HB1⟩
            have e := HC.out
            rw [HY.out] at e
            rcases Nat.lt_or_ge m k with h3 | h3
            · exact (tc_elem.symm _ _).1 (tc_elem.lt_trans ((tc_elem.symm _ _).2 e) (HS.out.lt h3 h1))
            · obtain rfl : k = m := by omega
              exact e
          case measure => simp [intOf]; omega
    · obtain rfl : i = j := by omega
      have HB := Lib.hid hB
      clear hB
      go_wp2_with fail
      go_ret2
      refine ⟨?_, HB0.out.trans (HB.out.mono (by omega))⟩
      rw [rank_none hj HLO.out HHI.out, (at_none HLO.out HHI.out).2.2]
      rfl
end Go.Proofs.Ythhhhjllpejpgaa
