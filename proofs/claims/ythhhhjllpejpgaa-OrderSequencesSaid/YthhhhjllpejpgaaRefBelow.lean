/-
  The walk of the law's below: how many stand ahead of one.
-/
import Derived.Test.YthhhhjllpejpgaaRefBefore
namespace Go.Proofs.Ythhhhjllpejpgaa
open Go.RowKit
attribute [local go_sem] eql_sym neq_sym

theorem below_take {l : List Sym} {x : Sym} {i : Nat} (h : i < l.length) : (below cmpSym (l.take (i + 1)) x).length = (below cmpSym (l.take i) x).length + if cmpSym l[i] x < 0 then 1 else 0 := by
  rw [List.take_add_one, List.getElem?_eq_getElem h]
  simp only [below, Option.toList_some, List.filter_append, List.length_append]
  congr 1
  by_cases h2 : cmpSym l[i] x < 0 <;> simp [h2]
set_option maxRecDepth 100000 in
set_option maxHeartbeats 2000000 in
theorem below_is (A : Option Addr) (c : Nat) (l : List Sym) (x : Sym) (w : World) (hrd : RowRd w 3 Sym.cells A c l) :
    Calls Try.prog 28 #[.slice A l.length c, .agg #[.int .i64 x.kind, .string x.text, .int .i64 x.n]] w fun e w' => e = .returned (.int .i64 (rank cmpSym l x)) ∧ Below w.heap.size w w' := by
  have HRD := Lib.hid hrd
  have hlc := hrd.cap
  clear hrd
  go_enter Try.func28, Try.ntmps28
  go_wp2_with fail
  obtain ⟨W0, hW0⟩ : ∃ W0, W0 = w.alloc (Obj.cells #[Value.int IntKind.i64 x.kind, Value.string x.text, Value.int IntKind.i64 x.n] 27) := ⟨_, rfl⟩
  have hB0 : Below w.heap.size w W0 := by rw [hW0]; exact (Below.refl _ _).alloc (Nat.le_refl _) _
  have hX0 : Blk W0 w.heap.size 27 #[.int .i64 x.kind, .string x.text, .int .i64 x.n] := by rw [hW0]; exact Blk.new _ _ _
  rw [← hW0]
  clear hW0
  have HB0 := Lib.hid hB0
  have HX0 := Lib.hid hX0
  clear hB0 hX0
  go_loopw [5, 6] (fun n s wr => ∃ i k : Nat, s = .int .i64 i ∧ n = .int .i64 k ∧ k = (below cmpSym (l.take i) x).length ∧ k ≤ i ∧ i ≤ l.length ∧ Below W0.heap.size W0 wr) (fun n s wr => l.length - (intOf s).toNat)
  case atStart => exact ⟨0, 0, rfl, rfl, by simp [below], Nat.le_refl _, Nat.zero_le _, Below.refl _ _⟩
  case round =>
    obtain ⟨i, k, rfl, rfl, hk, hki, hi, hB⟩ := hrel
    have HK := Lib.hid hk
    clear hk
    by_cases hlt : i < l.length
    · have hBw : Below w.heap.size w wr := HB0.out.trans (hB.mono HB0.out.size)
      obtain ⟨y, hy⟩ : ∃ y, y = l[i] := ⟨_, rfl⟩
      obtain ⟨g, off, rfl, hg, q0, q1, q2⟩ := sym_at (HRD.out.new_ hBw) hlt
      rw [← hy] at q0 q1 q2
      have hxr := HX0.out.new_ hB
      have hxl := hxr.lt
      have y0 := hxr.cell 0
      have y1 := hxr.cell 1
      have y2 := hxr.cell 2
      simp only [List.getElem?_toArray, List.getElem?_cons_zero, List.getElem?_cons_succ] at y0 y1 y2
      have HXR := Lib.hid hxr
      have HB := Lib.hid hB
      have HBw := Lib.hid hBw
      have HY := Lib.hid hy
      clear hB hBw hy hxr
      have b1 : (0 : Int) ≤ (i : Int) := by omega
      have b2 : (i : Int) < (l.length : Int) := by omega

      go_wp2_with fail
      go_region_held3 (fun w' => w'.cell? ⟨g, off + i * 3, none⟩ = some (.int .i64 y.kind) ∧ w'.cell? ⟨g, off + i * 3 + 1, none⟩ = some (.string y.text) ∧ w'.cell? ⟨g, off + i * 3 + 2, none⟩ = some (.int .i64 y.n) ∧ w'.cell? ⟨w.heap.size, 0, none⟩ = some (.int .i64 x.kind) ∧ w'.cell? ⟨w.heap.size, 1, none⟩ = some (.string x.text) ∧ w'.cell? ⟨w.heap.size, 2, none⟩ = some (.int .i64 x.n))
        (first | go_keep | (refine ⟨?_, ?_, ?_, ?_, ?_, ?_⟩ <;> exact (hb1.cell (by simpa using by assumption)).trans (by simp [*])))
        ((go_at_call 57; refine (before_is y x _).mono ?_; rintro e w1 ⟨rfl, hb1⟩))
      have HB1 := Lib.hid (Below.trans (HB.out.drew) (hb1.mono HB.out.size))
      clear hb1 q0 q1 q2 y0 y1 y2
      have hstep := below_take (x := x) hlt
      rw [← HY.out, ← HK.out] at hstep
      by_cases hc : cmpSym y x < 0
      · rw [if_pos hc] at hstep
        have HST := Lib.hid hstep
        clear hstep
        go_wp2_with fail
        go_roundw
        case rel => exact ⟨i + 1, k + 1, by go_num, by go_num, HST.out.symm, by omega, by omega, HB1.out⟩
        case measure => simp [intOf] <;> omega
      · rw [if_neg hc] at hstep
        have HST := Lib.hid hstep
        clear hstep
        go_wp2_with fail
        go_roundw
        case rel => exact ⟨i + 1, k, by go_num, rfl, HST.out.symm, by omega, by omega, HB1.out⟩
        case measure => simp [intOf] <;> omega
    · have hie : i = l.length := by omega
      subst hie
      have HB := Lib.hid hB
      clear hB
      go_wp2_with fail
      go_ret
      have e := HK.out
      rw [List.take_length] at e
      exact ⟨by rw [e]; rfl, HB0.out.trans (HB.out.mono HB0.out.size)⟩
end Go.Proofs.Ythhhhjllpejpgaa
