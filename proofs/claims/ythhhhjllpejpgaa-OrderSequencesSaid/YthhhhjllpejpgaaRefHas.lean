/-
  The walk of the document's Has: is one in a list?
-/
import Derived.Test.YthhhhjllpejpgaaRefBefore
namespace Go.Proofs.Ythhhhjllpejpgaa
open Go.RowKit
attribute [local go_sem] eql_sym neq_sym

theorem has_take {l : List Sym} {x : Sym} {i : Nat} (h : i < l.length) : has cmpSym (l.take (i + 1)) x = (has cmpSym (l.take i) x || decide (l[i] = x)) := by
  rw [List.take_add_one, List.getElem?_eq_getElem h]
  simp only [has, Option.toList_some, List.any_append, List.any_cons, List.any_nil, Bool.or_false]
  congr 1
  rw [Bool.eq_iff_iff]
  simp [cmpSym_eq]
set_option maxRecDepth 100000 in
set_option maxHeartbeats 2000000 in
theorem has_is (A : Option Addr) (c : Nat) (l : List Sym) (x : Sym) (w : World) (hrd : RowRd w 3 Sym.cells A c l) :
    Calls Try.prog 33 #[.slice A l.length c, .agg #[.int .i64 x.kind, .string x.text, .int .i64 x.n]] w fun e w' => e = .returned (.bool (has cmpSym l x)) ∧ Below w.heap.size w w' := by
  have HRD := Lib.hid hrd
  have hlc := hrd.cap
  clear hrd
  go_enter Try.func33, Try.ntmps33
  go_wp2_with fail
  obtain ⟨W0, hW0⟩ : ∃ W0, W0 = w.alloc (Obj.cells #[Value.int IntKind.i64 x.kind, Value.string x.text, Value.int IntKind.i64 x.n] 27) := ⟨_, rfl⟩
  have hB0 : Below w.heap.size w W0 := by rw [hW0]; exact (Below.refl _ _).alloc (Nat.le_refl _) _
  have hX0 : Blk W0 w.heap.size 27 #[.int .i64 x.kind, .string x.text, .int .i64 x.n] := by rw [hW0]; exact Blk.new _ _ _
  rw [← hW0]
  clear hW0
  have HB0 := Lib.hid hB0
  have HX0 := Lib.hid hX0
  clear hB0 hX0
  go_loopw [5] (fun s wr => ∃ i : Nat, s = .int .i64 i ∧ has cmpSym (l.take i) x = false ∧ i ≤ l.length ∧ Below W0.heap.size W0 wr) (fun s wr => l.length - (intOf s).toNat)
  case atStart => exact ⟨0, rfl, by simp [has], Nat.zero_le _, Below.refl _ _⟩
  case round =>
    obtain ⟨i, rfl, hk, hi, hB⟩ := hrel
    have HK := Lib.hid hk
    clear hk
    by_cases hlt : i < l.length
    · have hBw : Below w.heap.size w wr := HB0.out.trans (hB.mono HB0.out.size)
      obtain ⟨y, hy⟩ : ∃ y, y = l[i] := ⟨_, rfl⟩
      obtain ⟨g, off, rfl, hg, q0, q1, q2⟩ := sym_at (HRD.out.new_ hBw) hlt
      rw [← hy] at q0 q1 q2
      have hxr := HX0.out.new_ hB
      have hxl := hxr.lt
      have y0 := hxr.cell 0
      have y1 := hxr.cell 1
      have y2 := hxr.cell 2
      simp only [List.getElem?_toArray, List.getElem?_cons_zero, List.getElem?_cons_succ] at y0 y1 y2
      have HXR := Lib.hid hxr
      have HB := Lib.hid hB
      have HBw := Lib.hid hBw
      have HY := Lib.hid hy
      clear hB hBw hy hxr
      have b1 : (0 : Int) ≤ (i : Int) := by omega
      have b2 : (i : Int) < (l.length : Int) := by omega

      have hbe := eql_sym y x
      have hstep := has_take (x := x) hlt
      rw [← HY.out, HK.out, Bool.false_or] at hstep
      by_cases he : y = x
      · have t2 : decide (y = x) = true := by simpa using he
        rw [t2] at hbe hstep
        have HE := Lib.hid hstep
        clear he hstep
        go_wp2_with fail
        go_quiet (fail)
        clear q0 q1 q2 y0 y1 y2
        go_wp2_with fail
        go_ret
        have e : has cmpSym l x = true := by
          rw [has_iff]
          obtain ⟨z, hz, hz2⟩ := has_iff.1 HE.out
          exact ⟨z, List.mem_of_mem_take hz, hz2⟩
        exact ⟨by rw [e]; rfl, Below.drewN' HBw.out nq⟩
      · have t2 : decide (y = x) = false := by simpa using he
        rw [t2] at hbe hstep
        have HE := Lib.hid hstep
        clear he hstep
        go_wp2_with fail
        go_quiet (fail)
        have HB1 := Lib.hid (Below.drewN' HB.out nq)
        clear q0 q1 q2 y0 y1 y2
        go_wp2_with fail
        go_roundw
        case rel => exact ⟨i + 1, by go_num, HE.out, by omega, HB1.out⟩
        case measure => simp [intOf] <;> omega
    · have hie : i = l.length := by omega
      subst hie
      have HB := Lib.hid hB
      clear hB
      go_wp2_with fail
      go_ret
      have e := HK.out
      rw [List.take_length] at e
      exact ⟨by rw [e]; rfl, HB0.out.trans (HB.out.mono HB0.out.size)⟩
end Go.Proofs.Ythhhhjllpejpgaa
