/-
  The law on texts that are a symbol's: its walk.
-/
import Derived.Test.YtlkffnmmphehdaaTabWakes
import Derived.Test.YtlkffnmmphehdaaSymParseR
namespace Go.Proofs.Ytlkffnmmphehdaa
open Go.RowKit
set_option maxRecDepth 100000 in
set_option maxHeartbeats 4000000 in
theorem parses_walk (t : ByteArray) (w : World) : Calls Try.prog 4 #[.string t] w fun e w' => e = .returned (.bool true) ∧ Below w.heap.size w w' := by
  by_cases h1 : 200 < t.size
  · have t1 : decide ((200 : Int) < (t.size : Int)) = true := by simp; omega
    clear h1
    go_enter Try.func4, Try.ntmps4
    go_wp2_with fail
    refine (wakes4_is _).mono ?_
    rintro e w1 ⟨rfl, hb1⟩
    have HB1 := Lib.hid hb1
    clear hb1
    go_wp2_with fail
    go_ret
    exact ⟨rfl, HB1.out⟩
  have t1 : decide ((200 : Int) < (t.size : Int)) = false := by simp; omega
  have hts : (t.size : Int) ≤ 1000000000 := by omega
  clear h1
  have main : ∀ (k n : Int) (tx : ByteArray) (ok : Bool), symRes (parseB t) = .tuple #[.agg #[.int .i64 k, .string tx, .int .i64 n], .bool ok] → Calls Try.prog 4 #[.string t] w fun e w' => e = .returned (.bool true) ∧ Below w.heap.size w w' := by
    intro k n tx ok hr
    have HR := Lib.hid hr
    clear hr
    go_enter Try.func4, Try.ntmps4
    go_wp2_with fail
    refine (parse_is t hts _).mono ?_
    rintro e w1 ⟨rfl, hb1⟩
    rw [HR.out]
    have HB1 := Lib.hid hb1
    clear hb1
    go_wp2_with fail
    obtain ⟨W, hW⟩ : ∃ W, W = w1.alloc (Obj.cells #[Value.int IntKind.i64 k, Value.string tx, Value.int IntKind.i64 n] 23) := ⟨_, rfl⟩
    have hX : Blk W w1.heap.size 23 #[.int .i64 k, .string tx, .int .i64 n] := by rw [hW]; exact Blk.new _ _ _
    have hB0 : Below w.heap.size w W := by rw [hW]; exact HB1.out.alloc HB1.out.size _
    rw [← hW]
    clear hW
    refine (rparse_is t hts _).mono ?_
    rintro e w2 ⟨rfl, hb2⟩
    rw [HR.out]
    have hX2 := hX.new_ hb2
    have y0 : w2.cell? ⟨w1.heap.size, 0, none⟩ = some (.int .i64 k) := (hX2.cell 0).trans rfl
    have y1 : w2.cell? ⟨w1.heap.size, 1, none⟩ = some (.string tx) := (hX2.cell 1).trans rfl
    have y2 : w2.cell? ⟨w1.heap.size, 2, none⟩ = some (.int .i64 n) := (hX2.cell 2).trans rfl
    have hxl := hX2.lt
    have HB2 := Lib.hid (hB0.trans (hb2.mono hB0.size))
    clear hX hB0 hb2 hX2
    cases ok
    all_goals
      go_wp2_with (first | (go_at_call 17; refine (word_is _ _).mono ?_; rintro e w' ⟨rfl, rfl⟩) | (go_at_call 18; refine (rword_is _ _).mono ?_; rintro e w' ⟨rfl, rfl⟩))
      refine (wakes4_is _).mono ?_
      rintro e w3 ⟨rfl, hb3⟩
      have HB3 := Lib.hid ((HB2.out.alloc HB2.out.size _).trans (hb3.mono (by have := HB2.out.size; simp; omega)))
      clear hb3 y0 y1 y2
      go_wp2_with fail
      go_ret
      exact ⟨rfl, HB3.out⟩
  cases hp : parseB t with
  | none => exact main 0 0 ⟨#[]⟩ false (by rw [hp]; rfl)
  | some s => exact main s.kind s.n s.text true (by rw [hp]; rfl)
end Go.Proofs.Ytlkffnmmphehdaa
