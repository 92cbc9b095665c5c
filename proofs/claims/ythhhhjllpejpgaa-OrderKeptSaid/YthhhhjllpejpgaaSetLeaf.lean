/-
  The walks of cmp.Compare at numbers and texts, and of a symbol's, a number's, an element's Compare: each answers what its Lean function says, and makes nothing but new memory.
-/
import Derived.Test.YthhhhjllpejpgaaRows
import Derived.Test.YthhhhjllpejpgaaPlain
import Derived.Test.YthhhhjllpejpgaaMem
namespace Go.Proofs.Ythhhhjllpejpgaa
open Go.RowKit

def Sym.cells (s : Sym) : List Value := [.int .i64 s.kind, .string s.text, .int .i64 s.n]
theorem Sym.cells_length (s : Sym) : s.cells.length = 3 := rfl

set_option maxHeartbeats 400000 in
theorem isNaN_int (a : Int) (w : World) : Calls Try.prog 92 #[.int .i64 a] w fun e w' => e = .returned (.bool false) ∧ w = w' := by
  go_enter Try.func92, Try.ntmps92
  go_wp2
  go_ret
  exact ⟨by simp, rfl⟩
set_option maxHeartbeats 400000 in
theorem isNaN_str (a : ByteArray) (w : World) : Calls Try.prog 93 #[.string a] w fun e w' => e = .returned (.bool false) ∧ w = w' := by
  go_enter Try.func93, Try.ntmps93
  go_wp2
  go_ret
  exact ⟨by simp, rfl⟩
set_option maxHeartbeats 400000 in
theorem cmp_int (a b : Int) (w : World) : Calls Try.prog 90 #[.int .i64 a, .int .i64 b] w fun e w' => e = .returned (.int .i64 (cmpInt a b)) ∧ w = w' := by
  go_enter Try.func90, Try.ntmps90
  go_wp2_with (go_at_call 92; refine (isNaN_int _ _).mono ?_; rintro e w' ⟨rfl, rfl⟩)
  all_goals (go_ret; refine ⟨?_, rfl⟩; unfold cmpInt; (repeat' split) <;> first | rfl | (exfalso; omega))
set_option maxHeartbeats 400000 in
theorem cmp_str (a b : ByteArray) (w : World) : Calls Try.prog 91 #[.string a, .string b] w fun e w' => e = .returned (.int .i64 (cmpStr a b)) ∧ w = w' := by
  go_enter Try.func91, Try.ntmps91
  go_wp2_with (go_at_call 93; refine (isNaN_str _ _).mono ?_; rintro e w' ⟨rfl, rfl⟩)
  all_goals (go_ret; refine ⟨?_, rfl⟩; unfold cmpStr; (repeat' split) <;> first | rfl | (exfalso; simp_all))

set_option maxRecDepth 100000 in
set_option maxHeartbeats 400000 in
theorem cmp_sym (a b : Sym) (w : World) :
    Calls Try.prog 89 #[.agg #[.int .i64 a.kind, .string a.text, .int .i64 a.n], .agg #[.int .i64 b.kind, .string b.text, .int .i64 b.n]] w fun e w' => e = .returned (.int .i64 (cmpSym a b)) ∧ Below w.heap.size w w' := by
  obtain ⟨ak, at_, an⟩ := a
  obtain ⟨bk, bt, bn⟩ := b
  by_cases h1 : cmpInt ak bk = 0
  · have n1 : (cmpInt ak bk != 0) = false := by simp [h1]
    by_cases h2 : cmpStr at_ bt = 0
    · have n2 : (cmpStr at_ bt != 0) = false := by simp [h2]
      have HF : Hid (cmpSym ⟨ak, at_, an⟩ ⟨bk, bt, bn⟩ = cmpInt an bn) := by simp [Hid, cmpSym, andThen, h1, h2]
      clear h1 h2
      go_enter Try.func89, Try.ntmps89
      go_wp2_with (first | (go_at_call 90; refine (cmp_int _ _ _).mono ?_; rintro e w' ⟨rfl, rfl⟩) | (go_at_call 91; refine (cmp_str _ _ _).mono ?_; rintro e w' ⟨rfl, rfl⟩))
      go_ret
      exact ⟨by rw [HF.out]; rfl, ((Below.refl _ _).alloc (Nat.le_refl _) _).alloc (by simp) _⟩
    · have n2 : (cmpStr at_ bt != 0) = true := by simp [h2]
      have HF : Hid (cmpSym ⟨ak, at_, an⟩ ⟨bk, bt, bn⟩ = cmpStr at_ bt) := by simp [Hid, cmpSym, andThen, h1, h2]
      clear h1 h2
      go_enter Try.func89, Try.ntmps89
      go_wp2_with (first | (go_at_call 90; refine (cmp_int _ _ _).mono ?_; rintro e w' ⟨rfl, rfl⟩) | (go_at_call 91; refine (cmp_str _ _ _).mono ?_; rintro e w' ⟨rfl, rfl⟩))
      go_ret
      exact ⟨by rw [HF.out]; rfl, ((Below.refl _ _).alloc (Nat.le_refl _) _).alloc (by simp) _⟩
  · have n1 : (cmpInt ak bk != 0) = true := by simp [h1]
    have HF : Hid (cmpSym ⟨ak, at_, an⟩ ⟨bk, bt, bn⟩ = cmpInt ak bk) := by simp [Hid, cmpSym, andThen, h1]
    clear h1
    go_enter Try.func89, Try.ntmps89
    go_wp2_with (first | (go_at_call 90; refine (cmp_int _ _ _).mono ?_; rintro e w' ⟨rfl, rfl⟩) | (go_at_call 91; refine (cmp_str _ _ _).mono ?_; rintro e w' ⟨rfl, rfl⟩))
    go_ret
    exact ⟨by rw [HF.out]; rfl, ((Below.refl _ _).alloc (Nat.le_refl _) _).alloc (by simp) _⟩
end Go.Proofs.Ythhhhjllpejpgaa
