/-
  Numbers of the statement's own type, and their Compare.
-/
import Derived.Test.YthhhhjllpejpgaaSetLeaf
import Derived.Test.YthhhhjllpejpgaaScal
namespace Go.Proofs.Ythhhhjllpejpgaa
open Go.RowKit
abbrev Num := Int
def Num.cells (n : Num) : List Value := [.int .i64 n]
theorem Num.cells_length (n : Num) : (Num.cells n).length = 1 := rfl
def cmpNum (a b : Num) : Int := cmpInt a b
theorem tc_num : TC cmpNum := tc_int
theorem cmpNum_eq {a b : Num} : cmpNum a b = 0 ↔ a = b := cmpInt_eq
set_option maxHeartbeats 400000 in
theorem cmp_num (a b : Num) (w : World) : Calls Try.prog 99 #[.int .i64 a, .int .i64 b] w fun e w' => e = .returned (.int .i64 (cmpNum a b)) ∧ Below w.heap.size w w' := by
  go_enter Try.func99, Try.ntmps99
  go_wp2
  all_goals (go_ret; refine ⟨?_, Below.refl _ _⟩; unfold cmpNum cmpInt; (repeat' split) <;> first | rfl | (exfalso; omega))
end Go.Proofs.Ythhhhjllpejpgaa
