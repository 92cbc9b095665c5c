/-
  Pages of a map from letters to numbers, and their Compare: by the letters alone.
-/
import Derived.Test.YtlkffnmmphehdaaSetLeaf
namespace Go.Proofs.Ytlkffnmmphehdaa
open Go.RowKit
structure Page where
  key : UInt8
  v : Int
  deriving DecidableEq
def Page.kk (p : Page) : Int := (p.key.toNat : Int)
theorem Page.kk_bd (p : Page) : 0 ≤ p.kk ∧ p.kk ≤ 255 := by
  unfold Page.kk
  have := p.key.toNat_lt
  omega
def Page.cells (p : Page) : List Value := [.int .u8 p.kk, .int .i64 p.v]
theorem Page.cells_length (p : Page) : p.cells.length = 2 := rfl
def cmpPage (a b : Page) : Int := a.kk - b.kk
theorem tc_page : TC cmpPage := ⟨fun x => by unfold cmpPage; omega, fun x y => by unfold cmpPage; omega, fun x y z => by unfold cmpPage; omega⟩
theorem cmpPage_eq {a b : Page} : cmpPage a b = 0 ↔ a.key = b.key := by
  unfold cmpPage Page.kk
  constructor
  · intro h
    exact UInt8.toNat_inj.1 (by omega)
  · intro h
    rw [h]; omega
set_option maxHeartbeats 400000 in
theorem cmp_letter (a b : Int) (ha : 0 ≤ a) (ha2 : a ≤ 255) (hb : 0 ≤ b) (hb2 : b ≤ 255) (w : World) : Calls Try.prog 94 #[.int .u8 a, .int .u8 b] w fun e w' => e = .returned (.int .i64 (a - b)) ∧ w = w' := by
  have v1 : IntKind.i64.wrap a = a := IntWalk.i64_in _ (by omega)
  have v2 : IntKind.i64.wrap b = b := IntWalk.i64_in _ (by omega)
  have v3 : IntKind.i64.wrap (a - b) = a - b := IntWalk.i64_in _ (by omega)
  go_enter Try.func94, Try.ntmps94
  go_wp2
  go_ret
  exact ⟨rfl, rfl⟩
theorem nilAhead_letter (k : Int) (w : World) : (nilAhead 224 73 (.int .u8 k) "Compare").run Try.prog w = .ok (some false) w := by kernel_rfl
theorem method_letter (k : Int) (w : World) : (method 224 73 (.int .u8 k) "Compare").run Try.prog w = .ok (94, .int .u8 k) w := by kernel_rfl
set_option maxHeartbeats 1000000 in
theorem cmp_page (a b : Page) (w : World) : Calls Try.prog 99 #[.agg #[.int .u8 a.kk, .int .i64 a.v], .agg #[.int .u8 b.kk, .int .i64 b.v]] w fun e w' => e = .returned (.int .i64 (cmpPage a b)) ∧ Below w.heap.size w w' := by
  have ha := a.kk_bd
  have hb := b.kk_bd
  have N := nilAhead_letter
  have M := method_letter
  go_enter Try.func99, Try.ntmps99
  go_wp2_with fail
  refine (cmp_letter a.kk b.kk ha.1 ha.2 hb.1 hb.2 _).mono ?_
  rintro e w' ⟨rfl, rfl⟩
  go_wp2_with fail
  go_ret
  exact ⟨rfl, ((Below.refl _ _).alloc (Nat.le_refl _) _).alloc (by simp) _⟩
end Go.Proofs.Ytlkffnmmphehdaa
