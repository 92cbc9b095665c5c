/-
  The walks of the document's own answers over symbols: Before, Has, Put, and of the law's below, without.
-/
import Derived.Test.YthhhhjllpejpgaaKitSyms
namespace Go.Proofs.Ythhhhjllpejpgaa
open Go.RowKit
attribute [local go_sem] eql_sym neq_sym

theorem cmpStr_lt {a b : ByteArray} : cmpStr a b < 0 ↔ Op.bytesLess a.toList b.toList = true := by
  unfold cmpStr
  split
  · simp_all
  · rename_i h
    split <;> simp_all
theorem cmpInt_lt {a b : Int} : cmpInt a b < 0 ↔ a < b := by
  unfold cmpInt
  split
  · simp_all
  · split
    · simp_all
    · simp_all
theorem dec_int (a b : Int) : decide (cmpInt a b < 0) = decide (a < b) := decide_eq_decide.2 cmpInt_lt
theorem dec_str (a b : ByteArray) : decide (cmpStr a b < 0) = Op.bytesLess a.toList b.toList := by
  rw [Bool.eq_iff_iff, decide_eq_true_iff]; exact cmpStr_lt
set_option maxRecDepth 100000 in
set_option maxHeartbeats 1000000 in
theorem before_is (a b : Sym) (w : World) : Calls Try.prog 57 #[.agg #[.int .i64 a.kind, .string a.text, .int .i64 a.n], .agg #[.int .i64 b.kind, .string b.text, .int .i64 b.n]] w fun e w' => e = .returned (.bool (decide (cmpSym a b < 0))) ∧ Below w.heap.size w w' := by
  obtain ⟨ak, at_, an⟩ := a
  obtain ⟨bk, bt, bn⟩ := b
  by_cases h1 : ak = bk
  · by_cases h2 : at_ = bt
    · have hc : cmpSym ⟨ak, at_, an⟩ ⟨bk, bt, bn⟩ = cmpInt an bn := by
        have e1 := cmpInt_eq.2 h1
        have e2 := cmpStr_eq.2 h2
        simp [cmpSym, andThen, e1, e2]
      have HC := Lib.hid hc
      subst h1; subst h2
      clear hc
      go_enter Try.func57, Try.ntmps57
      go_wp2_with fail
      go_ret
      refine ⟨?_, ((Below.refl _ _).alloc (Nat.le_refl _) _).alloc (by simp) _⟩
      rw [HC.out, dec_int]; rfl
    · have hc : cmpSym ⟨ak, at_, an⟩ ⟨bk, bt, bn⟩ = cmpStr at_ bt := by
        have e1 := cmpInt_eq.2 h1
        have e2 : cmpStr at_ bt ≠ 0 := fun h => h2 (cmpStr_eq.1 h)
        simp [cmpSym, andThen, e1, e2]
      have h3 : ¬ at_.toList = bt.toList := fun h => h2 (toList_inj h)
      have n3 : (at_.toList == bt.toList) = false := by simp [h3]
      have HC := Lib.hid hc
      subst h1
      clear hc h2
      go_enter Try.func57, Try.ntmps57
      go_wp2_with fail
      go_ret
      refine ⟨?_, ((Below.refl _ _).alloc (Nat.le_refl _) _).alloc (by simp) _⟩
      rw [HC.out, dec_str]; rfl
  · have hc : cmpSym ⟨ak, at_, an⟩ ⟨bk, bt, bn⟩ = cmpInt ak bk := by
      have e1 : cmpInt ak bk ≠ 0 := fun h => h1 (cmpInt_eq.1 h)
      simp [cmpSym, andThen, e1]
    have HC := Lib.hid hc
    clear hc
    go_enter Try.func57, Try.ntmps57
    go_wp2_with fail
    go_ret
    refine ⟨?_, ((Below.refl _ _).alloc (Nat.le_refl _) _).alloc (by simp) _⟩
    rw [HC.out, dec_int]; rfl
end Go.Proofs.Ythhhhjllpejpgaa
