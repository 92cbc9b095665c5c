/-
  The walk of the example that each law of chapter 1 asks for.
-/
import Derived.Test.YthhhhjllpejpgaaWorkSym
namespace Go.Proofs.Ythhhhjllpejpgaa
open Go.RowKit

def symS (n : Int) : Sym := ⟨1, ⟨#[83]⟩, n⟩
theorem cmp_symS (a b : Int) : cmpSym (symS a) (symS b) = cmpInt a b := by
  have h : cmpStr (⟨#[83]⟩ : ByteArray) ⟨#[83]⟩ = 0 := cmpStr_eq.2 rfl
  have h2 : cmpInt 1 1 = 0 := rfl
  simp [cmpSym, symS, andThen, h, h2]
theorem wakes_list : puts cmpSym [] [symS 2, symS 1, symS 2] = [symS 1, symS 2] := by
  simp [puts, put, has, below, above, cmp_symS, cmpInt]
theorem wakes_row (w : World) : RowRd (w.alloc (.cells #[.int .i64 1, .string ⟨#[83]⟩, .int .i64 2, .int .i64 1, .string ⟨#[83]⟩, .int .i64 1, .int .i64 1, .string ⟨#[83]⟩, .int .i64 2] 27)) 3 Sym.cells (some ⟨w.heap.size, 0, none⟩) 3 [symS 2, symS 1, symS 2] := by
  refine RowRd.of_cells (Nat.le_refl _) (by unfold maxLen; omega) (by simp) (fun k hk j u hu => ?_)
  rw [(Blk.new w _ _).cell, ← hu]
  have hj : j < 3 := by
    have := (List.getElem?_eq_some_iff.1 hu).1
    rwa [Sym.cells_length] at this
  clear hu
  match k, hk with
  | 0, _ => match j, hj with
    | 0, _ => rfl
    | 1, _ => rfl
    | 2, _ => rfl
  | 1, _ => match j, hj with
    | 0, _ => rfl
    | 1, _ => rfl
    | 2, _ => rfl
  | 2, _ => match j, hj with
    | 0, _ => rfl
    | 1, _ => rfl
    | 2, _ => rfl
set_option maxRecDepth 100000 in
set_option maxHeartbeats 2000000 in
theorem wakes_is (w : World) : Calls Try.prog 11 #[] w fun e w' => e = .returned (.bool true) ∧ Below w.heap.size w w' := by
  go_enter Try.func11, Try.ntmps11
  go_wp2_with fail
  have hrd := wakes_row w
  refine (new_Sym _ 3 [symS 2, symS 1, symS 2] _ hrd (by decide)).mono ?_
  clear hrd
  rintro e w1 ⟨k, rfl, hk, sn, A, c, hS, hA, hB⟩
  rw [wakes_list] at hS
  have hz := hB.size
  simp at hz hk
  have HB := Lib.hid ((((Below.refl w.heap.size w).alloc (Nat.le_refl _) _)).trans (hB.mono (by simp)))
  have HS := Lib.hid hS
  clear hS hA hB
  go_wp2_with fail
  refine (at_in_Sym k c sn A _ 0 _ HS.out (by decide) (symS 1) rfl).mono ?_
  rintro e w2 ⟨rfl, hB2⟩
  dsimp only [symS]
  have HS2 := Lib.hid (HS.out.new_ hB2)
  have HB2 := Lib.hid (HB.out.trans (hB2.mono (by omega)))
  have hz2 := hB2.size
  clear hB2 HB HS
  go_wp2_with fail
  refine (len_Sym k c sn A _ _ (HS2.out.new_ ((Below.refl _ _).alloc (Nat.le_refl _) _))).mono ?_
  rintro e w3 ⟨rfl, rfl⟩
  simp only [List.length_cons, List.length_nil]
  go_wp2_with fail
  go_ret
  exact ⟨rfl, HB2.out.alloc (by omega) _⟩
end Go.Proofs.Ythhhhjllpejpgaa
