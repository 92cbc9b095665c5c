/-
  Elements of working memory, and their Compare: Goal and Tag are not asked.
-/
import Derived.Test.YthhhhjllpejpgaaSetLeaf
namespace Go.Proofs.Ythhhhjllpejpgaa
open Go.RowKit
structure Elem where
  id : Sym
  attr : Sym
  value : Sym
  acc : Bool
  goal : Bool
  tag : Int
  deriving DecidableEq
def Elem.cells (x : Elem) : List Value := [.int .i64 x.id.kind, .string x.id.text, .int .i64 x.id.n, .int .i64 x.attr.kind, .string x.attr.text, .int .i64 x.attr.n, .int .i64 x.value.kind, .string x.value.text, .int .i64 x.value.n, .bool x.acc, .bool x.goal, .int .i64 x.tag]
theorem Elem.cells_length (x : Elem) : x.cells.length = 12 := rfl
def cmpBool (a b : Bool) : Int := if a = b then 0 else if b = true then -1 else 1
theorem tc_bool : TC cmpBool := by
  constructor
  · intro x; simp [cmpBool]
  · intro x y; cases x <;> cases y <;> simp [cmpBool]
  · intro x y z; cases x <;> cases y <;> cases z <;> simp [cmpBool]
def cmpElem (a b : Elem) : Int := andThen (cmpSym a.id b.id) (andThen (cmpSym a.attr b.attr) (andThen (cmpSym a.value b.value) (cmpBool a.acc b.acc)))
theorem tc_elem : TC cmpElem :=
  tc_andThen (f := Elem.id) (g := fun e : Elem => (e.attr, e.value, e.acc)) (c2 := fun x y => andThen (cmpSym x.1 y.1) (andThen (cmpSym x.2.1 y.2.1) (cmpBool x.2.2 y.2.2))) tc_sym
    (tc_andThen (f := fun x : Sym × Sym × Bool => x.1) (g := fun x : Sym × Sym × Bool => x.2) (c2 := fun x y => andThen (cmpSym x.1 y.1) (cmpBool x.2 y.2)) tc_sym
      (tc_andThen (f := fun x : Sym × Bool => x.1) (g := fun x : Sym × Bool => x.2) tc_sym tc_bool))
set_option maxRecDepth 100000 in
set_option maxHeartbeats 4000000 in
theorem cmp_elem (a b : Elem) (w : World) :
    Calls Try.prog 105 #[.agg #[.int .i64 a.id.kind, .string a.id.text, .int .i64 a.id.n, .int .i64 a.attr.kind, .string a.attr.text, .int .i64 a.attr.n, .int .i64 a.value.kind, .string a.value.text, .int .i64 a.value.n, .bool a.acc, .bool a.goal, .int .i64 a.tag], .agg #[.int .i64 b.id.kind, .string b.id.text, .int .i64 b.id.n, .int .i64 b.attr.kind, .string b.attr.text, .int .i64 b.attr.n, .int .i64 b.value.kind, .string b.value.text, .int .i64 b.value.n, .bool b.acc, .bool b.goal, .int .i64 b.tag]] w fun e w' => e = .returned (.int .i64 (cmpElem a b)) ∧ Below w.heap.size w w' := by
  obtain ⟨ai, aa, av, ac, ag, at_⟩ := a
  obtain ⟨bi, ba, bv, bc, bg, bt⟩ := b
  dsimp only
  by_cases h1 : cmpSym ai bi = 0
  · have n1 : (cmpSym ai bi != 0) = false := by simp [h1]
    by_cases h2 : cmpSym aa ba = 0
    · have n2 : (cmpSym aa ba != 0) = false := by simp [h2]
      by_cases h3 : cmpSym av bv = 0
      · have n3 : (cmpSym av bv != 0) = false := by simp [h3]
        have H0 : Hid (cmpElem ⟨ai, aa, av, ac, ag, at_⟩ ⟨bi, ba, bv, bc, bg, bt⟩ = cmpBool ac bc) := by simp [Hid, cmpElem, andThen, h1, h2, h3]
        clear h1 h2 h3
        cases ac <;> cases bc
        all_goals
          have HF : Hid (cmpElem _ _ = _) := H0
          clear H0
          go_enter Try.func105, Try.ntmps105
          go_wp2_with fail
          refine (cmp_sym ai bi _).mono ?_
          rintro e w1 ⟨rfl, hb1⟩
          obtain ⟨hc1, hf1⟩ := bcell hb1
          have hz1 : w.heap.size + 1 < w1.heap.size := by have := hb1.size; simp at this; omega
          have hy1 : w.heap.size < w1.heap.size := by omega
          have HB1 := Lib.hid ((((Below.refl w.heap.size w).alloc (Nat.le_refl _) _).alloc (by simp) _).trans (hb1.mono (by simp; omega)))
          clear hb1
          go_wp2_with fail
          refine (cmp_sym aa ba _).mono ?_
          rintro e w2 ⟨rfl, hb2⟩
          obtain ⟨hc2, hf2⟩ := bcell hb2
          have hz2 : w.heap.size + 1 < w2.heap.size := by have := hb2.size; omega
          have hy2 : w.heap.size < w2.heap.size := by omega
          have HB2 := Lib.hid (HB1.out.trans (hb2.mono (by omega)))
          clear hb2
          go_wp2_with fail
          refine (cmp_sym av bv _).mono ?_
          rintro e w3 ⟨rfl, hb3⟩
          obtain ⟨hc3, hf3⟩ := bcell hb3
          have hz3 : w.heap.size + 1 < w3.heap.size := by have := hb3.size; omega
          have hy3 : w.heap.size < w3.heap.size := by omega
          have HB3 := Lib.hid (HB2.out.trans (hb3.mono (by omega)))
          clear hb3
          go_wp2_with fail
          go_ret
          exact ⟨by rw [HF.out] <;> rfl, HB3.out⟩
      · have n3 : (cmpSym av bv != 0) = true := by simp [h3]
        have HF : Hid (cmpElem ⟨ai, aa, av, ac, ag, at_⟩ ⟨bi, ba, bv, bc, bg, bt⟩ = cmpSym av bv) := by simp [Hid, cmpElem, andThen, h1, h2, h3]
        clear h1 h2 h3
        go_enter Try.func105, Try.ntmps105
        go_wp2_with fail
        refine (cmp_sym ai bi _).mono ?_
        rintro e w1 ⟨rfl, hb1⟩
        obtain ⟨hc1, hf1⟩ := bcell hb1
        have hz1 : w.heap.size + 1 < w1.heap.size := by have := hb1.size; simp at this; omega
        have hy1 : w.heap.size < w1.heap.size := by omega
        have HB1 := Lib.hid ((((Below.refl w.heap.size w).alloc (Nat.le_refl _) _).alloc (by simp) _).trans (hb1.mono (by simp; omega)))
        clear hb1
        go_wp2_with fail
        refine (cmp_sym aa ba _).mono ?_
        rintro e w2 ⟨rfl, hb2⟩
        obtain ⟨hc2, hf2⟩ := bcell hb2
        have hz2 : w.heap.size + 1 < w2.heap.size := by have := hb2.size; omega
        have hy2 : w.heap.size < w2.heap.size := by omega
        have HB2 := Lib.hid (HB1.out.trans (hb2.mono (by omega)))
        clear hb2
        go_wp2_with fail
        refine (cmp_sym av bv _).mono ?_
        rintro e w3 ⟨rfl, hb3⟩
        obtain ⟨hc3, hf3⟩ := bcell hb3
        have hz3 : w.heap.size + 1 < w3.heap.size := by have := hb3.size; omega
        have hy3 : w.heap.size < w3.heap.size := by omega
        have HB3 := Lib.hid (HB2.out.trans (hb3.mono (by omega)))
        clear hb3
        go_wp2_with fail
        go_ret
        exact ⟨by rw [HF.out] <;> rfl, HB3.out⟩
    · have n2 : (cmpSym aa ba != 0) = true := by simp [h2]
      have HF : Hid (cmpElem ⟨ai, aa, av, ac, ag, at_⟩ ⟨bi, ba, bv, bc, bg, bt⟩ = cmpSym aa ba) := by simp [Hid, cmpElem, andThen, h1, h2]
      clear h1 h2
      go_enter Try.func105, Try.ntmps105
      go_wp2_with fail
      refine (cmp_sym ai bi _).mono ?_
      rintro e w1 ⟨rfl, hb1⟩
      obtain ⟨hc1, hf1⟩ := bcell hb1
      have hz1 : w.heap.size + 1 < w1.heap.size := by have := hb1.size; simp at this; omega
      have hy1 : w.heap.size < w1.heap.size := by omega
      have HB1 := Lib.hid ((((Below.refl w.heap.size w).alloc (Nat.le_refl _) _).alloc (by simp) _).trans (hb1.mono (by simp; omega)))
      clear hb1
      go_wp2_with fail
      refine (cmp_sym aa ba _).mono ?_
      rintro e w2 ⟨rfl, hb2⟩
      obtain ⟨hc2, hf2⟩ := bcell hb2
      have hz2 : w.heap.size + 1 < w2.heap.size := by have := hb2.size; omega
      have hy2 : w.heap.size < w2.heap.size := by omega
      have HB2 := Lib.hid (HB1.out.trans (hb2.mono (by omega)))
      clear hb2
      go_wp2_with fail
      go_ret
      exact ⟨by rw [HF.out] <;> rfl, HB2.out⟩
  · have n1 : (cmpSym ai bi != 0) = true := by simp [h1]
    have HF : Hid (cmpElem ⟨ai, aa, av, ac, ag, at_⟩ ⟨bi, ba, bv, bc, bg, bt⟩ = cmpSym ai bi) := by simp [Hid, cmpElem, andThen, h1]
    clear h1
    go_enter Try.func105, Try.ntmps105
    go_wp2_with fail
    refine (cmp_sym ai bi _).mono ?_
    rintro e w1 ⟨rfl, hb1⟩
    obtain ⟨hc1, hf1⟩ := bcell hb1
    have hz1 : w.heap.size + 1 < w1.heap.size := by have := hb1.size; simp at this; omega
    have hy1 : w.heap.size < w1.heap.size := by omega
    have HB1 := Lib.hid ((((Below.refl w.heap.size w).alloc (Nat.le_refl _) _).alloc (by simp) _).trans (hb1.mono (by simp; omega)))
    clear hb1
    go_wp2_with fail
    go_ret
    exact ⟨by rw [HF.out] <;> rfl, HB1.out⟩
end Go.Proofs.Ythhhhjllpejpgaa
