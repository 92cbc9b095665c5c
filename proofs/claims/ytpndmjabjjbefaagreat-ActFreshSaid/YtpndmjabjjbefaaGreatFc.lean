/-
  Texts put together: Shape4, ShapeWalk, Shape5, Shape2, Shape6, Act4, Act5, LeafPage.
-/
import Derived.Test.YtpndmjabjjbefaaGreatFb
import Derived.Test.YtpndmjabjjbefaaGreatFa
namespace Go.Proofs.YtpndmjabjjbefaaGreat
open Go.RowKit Go.Shelf
set_option maxRecDepth 100000 in
set_option maxHeartbeats 4000000 in
theorem tests_is {D : Nat → Prop} (A : Option Addr) (c : Nat) (l : List TestT) (w : World) (h : RowR repTestT D w A c l) : Calls Tryz.prog 113 #[.slice A l.length c] w fun e w' => e = .returned (.bool (l.all testB)) ∧ Below w.heap.size w w' := by
 have HR := Lib.hid h
 have hlc := h.cap
 clear h
 go_enter Tryz.func113, Tryz.ntmps113
 go_wp2_with fail
 go_loopw [7] (fun s wr => ∃ i : Nat, s = .int .i64 i ∧ i ≤ l.length ∧ (∀ k, (h : k < l.length) → k < i → testB l[k] = true) ∧ Below w.heap.size w wr) (fun s wr => l.length - (intOf s).toNat)
 case atStart => exact ⟨0, rfl, Nat.zero_le _, fun k _ h => absurd h (by omega), Below.refl _ _⟩
 case round =>
  obtain ⟨i, rfl, hi, hall, hB⟩ := hrel
  have HALL := Lib.hid hall
  have HB := Lib.hid hB
  clear hall hB
  by_cases hlt : i < l.length
  · obtain ⟨y, hy⟩ : ∃ y, y = l[i] := ⟨_, rfl⟩
    obtain ⟨g, off, A1, c1, rfl, _, hg, q0, q1, q2, q3, q4, q5, hrow⟩ := at_TestT (HR.out.new_ HB.out) hlt
    rw [← hy] at q0 q1 q2 q3 q4 q5 hrow
    have HROW := Lib.hid (show RowRd wr 3 Sym.cells A1 c1 y.list from RowR.rd (hs := Sym.cells_length) hrow)
    have HY := Lib.hid hy
    have b1 : (0 : Int) ≤ (i : Int) := by omega
    have b2 : (i : Int) < (l.length : Int) := by omega
    have hzr := HB.out.size
    clear hy hrow
    go_wp2_with fail
    refine (test_is y A1 c1 _ (HROW.out.new_ (by (repeat (first | exact Below.refl _ _ | refine Below.drew ?_ | refine Below.al ?_ _ | refine Below.sc ?_ _))))).mono ?_
    rintro e w9 ⟨rfl, hb9⟩
    have HB9 := Lib.hid (HB.out.trans ((Below.trans (show Below wr.heap.size wr _ from (by (repeat (first | exact Below.refl _ _ | refine Below.drew ?_ | refine Below.al ?_ _ | refine Below.sc ?_ _)))) (hb9.mono (by simp)) : Below wr.heap.size wr w9).mono hzr))
    clear hb9 q0 q1 q2 q3 q4 q5
    cases hcb : testB y
    · have HRf := Lib.hid (show l.all testB = false from List.all_eq_false.2 ⟨y, by rw [HY.out]; exact List.getElem_mem hlt, by rw [hcb]; simp⟩)
      clear hcb
      go_wp2_with fail
      go_ret
      exact ⟨by rw [HRf.out] <;> rfl, HB9.out⟩
    · have HCB := Lib.hid hcb
      clear hcb
      go_wp2_with fail
      go_roundw
      case rel => exact ⟨i + 1, by go_num, by omega, fun k hk hki => by
       by_cases e : k = i
       · subst e; rw [← HY.out]; exact HCB.out
       · exact HALL.out k hk (by omega), HB9.out⟩
      case measure => simp [intOf] <;> omega
  · have hie : i = l.length := by omega
    subst hie
    have HRt := Lib.hid (show l.all testB = true from List.all_eq_true.2 (fun x hx => by
     obtain ⟨k, hk, rfl⟩ := List.getElem_of_mem hx
     exact HALL.out k hk hk))
    go_wp2_with fail
    go_ret
    exact ⟨by rw [HRt.out] <;> rfl, HB.out⟩
set_option maxRecDepth 100000 in
set_option maxHeartbeats 8000000 in
theorem cond_is {D : Nat → Prop} (x : CondT) (deep : Nat) (A1 A2 A3 : Option Addr) (c1 c2 c3 : Nat) (w : World) (h1 : RowR repTestT D w A1 c1 x.attr) (h2 : RowR repTestT D w A2 c2 x.value) (hn3 : (x.conds.length : Int) ≤ 9223372036854775807) :
 Calls Tryz.prog 95 #[.agg #[.int .i64 x.kind, .bool x.goal, .string x.id, .slice A1 x.attr.length c1, .slice A2 x.value.length c2, .bool x.acc, .slice A3 x.conds.length c3], .int .i64 deep] w fun e w' => e = .returned (.int .i64 (condE x deep)) ∧ Below w.heap.size w w' := by
 have H1 := Lib.hid h1
 have H2 := Lib.hid h2
 have hl1 := h1.cap
 have hl2 := h2.cap
 clear h1 h2
 go_enter Tryz.func95, Tryz.ntmps95
 go_upto_region 1 with fail
 obtain ⟨W1, hW1⟩ : ∃ W1, W1 = w.alloc (.cells #[.int .i64 x.kind, .bool x.goal, .string x.id, .slice A1 x.attr.length c1, .slice A2 x.value.length c2, .bool x.acc, .slice A3 x.conds.length c3] 62) := ⟨_, rfl⟩
 rw [← hW1]
 have hBk : Blk W1 w.heap.size 62 #[.int .i64 x.kind, .bool x.goal, .string x.id, .slice A1 x.attr.length c1, .slice A2 x.value.length c2, .bool x.acc, .slice A3 x.conds.length c3] := by rw [hW1]; exact Blk.new _ _ _
 have HB := Lib.hid (show Below w.heap.size w W1 by rw [hW1]; exact (Below.refl _ _).alloc (Nat.le_refl _) _)
 obtain ⟨e0, e1, e2, e3, e4, e5, e6⟩ := hBk.c7
 have hbl := hBk.lt
 have HK := Lib.hid hBk
 clear hW1 hBk
 by_cases hk3 : x.kind = 3
 · have hk3x := hk3
   by_cases hg : x.goal = true
   · have k3 : (x.kind == 3) = true := by simp [*]
     have k3b : decide (x.kind = 3) = true := by simp [*]
     have g1 := hg
     have HR := Lib.hid (show condE x deep = 9 by simp [condE, *])
     clear hk3 hk3x hg
     go_wp2_with (first | (go_at_call 81; refine (word_is x.id _).mono ?_; rintro e w9 ⟨rfl, rfl⟩) | (go_at_call 113; (first | (with_reducible refine (tests_is A1 c1 x.attr _ (H1.out.new_ HB.out)).mono ?_) | (with_reducible refine (tests_is A2 c2 x.value _ (H2.out.new_ HB.out)).mono ?_)); rintro e w9 ⟨rfl, hb9⟩; have HB := Lib.hid (HB.out.trans (hb9.mono HB.out.size)); have HK := Lib.hid (HK.out.new_ hb9); clear e0 e1 e2 e3 e4 e5 e6 hbl hb9; obtain ⟨e0, e1, e2, e3, e4, e5, e6⟩ := HK.out.c7; have hbl := HK.out.lt))
     go_ret
     exact ⟨by rw [HR.out] <;> rfl, HB.out⟩
   by_cases hv : ¬ x.id.toList = []
   · have k3 : (x.kind == 3) = true := by simp [*]
     have k3b : decide (x.kind = 3) = true := by simp [*]
     have g1 : x.goal = false := by simpa using hg
     have v1 : (x.id.toList == []) = false := by simp [hv]
     have v2 : x.id.toList.isEmpty = false := by simp [hv]
     have v3 : decide (x.id.toList = []) = false := by simp [hv]
     have HR := Lib.hid (show condE x deep = 9 by simp [condE, *])
     clear hk3 hk3x hg hv
     go_wp2_with (first | (go_at_call 81; refine (word_is x.id _).mono ?_; rintro e w9 ⟨rfl, rfl⟩) | (go_at_call 113; (first | (with_reducible refine (tests_is A1 c1 x.attr _ (H1.out.new_ HB.out)).mono ?_) | (with_reducible refine (tests_is A2 c2 x.value _ (H2.out.new_ HB.out)).mono ?_)); rintro e w9 ⟨rfl, hb9⟩; have HB := Lib.hid (HB.out.trans (hb9.mono HB.out.size)); have HK := Lib.hid (HK.out.new_ hb9); clear e0 e1 e2 e3 e4 e5 e6 hbl hb9; obtain ⟨e0, e1, e2, e3, e4, e5, e6⟩ := HK.out.c7; have hbl := HK.out.lt))
     go_ret
     exact ⟨by rw [HR.out] <;> rfl, HB.out⟩
   by_cases ha : 0 < x.attr.length
   · have k3 : (x.kind == 3) = true := by simp [*]
     have k3b : decide (x.kind = 3) = true := by simp [*]
     have g1 : x.goal = false := by simpa using hg
     have hv2 : x.id.toList = [] := Classical.byContradiction hv
     have v1 : (x.id.toList == []) = true := by simp [hv2]
     have v2 : x.id.toList.isEmpty = true := by simp [hv2]
     have v3 : decide (x.id.toList = []) = true := by simp [hv2]
     have aa : decide ((0 : Int) < (x.attr.length : Int)) = true := decide_eq_true (by omega)
     have ab : decide (0 < x.attr.length) = true := decide_eq_true (by omega)
     have HR := Lib.hid (show condE x deep = 9 by simp [condE, *])
     clear hk3 hk3x hg hv ha
     go_wp2_with (first | (go_at_call 81; refine (word_is x.id _).mono ?_; rintro e w9 ⟨rfl, rfl⟩) | (go_at_call 113; (first | (with_reducible refine (tests_is A1 c1 x.attr _ (H1.out.new_ HB.out)).mono ?_) | (with_reducible refine (tests_is A2 c2 x.value _ (H2.out.new_ HB.out)).mono ?_)); rintro e w9 ⟨rfl, hb9⟩; have HB := Lib.hid (HB.out.trans (hb9.mono HB.out.size)); have HK := Lib.hid (HK.out.new_ hb9); clear e0 e1 e2 e3 e4 e5 e6 hbl hb9; obtain ⟨e0, e1, e2, e3, e4, e5, e6⟩ := HK.out.c7; have hbl := HK.out.lt))
     go_ret
     exact ⟨by rw [HR.out] <;> rfl, HB.out⟩
   by_cases hb : 0 < x.value.length
   · have k3 : (x.kind == 3) = true := by simp [*]
     have k3b : decide (x.kind = 3) = true := by simp [*]
     have g1 : x.goal = false := by simpa using hg
     have hv2 : x.id.toList = [] := Classical.byContradiction hv
     have v1 : (x.id.toList == []) = true := by simp [hv2]
     have v2 : x.id.toList.isEmpty = true := by simp [hv2]
     have v3 : decide (x.id.toList = []) = true := by simp [hv2]
     have aa : decide ((0 : Int) < (x.attr.length : Int)) = false := decide_eq_false (by omega)
     have ab : decide (0 < x.attr.length) = false := decide_eq_false (by omega)
     have ba : decide ((0 : Int) < (x.value.length : Int)) = true := decide_eq_true (by omega)
     have bb : decide (0 < x.value.length) = true := decide_eq_true (by omega)
     have HR := Lib.hid (show condE x deep = 9 by simp [condE, *])
     clear hk3 hk3x hg hv ha hb
     go_wp2_with (first | (go_at_call 81; refine (word_is x.id _).mono ?_; rintro e w9 ⟨rfl, rfl⟩) | (go_at_call 113; (first | (with_reducible refine (tests_is A1 c1 x.attr _ (H1.out.new_ HB.out)).mono ?_) | (with_reducible refine (tests_is A2 c2 x.value _ (H2.out.new_ HB.out)).mono ?_)); rintro e w9 ⟨rfl, hb9⟩; have HB := Lib.hid (HB.out.trans (hb9.mono HB.out.size)); have HK := Lib.hid (HK.out.new_ hb9); clear e0 e1 e2 e3 e4 e5 e6 hbl hb9; obtain ⟨e0, e1, e2, e3, e4, e5, e6⟩ := HK.out.c7; have hbl := HK.out.lt))
     go_ret
     exact ⟨by rw [HR.out] <;> rfl, HB.out⟩
   by_cases hc : x.acc = true
   · have k3 : (x.kind == 3) = true := by simp [*]
     have k3b : decide (x.kind = 3) = true := by simp [*]
     have g1 : x.goal = false := by simpa using hg
     have hv2 : x.id.toList = [] := Classical.byContradiction hv
     have v1 : (x.id.toList == []) = true := by simp [hv2]
     have v2 : x.id.toList.isEmpty = true := by simp [hv2]
     have v3 : decide (x.id.toList = []) = true := by simp [hv2]
     have aa : decide ((0 : Int) < (x.attr.length : Int)) = false := decide_eq_false (by omega)
     have ab : decide (0 < x.attr.length) = false := decide_eq_false (by omega)
     have ba : decide ((0 : Int) < (x.value.length : Int)) = false := decide_eq_false (by omega)
     have bb : decide (0 < x.value.length) = false := decide_eq_false (by omega)
     have g2 := hc
     have HR := Lib.hid (show condE x deep = 9 by simp [condE, *])
     clear hk3 hk3x hg hv ha hb hc
     go_wp2_with (first | (go_at_call 81; refine (word_is x.id _).mono ?_; rintro e w9 ⟨rfl, rfl⟩) | (go_at_call 113; (first | (with_reducible refine (tests_is A1 c1 x.attr _ (H1.out.new_ HB.out)).mono ?_) | (with_reducible refine (tests_is A2 c2 x.value _ (H2.out.new_ HB.out)).mono ?_)); rintro e w9 ⟨rfl, hb9⟩; have HB := Lib.hid (HB.out.trans (hb9.mono HB.out.size)); have HK := Lib.hid (HK.out.new_ hb9); clear e0 e1 e2 e3 e4 e5 e6 hbl hb9; obtain ⟨e0, e1, e2, e3, e4, e5, e6⟩ := HK.out.c7; have hbl := HK.out.lt))
     go_ret
     exact ⟨by rw [HR.out] <;> rfl, HB.out⟩
   by_cases hd : x.conds.length = 0
   · have k3 : (x.kind == 3) = true := by simp [*]
     have k3b : decide (x.kind = 3) = true := by simp [*]
     have g1 : x.goal = false := by simpa using hg
     have hv2 : x.id.toList = [] := Classical.byContradiction hv
     have v1 : (x.id.toList == []) = true := by simp [hv2]
     have v2 : x.id.toList.isEmpty = true := by simp [hv2]
     have v3 : decide (x.id.toList = []) = true := by simp [hv2]
     have aa : decide ((0 : Int) < (x.attr.length : Int)) = false := decide_eq_false (by omega)
     have ab : decide (0 < x.attr.length) = false := decide_eq_false (by omega)
     have ba : decide ((0 : Int) < (x.value.length : Int)) = false := decide_eq_false (by omega)
     have bb : decide (0 < x.value.length) = false := decide_eq_false (by omega)
     have g2 : x.acc = false := by simpa using hc
     have dz : ((x.conds.length : Int) == 0) = true := by rw [beq_iff_eq]; omega
     have dy : decide ((x.conds.length : Int) = 0) = true := decide_eq_true (by omega)
     have HR := Lib.hid (show condE x deep = 9 by simp [condE, *])
     clear hk3 hk3x hg hv ha hb hc hd
     go_wp2_with (first | (go_at_call 81; refine (word_is x.id _).mono ?_; rintro e w9 ⟨rfl, rfl⟩) | (go_at_call 113; (first | (with_reducible refine (tests_is A1 c1 x.attr _ (H1.out.new_ HB.out)).mono ?_) | (with_reducible refine (tests_is A2 c2 x.value _ (H2.out.new_ HB.out)).mono ?_)); rintro e w9 ⟨rfl, hb9⟩; have HB := Lib.hid (HB.out.trans (hb9.mono HB.out.size)); have HK := Lib.hid (HK.out.new_ hb9); clear e0 e1 e2 e3 e4 e5 e6 hbl hb9; obtain ⟨e0, e1, e2, e3, e4, e5, e6⟩ := HK.out.c7; have hbl := HK.out.lt))
     go_ret
     exact ⟨by rw [HR.out] <;> rfl, HB.out⟩
   by_cases he : 3 ≤ deep
   · have k3 : (x.kind == 3) = true := by simp [*]
     have k3b : decide (x.kind = 3) = true := by simp [*]
     have g1 : x.goal = false := by simpa using hg
     have hv2 : x.id.toList = [] := Classical.byContradiction hv
     have v1 : (x.id.toList == []) = true := by simp [hv2]
     have v2 : x.id.toList.isEmpty = true := by simp [hv2]
     have v3 : decide (x.id.toList = []) = true := by simp [hv2]
     have aa : decide ((0 : Int) < (x.attr.length : Int)) = false := decide_eq_false (by omega)
     have ab : decide (0 < x.attr.length) = false := decide_eq_false (by omega)
     have ba : decide ((0 : Int) < (x.value.length : Int)) = false := decide_eq_false (by omega)
     have bb : decide (0 < x.value.length) = false := decide_eq_false (by omega)
     have g2 : x.acc = false := by simpa using hc
     have dz : ((x.conds.length : Int) == 0) = false := by rw [beq_eq_false_iff_ne]; omega
     have dy : decide ((x.conds.length : Int) = 0) = false := decide_eq_false (by omega)
     have p1 : decide ((3 : Int) ≤ (deep : Int)) = true := decide_eq_true (by omega)
     have p2 : decide (3 ≤ deep) = true := decide_eq_true (by omega)
     have HR := Lib.hid (show condE x deep = 8 by simp [condE, *])
     clear hk3 hk3x hg hv ha hb hc hd he
     go_wp2_with (first | (go_at_call 81; refine (word_is x.id _).mono ?_; rintro e w9 ⟨rfl, rfl⟩) | (go_at_call 113; (first | (with_reducible refine (tests_is A1 c1 x.attr _ (H1.out.new_ HB.out)).mono ?_) | (with_reducible refine (tests_is A2 c2 x.value _ (H2.out.new_ HB.out)).mono ?_)); rintro e w9 ⟨rfl, hb9⟩; have HB := Lib.hid (HB.out.trans (hb9.mono HB.out.size)); have HK := Lib.hid (HK.out.new_ hb9); clear e0 e1 e2 e3 e4 e5 e6 hbl hb9; obtain ⟨e0, e1, e2, e3, e4, e5, e6⟩ := HK.out.c7; have hbl := HK.out.lt))
     go_ret
     exact ⟨by rw [HR.out] <;> rfl, HB.out⟩
   have k3 : (x.kind == 3) = true := by simp [*]
   have k3b : decide (x.kind = 3) = true := by simp [*]
   have g1 : x.goal = false := by simpa using hg
   have hv2 : x.id.toList = [] := Classical.byContradiction hv
   have v1 : (x.id.toList == []) = true := by simp [hv2]
   have v2 : x.id.toList.isEmpty = true := by simp [hv2]
   have v3 : decide (x.id.toList = []) = true := by simp [hv2]
   have aa : decide ((0 : Int) < (x.attr.length : Int)) = false := decide_eq_false (by omega)
   have ab : decide (0 < x.attr.length) = false := decide_eq_false (by omega)
   have ba : decide ((0 : Int) < (x.value.length : Int)) = false := decide_eq_false (by omega)
   have bb : decide (0 < x.value.length) = false := decide_eq_false (by omega)
   have g2 : x.acc = false := by simpa using hc
   have dz : ((x.conds.length : Int) == 0) = false := by rw [beq_eq_false_iff_ne]; omega
   have dy : decide ((x.conds.length : Int) = 0) = false := decide_eq_false (by omega)
   have p1 : decide ((3 : Int) ≤ (deep : Int)) = false := decide_eq_false (by omega)
   have p2 : decide (3 ≤ deep) = false := decide_eq_false (by omega)
   have HR := Lib.hid (show condE x deep = 0 by simp [condE, *])
   clear hk3 hk3x hg hv ha hb hc hd he
   go_wp2_with (first | (go_at_call 81; refine (word_is x.id _).mono ?_; rintro e w9 ⟨rfl, rfl⟩) | (go_at_call 113; (first | (with_reducible refine (tests_is A1 c1 x.attr _ (H1.out.new_ HB.out)).mono ?_) | (with_reducible refine (tests_is A2 c2 x.value _ (H2.out.new_ HB.out)).mono ?_)); rintro e w9 ⟨rfl, hb9⟩; have HB := Lib.hid (HB.out.trans (hb9.mono HB.out.size)); have HK := Lib.hid (HK.out.new_ hb9); clear e0 e1 e2 e3 e4 e5 e6 hbl hb9; obtain ⟨e0, e1, e2, e3, e4, e5, e6⟩ := HK.out.c7; have hbl := HK.out.lt))
   go_ret
   exact ⟨by rw [HR.out] <;> rfl, HB.out⟩
 by_cases hk1 : x.kind = 1
 · have hk1x := hk1
   by_cases ha : 0 < x.conds.length
   · have k3 : (x.kind == 3) = false := by simp [*]
     have k3b : decide (x.kind = 3) = false := by simp [*]
     have k1 : (x.kind == 1) = true := by simp [*]
     have k1b : decide (x.kind = 1) = true := by simp [*]
     have aa : decide ((0 : Int) < (x.conds.length : Int)) = true := decide_eq_true (by omega)
     have ab : decide (0 < x.conds.length) = true := decide_eq_true (by omega)
     have HR := Lib.hid (show condE x deep = 9 by simp [condE, *])
     clear hk3 hk1 hk1x ha
     go_wp2_with (first | (go_at_call 81; refine (word_is x.id _).mono ?_; rintro e w9 ⟨rfl, rfl⟩) | (go_at_call 113; (first | (with_reducible refine (tests_is A1 c1 x.attr _ (H1.out.new_ HB.out)).mono ?_) | (with_reducible refine (tests_is A2 c2 x.value _ (H2.out.new_ HB.out)).mono ?_)); rintro e w9 ⟨rfl, hb9⟩; have HB := Lib.hid (HB.out.trans (hb9.mono HB.out.size)); have HK := Lib.hid (HK.out.new_ hb9); clear e0 e1 e2 e3 e4 e5 e6 hbl hb9; obtain ⟨e0, e1, e2, e3, e4, e5, e6⟩ := HK.out.c7; have hbl := HK.out.lt))
     go_ret
     exact ⟨by rw [HR.out] <;> rfl, HB.out⟩
   by_cases hb : isWord x.id = false
   · have k3 : (x.kind == 3) = false := by simp [*]
     have k3b : decide (x.kind = 3) = false := by simp [*]
     have k1 : (x.kind == 1) = true := by simp [*]
     have k1b : decide (x.kind = 1) = true := by simp [*]
     have aa : decide ((0 : Int) < (x.conds.length : Int)) = false := decide_eq_false (by omega)
     have ab : decide (0 < x.conds.length) = false := decide_eq_false (by omega)
     have w1 := hb
     have HR := Lib.hid (show condE x deep = 9 by simp [condE, *])
     clear hk3 hk1 hk1x ha hb
     go_wp2_with (first | (go_at_call 81; refine (word_is x.id _).mono ?_; rintro e w9 ⟨rfl, rfl⟩) | (go_at_call 113; (first | (with_reducible refine (tests_is A1 c1 x.attr _ (H1.out.new_ HB.out)).mono ?_) | (with_reducible refine (tests_is A2 c2 x.value _ (H2.out.new_ HB.out)).mono ?_)); rintro e w9 ⟨rfl, hb9⟩; have HB := Lib.hid (HB.out.trans (hb9.mono HB.out.size)); have HK := Lib.hid (HK.out.new_ hb9); clear e0 e1 e2 e3 e4 e5 e6 hbl hb9; obtain ⟨e0, e1, e2, e3, e4, e5, e6⟩ := HK.out.c7; have hbl := HK.out.lt))
     go_ret
     exact ⟨by rw [HR.out] <;> rfl, HB.out⟩
   by_cases hc : x.attr.length = 0
   · have k3 : (x.kind == 3) = false := by simp [*]
     have k3b : decide (x.kind = 3) = false := by simp [*]
     have k1 : (x.kind == 1) = true := by simp [*]
     have k1b : decide (x.kind = 1) = true := by simp [*]
     have aa : decide ((0 : Int) < (x.conds.length : Int)) = false := decide_eq_false (by omega)
     have ab : decide (0 < x.conds.length) = false := decide_eq_false (by omega)
     have w1 : isWord x.id = true := by simpa using hb
     have dz : ((x.attr.length : Int) == 0) = true := by rw [beq_iff_eq]; omega
     have dy : decide ((x.attr.length : Int) = 0) = true := decide_eq_true (by omega)
     have l1 : x.attr = [] := List.length_eq_zero_iff.1 hc
     have HR := Lib.hid (show condE x deep = 9 by simp [condE, *])
     clear hk3 hk1 hk1x ha hb hc
     go_wp2_with (first | (go_at_call 81; refine (word_is x.id _).mono ?_; rintro e w9 ⟨rfl, rfl⟩) | (go_at_call 113; (first | (with_reducible refine (tests_is A1 c1 x.attr _ (H1.out.new_ HB.out)).mono ?_) | (with_reducible refine (tests_is A2 c2 x.value _ (H2.out.new_ HB.out)).mono ?_)); rintro e w9 ⟨rfl, hb9⟩; have HB := Lib.hid (HB.out.trans (hb9.mono HB.out.size)); have HK := Lib.hid (HK.out.new_ hb9); clear e0 e1 e2 e3 e4 e5 e6 hbl hb9; obtain ⟨e0, e1, e2, e3, e4, e5, e6⟩ := HK.out.c7; have hbl := HK.out.lt))
     go_ret
     exact ⟨by rw [HR.out] <;> rfl, HB.out⟩
   by_cases hd : 4 < x.attr.length
   · have k3 : (x.kind == 3) = false := by simp [*]
     have k3b : decide (x.kind = 3) = false := by simp [*]
     have k1 : (x.kind == 1) = true := by simp [*]
     have k1b : decide (x.kind = 1) = true := by simp [*]
     have aa : decide ((0 : Int) < (x.conds.length : Int)) = false := decide_eq_false (by omega)
     have ab : decide (0 < x.conds.length) = false := decide_eq_false (by omega)
     have w1 : isWord x.id = true := by simpa using hb
     have dz : ((x.attr.length : Int) == 0) = false := by rw [beq_eq_false_iff_ne]; omega
     have dy : decide ((x.attr.length : Int) = 0) = false := decide_eq_false (by omega)
     have fa : decide ((4 : Int) < (x.attr.length : Int)) = true := decide_eq_true (by omega)
     have fb : decide (4 < x.attr.length) = true := decide_eq_true (by omega)
     have HR := Lib.hid (show condE x deep = 7 by simp [condE, *])
     clear hk3 hk1 hk1x ha hb hc hd
     go_wp2_with (first | (go_at_call 81; refine (word_is x.id _).mono ?_; rintro e w9 ⟨rfl, rfl⟩) | (go_at_call 113; (first | (with_reducible refine (tests_is A1 c1 x.attr _ (H1.out.new_ HB.out)).mono ?_) | (with_reducible refine (tests_is A2 c2 x.value _ (H2.out.new_ HB.out)).mono ?_)); rintro e w9 ⟨rfl, hb9⟩; have HB := Lib.hid (HB.out.trans (hb9.mono HB.out.size)); have HK := Lib.hid (HK.out.new_ hb9); clear e0 e1 e2 e3 e4 e5 e6 hbl hb9; obtain ⟨e0, e1, e2, e3, e4, e5, e6⟩ := HK.out.c7; have hbl := HK.out.lt))
     go_ret
     exact ⟨by rw [HR.out] <;> rfl, HB.out⟩
   by_cases he : 4 < x.value.length
   · have k3 : (x.kind == 3) = false := by simp [*]
     have k3b : decide (x.kind = 3) = false := by simp [*]
     have k1 : (x.kind == 1) = true := by simp [*]
     have k1b : decide (x.kind = 1) = true := by simp [*]
     have aa : decide ((0 : Int) < (x.conds.length : Int)) = false := decide_eq_false (by omega)
     have ab : decide (0 < x.conds.length) = false := decide_eq_false (by omega)
     have w1 : isWord x.id = true := by simpa using hb
     have dz : ((x.attr.length : Int) == 0) = false := by rw [beq_eq_false_iff_ne]; omega
     have dy : decide ((x.attr.length : Int) = 0) = false := decide_eq_false (by omega)
     have fa : decide ((4 : Int) < (x.attr.length : Int)) = false := decide_eq_false (by omega)
     have fb : decide (4 < x.attr.length) = false := decide_eq_false (by omega)
     have ga : decide ((4 : Int) < (x.value.length : Int)) = true := decide_eq_true (by omega)
     have gb : decide (4 < x.value.length) = true := decide_eq_true (by omega)
     have HR := Lib.hid (show condE x deep = 7 by simp [condE, *])
     clear hk3 hk1 hk1x ha hb hc hd he
     go_wp2_with (first | (go_at_call 81; refine (word_is x.id _).mono ?_; rintro e w9 ⟨rfl, rfl⟩) | (go_at_call 113; (first | (with_reducible refine (tests_is A1 c1 x.attr _ (H1.out.new_ HB.out)).mono ?_) | (with_reducible refine (tests_is A2 c2 x.value _ (H2.out.new_ HB.out)).mono ?_)); rintro e w9 ⟨rfl, hb9⟩; have HB := Lib.hid (HB.out.trans (hb9.mono HB.out.size)); have HK := Lib.hid (HK.out.new_ hb9); clear e0 e1 e2 e3 e4 e5 e6 hbl hb9; obtain ⟨e0, e1, e2, e3, e4, e5, e6⟩ := HK.out.c7; have hbl := HK.out.lt))
     go_ret
     exact ⟨by rw [HR.out] <;> rfl, HB.out⟩
   by_cases hf : x.attr.all testB = false
   · have k3 : (x.kind == 3) = false := by simp [*]
     have k3b : decide (x.kind = 3) = false := by simp [*]
     have k1 : (x.kind == 1) = true := by simp [*]
     have k1b : decide (x.kind = 1) = true := by simp [*]
     have aa : decide ((0 : Int) < (x.conds.length : Int)) = false := decide_eq_false (by omega)
     have ab : decide (0 < x.conds.length) = false := decide_eq_false (by omega)
     have w1 : isWord x.id = true := by simpa using hb
     have dz : ((x.attr.length : Int) == 0) = false := by rw [beq_eq_false_iff_ne]; omega
     have dy : decide ((x.attr.length : Int) = 0) = false := decide_eq_false (by omega)
     have fa : decide ((4 : Int) < (x.attr.length : Int)) = false := decide_eq_false (by omega)
     have fb : decide (4 < x.attr.length) = false := decide_eq_false (by omega)
     have ga : decide ((4 : Int) < (x.value.length : Int)) = false := decide_eq_false (by omega)
     have gb : decide (4 < x.value.length) = false := decide_eq_false (by omega)
     have t1 := hf
     have HR := Lib.hid (show condE x deep = 9 by simp [condE, *])
     clear hk3 hk1 hk1x ha hb hc hd he hf
     go_wp2_with (first | (go_at_call 81; refine (word_is x.id _).mono ?_; rintro e w9 ⟨rfl, rfl⟩) | (go_at_call 113; (first | (with_reducible refine (tests_is A1 c1 x.attr _ (H1.out.new_ HB.out)).mono ?_) | (with_reducible refine (tests_is A2 c2 x.value _ (H2.out.new_ HB.out)).mono ?_)); rintro e w9 ⟨rfl, hb9⟩; have HB := Lib.hid (HB.out.trans (hb9.mono HB.out.size)); have HK := Lib.hid (HK.out.new_ hb9); clear e0 e1 e2 e3 e4 e5 e6 hbl hb9; obtain ⟨e0, e1, e2, e3, e4, e5, e6⟩ := HK.out.c7; have hbl := HK.out.lt))
     go_ret
     exact ⟨by rw [HR.out] <;> rfl, HB.out⟩
   by_cases hg : x.value.all testB = false
   · have k3 : (x.kind == 3) = false := by simp [*]
     have k3b : decide (x.kind = 3) = false := by simp [*]
     have k1 : (x.kind == 1) = true := by simp [*]
     have k1b : decide (x.kind = 1) = true := by simp [*]
     have aa : decide ((0 : Int) < (x.conds.length : Int)) = false := decide_eq_false (by omega)
     have ab : decide (0 < x.conds.length) = false := decide_eq_false (by omega)
     have w1 : isWord x.id = true := by simpa using hb
     have dz : ((x.attr.length : Int) == 0) = false := by rw [beq_eq_false_iff_ne]; omega
     have dy : decide ((x.attr.length : Int) = 0) = false := decide_eq_false (by omega)
     have fa : decide ((4 : Int) < (x.attr.length : Int)) = false := decide_eq_false (by omega)
     have fb : decide (4 < x.attr.length) = false := decide_eq_false (by omega)
     have ga : decide ((4 : Int) < (x.value.length : Int)) = false := decide_eq_false (by omega)
     have gb : decide (4 < x.value.length) = false := decide_eq_false (by omega)
     have t1 : x.attr.all testB = true := by simpa using hf
     have t2 := hg
     have HR := Lib.hid (show condE x deep = 9 by simp [condE, *])
     clear hk3 hk1 hk1x ha hb hc hd he hf hg
     go_wp2_with (first | (go_at_call 81; refine (word_is x.id _).mono ?_; rintro e w9 ⟨rfl, rfl⟩) | (go_at_call 113; (first | (with_reducible refine (tests_is A1 c1 x.attr _ (H1.out.new_ HB.out)).mono ?_) | (with_reducible refine (tests_is A2 c2 x.value _ (H2.out.new_ HB.out)).mono ?_)); rintro e w9 ⟨rfl, hb9⟩; have HB := Lib.hid (HB.out.trans (hb9.mono HB.out.size)); have HK := Lib.hid (HK.out.new_ hb9); clear e0 e1 e2 e3 e4 e5 e6 hbl hb9; obtain ⟨e0, e1, e2, e3, e4, e5, e6⟩ := HK.out.c7; have hbl := HK.out.lt))
     go_ret
     exact ⟨by rw [HR.out] <;> rfl, HB.out⟩
   have k3 : (x.kind == 3) = false := by simp [*]
   have k3b : decide (x.kind = 3) = false := by simp [*]
   have k1 : (x.kind == 1) = true := by simp [*]
   have k1b : decide (x.kind = 1) = true := by simp [*]
   have aa : decide ((0 : Int) < (x.conds.length : Int)) = false := decide_eq_false (by omega)
   have ab : decide (0 < x.conds.length) = false := decide_eq_false (by omega)
   have w1 : isWord x.id = true := by simpa using hb
   have dz : ((x.attr.length : Int) == 0) = false := by rw [beq_eq_false_iff_ne]; omega
   have dy : decide ((x.attr.length : Int) = 0) = false := decide_eq_false (by omega)
   have fa : decide ((4 : Int) < (x.attr.length : Int)) = false := decide_eq_false (by omega)
   have fb : decide (4 < x.attr.length) = false := decide_eq_false (by omega)
   have ga : decide ((4 : Int) < (x.value.length : Int)) = false := decide_eq_false (by omega)
   have gb : decide (4 < x.value.length) = false := decide_eq_false (by omega)
   have t1 : x.attr.all testB = true := by simpa using hf
   have t2 : x.value.all testB = true := by simpa using hg
   have HR := Lib.hid (show condE x deep = 0 by simp [condE, *])
   clear hk3 hk1 hk1x ha hb hc hd he hf hg
   go_wp2_with (first | (go_at_call 81; refine (word_is x.id _).mono ?_; rintro e w9 ⟨rfl, rfl⟩) | (go_at_call 113; (first | (with_reducible refine (tests_is A1 c1 x.attr _ (H1.out.new_ HB.out)).mono ?_) | (with_reducible refine (tests_is A2 c2 x.value _ (H2.out.new_ HB.out)).mono ?_)); rintro e w9 ⟨rfl, hb9⟩; have HB := Lib.hid (HB.out.trans (hb9.mono HB.out.size)); have HK := Lib.hid (HK.out.new_ hb9); clear e0 e1 e2 e3 e4 e5 e6 hbl hb9; obtain ⟨e0, e1, e2, e3, e4, e5, e6⟩ := HK.out.c7; have hbl := HK.out.lt))
   go_ret
   exact ⟨by rw [HR.out] <;> rfl, HB.out⟩
 by_cases hk2 : x.kind = 2
 · have hk2x := hk2
   by_cases ha : 0 < x.conds.length
   · have k3 : (x.kind == 3) = false := by simp [*]
     have k3b : decide (x.kind = 3) = false := by simp [*]
     have k1 : (x.kind == 1) = false := by simp [*]
     have k1b : decide (x.kind = 1) = false := by simp [*]
     have k2 : (x.kind == 2) = true := by simp [*]
     have k2b : decide (x.kind = 2) = true := by simp [*]
     have aa : decide ((0 : Int) < (x.conds.length : Int)) = true := decide_eq_true (by omega)
     have ab : decide (0 < x.conds.length) = true := decide_eq_true (by omega)
     have HR := Lib.hid (show condE x deep = 9 by simp [condE, *])
     clear hk3 hk1 hk2 hk2x ha
     go_wp2_with (first | (go_at_call 81; refine (word_is x.id _).mono ?_; rintro e w9 ⟨rfl, rfl⟩) | (go_at_call 113; (first | (with_reducible refine (tests_is A1 c1 x.attr _ (H1.out.new_ HB.out)).mono ?_) | (with_reducible refine (tests_is A2 c2 x.value _ (H2.out.new_ HB.out)).mono ?_)); rintro e w9 ⟨rfl, hb9⟩; have HB := Lib.hid (HB.out.trans (hb9.mono HB.out.size)); have HK := Lib.hid (HK.out.new_ hb9); clear e0 e1 e2 e3 e4 e5 e6 hbl hb9; obtain ⟨e0, e1, e2, e3, e4, e5, e6⟩ := HK.out.c7; have hbl := HK.out.lt))
     go_ret
     exact ⟨by rw [HR.out] <;> rfl, HB.out⟩
   by_cases hb : isWord x.id = false
   · have k3 : (x.kind == 3) = false := by simp [*]
     have k3b : decide (x.kind = 3) = false := by simp [*]
     have k1 : (x.kind == 1) = false := by simp [*]
     have k1b : decide (x.kind = 1) = false := by simp [*]
     have k2 : (x.kind == 2) = true := by simp [*]
     have k2b : decide (x.kind = 2) = true := by simp [*]
     have aa : decide ((0 : Int) < (x.conds.length : Int)) = false := decide_eq_false (by omega)
     have ab : decide (0 < x.conds.length) = false := decide_eq_false (by omega)
     have w1 := hb
     have HR := Lib.hid (show condE x deep = 9 by simp [condE, *])
     clear hk3 hk1 hk2 hk2x ha hb
     go_wp2_with (first | (go_at_call 81; refine (word_is x.id _).mono ?_; rintro e w9 ⟨rfl, rfl⟩) | (go_at_call 113; (first | (with_reducible refine (tests_is A1 c1 x.attr _ (H1.out.new_ HB.out)).mono ?_) | (with_reducible refine (tests_is A2 c2 x.value _ (H2.out.new_ HB.out)).mono ?_)); rintro e w9 ⟨rfl, hb9⟩; have HB := Lib.hid (HB.out.trans (hb9.mono HB.out.size)); have HK := Lib.hid (HK.out.new_ hb9); clear e0 e1 e2 e3 e4 e5 e6 hbl hb9; obtain ⟨e0, e1, e2, e3, e4, e5, e6⟩ := HK.out.c7; have hbl := HK.out.lt))
     go_ret
     exact ⟨by rw [HR.out] <;> rfl, HB.out⟩
   by_cases hc : x.attr.length = 0
   · have k3 : (x.kind == 3) = false := by simp [*]
     have k3b : decide (x.kind = 3) = false := by simp [*]
     have k1 : (x.kind == 1) = false := by simp [*]
     have k1b : decide (x.kind = 1) = false := by simp [*]
     have k2 : (x.kind == 2) = true := by simp [*]
     have k2b : decide (x.kind = 2) = true := by simp [*]
     have aa : decide ((0 : Int) < (x.conds.length : Int)) = false := decide_eq_false (by omega)
     have ab : decide (0 < x.conds.length) = false := decide_eq_false (by omega)
     have w1 : isWord x.id = true := by simpa using hb
     have dz : ((x.attr.length : Int) == 0) = true := by rw [beq_iff_eq]; omega
     have dy : decide ((x.attr.length : Int) = 0) = true := decide_eq_true (by omega)
     have l1 : x.attr = [] := List.length_eq_zero_iff.1 hc
     have HR := Lib.hid (show condE x deep = 9 by simp [condE, *])
     clear hk3 hk1 hk2 hk2x ha hb hc
     go_wp2_with (first | (go_at_call 81; refine (word_is x.id _).mono ?_; rintro e w9 ⟨rfl, rfl⟩) | (go_at_call 113; (first | (with_reducible refine (tests_is A1 c1 x.attr _ (H1.out.new_ HB.out)).mono ?_) | (with_reducible refine (tests_is A2 c2 x.value _ (H2.out.new_ HB.out)).mono ?_)); rintro e w9 ⟨rfl, hb9⟩; have HB := Lib.hid (HB.out.trans (hb9.mono HB.out.size)); have HK := Lib.hid (HK.out.new_ hb9); clear e0 e1 e2 e3 e4 e5 e6 hbl hb9; obtain ⟨e0, e1, e2, e3, e4, e5, e6⟩ := HK.out.c7; have hbl := HK.out.lt))
     go_ret
     exact ⟨by rw [HR.out] <;> rfl, HB.out⟩
   by_cases hd : 4 < x.attr.length
   · have k3 : (x.kind == 3) = false := by simp [*]
     have k3b : decide (x.kind = 3) = false := by simp [*]
     have k1 : (x.kind == 1) = false := by simp [*]
     have k1b : decide (x.kind = 1) = false := by simp [*]
     have k2 : (x.kind == 2) = true := by simp [*]
     have k2b : decide (x.kind = 2) = true := by simp [*]
     have aa : decide ((0 : Int) < (x.conds.length : Int)) = false := decide_eq_false (by omega)
     have ab : decide (0 < x.conds.length) = false := decide_eq_false (by omega)
     have w1 : isWord x.id = true := by simpa using hb
     have dz : ((x.attr.length : Int) == 0) = false := by rw [beq_eq_false_iff_ne]; omega
     have dy : decide ((x.attr.length : Int) = 0) = false := decide_eq_false (by omega)
     have fa : decide ((4 : Int) < (x.attr.length : Int)) = true := decide_eq_true (by omega)
     have fb : decide (4 < x.attr.length) = true := decide_eq_true (by omega)
     have HR := Lib.hid (show condE x deep = 7 by simp [condE, *])
     clear hk3 hk1 hk2 hk2x ha hb hc hd
     go_wp2_with (first | (go_at_call 81; refine (word_is x.id _).mono ?_; rintro e w9 ⟨rfl, rfl⟩) | (go_at_call 113; (first | (with_reducible refine (tests_is A1 c1 x.attr _ (H1.out.new_ HB.out)).mono ?_) | (with_reducible refine (tests_is A2 c2 x.value _ (H2.out.new_ HB.out)).mono ?_)); rintro e w9 ⟨rfl, hb9⟩; have HB := Lib.hid (HB.out.trans (hb9.mono HB.out.size)); have HK := Lib.hid (HK.out.new_ hb9); clear e0 e1 e2 e3 e4 e5 e6 hbl hb9; obtain ⟨e0, e1, e2, e3, e4, e5, e6⟩ := HK.out.c7; have hbl := HK.out.lt))
     go_ret
     exact ⟨by rw [HR.out] <;> rfl, HB.out⟩
   by_cases he : 4 < x.value.length
   · have k3 : (x.kind == 3) = false := by simp [*]
     have k3b : decide (x.kind = 3) = false := by simp [*]
     have k1 : (x.kind == 1) = false := by simp [*]
     have k1b : decide (x.kind = 1) = false := by simp [*]
     have k2 : (x.kind == 2) = true := by simp [*]
     have k2b : decide (x.kind = 2) = true := by simp [*]
     have aa : decide ((0 : Int) < (x.conds.length : Int)) = false := decide_eq_false (by omega)
     have ab : decide (0 < x.conds.length) = false := decide_eq_false (by omega)
     have w1 : isWord x.id = true := by simpa using hb
     have dz : ((x.attr.length : Int) == 0) = false := by rw [beq_eq_false_iff_ne]; omega
     have dy : decide ((x.attr.length : Int) = 0) = false := decide_eq_false (by omega)
     have fa : decide ((4 : Int) < (x.attr.length : Int)) = false := decide_eq_false (by omega)
     have fb : decide (4 < x.attr.length) = false := decide_eq_false (by omega)
     have ga : decide ((4 : Int) < (x.value.length : Int)) = true := decide_eq_true (by omega)
     have gb : decide (4 < x.value.length) = true := decide_eq_true (by omega)
     have HR := Lib.hid (show condE x deep = 7 by simp [condE, *])
     clear hk3 hk1 hk2 hk2x ha hb hc hd he
     go_wp2_with (first | (go_at_call 81; refine (word_is x.id _).mono ?_; rintro e w9 ⟨rfl, rfl⟩) | (go_at_call 113; (first | (with_reducible refine (tests_is A1 c1 x.attr _ (H1.out.new_ HB.out)).mono ?_) | (with_reducible refine (tests_is A2 c2 x.value _ (H2.out.new_ HB.out)).mono ?_)); rintro e w9 ⟨rfl, hb9⟩; have HB := Lib.hid (HB.out.trans (hb9.mono HB.out.size)); have HK := Lib.hid (HK.out.new_ hb9); clear e0 e1 e2 e3 e4 e5 e6 hbl hb9; obtain ⟨e0, e1, e2, e3, e4, e5, e6⟩ := HK.out.c7; have hbl := HK.out.lt))
     go_ret
     exact ⟨by rw [HR.out] <;> rfl, HB.out⟩
   by_cases hf : x.attr.all testB = false
   · have k3 : (x.kind == 3) = false := by simp [*]
     have k3b : decide (x.kind = 3) = false := by simp [*]
     have k1 : (x.kind == 1) = false := by simp [*]
     have k1b : decide (x.kind = 1) = false := by simp [*]
     have k2 : (x.kind == 2) = true := by simp [*]
     have k2b : decide (x.kind = 2) = true := by simp [*]
     have aa : decide ((0 : Int) < (x.conds.length : Int)) = false := decide_eq_false (by omega)
     have ab : decide (0 < x.conds.length) = false := decide_eq_false (by omega)
     have w1 : isWord x.id = true := by simpa using hb
     have dz : ((x.attr.length : Int) == 0) = false := by rw [beq_eq_false_iff_ne]; omega
     have dy : decide ((x.attr.length : Int) = 0) = false := decide_eq_false (by omega)
     have fa : decide ((4 : Int) < (x.attr.length : Int)) = false := decide_eq_false (by omega)
     have fb : decide (4 < x.attr.length) = false := decide_eq_false (by omega)
     have ga : decide ((4 : Int) < (x.value.length : Int)) = false := decide_eq_false (by omega)
     have gb : decide (4 < x.value.length) = false := decide_eq_false (by omega)
     have t1 := hf
     have HR := Lib.hid (show condE x deep = 9 by simp [condE, *])
     clear hk3 hk1 hk2 hk2x ha hb hc hd he hf
     go_wp2_with (first | (go_at_call 81; refine (word_is x.id _).mono ?_; rintro e w9 ⟨rfl, rfl⟩) | (go_at_call 113; (first | (with_reducible refine (tests_is A1 c1 x.attr _ (H1.out.new_ HB.out)).mono ?_) | (with_reducible refine (tests_is A2 c2 x.value _ (H2.out.new_ HB.out)).mono ?_)); rintro e w9 ⟨rfl, hb9⟩; have HB := Lib.hid (HB.out.trans (hb9.mono HB.out.size)); have HK := Lib.hid (HK.out.new_ hb9); clear e0 e1 e2 e3 e4 e5 e6 hbl hb9; obtain ⟨e0, e1, e2, e3, e4, e5, e6⟩ := HK.out.c7; have hbl := HK.out.lt))
     go_ret
     exact ⟨by rw [HR.out] <;> rfl, HB.out⟩
   by_cases hg : x.value.all testB = false
   · have k3 : (x.kind == 3) = false := by simp [*]
     have k3b : decide (x.kind = 3) = false := by simp [*]
     have k1 : (x.kind == 1) = false := by simp [*]
     have k1b : decide (x.kind = 1) = false := by simp [*]
     have k2 : (x.kind == 2) = true := by simp [*]
     have k2b : decide (x.kind = 2) = true := by simp [*]
     have aa : decide ((0 : Int) < (x.conds.length : Int)) = false := decide_eq_false (by omega)
     have ab : decide (0 < x.conds.length) = false := decide_eq_false (by omega)
     have w1 : isWord x.id = true := by simpa using hb
     have dz : ((x.attr.length : Int) == 0) = false := by rw [beq_eq_false_iff_ne]; omega
     have dy : decide ((x.attr.length : Int) = 0) = false := decide_eq_false (by omega)
     have fa : decide ((4 : Int) < (x.attr.length : Int)) = false := decide_eq_false (by omega)
     have fb : decide (4 < x.attr.length) = false := decide_eq_false (by omega)
     have ga : decide ((4 : Int) < (x.value.length : Int)) = false := decide_eq_false (by omega)
     have gb : decide (4 < x.value.length) = false := decide_eq_false (by omega)
     have t1 : x.attr.all testB = true := by simpa using hf
     have t2 := hg
     have HR := Lib.hid (show condE x deep = 9 by simp [condE, *])
     clear hk3 hk1 hk2 hk2x ha hb hc hd he hf hg
     go_wp2_with (first | (go_at_call 81; refine (word_is x.id _).mono ?_; rintro e w9 ⟨rfl, rfl⟩) | (go_at_call 113; (first | (with_reducible refine (tests_is A1 c1 x.attr _ (H1.out.new_ HB.out)).mono ?_) | (with_reducible refine (tests_is A2 c2 x.value _ (H2.out.new_ HB.out)).mono ?_)); rintro e w9 ⟨rfl, hb9⟩; have HB := Lib.hid (HB.out.trans (hb9.mono HB.out.size)); have HK := Lib.hid (HK.out.new_ hb9); clear e0 e1 e2 e3 e4 e5 e6 hbl hb9; obtain ⟨e0, e1, e2, e3, e4, e5, e6⟩ := HK.out.c7; have hbl := HK.out.lt))
     go_ret
     exact ⟨by rw [HR.out] <;> rfl, HB.out⟩
   have k3 : (x.kind == 3) = false := by simp [*]
   have k3b : decide (x.kind = 3) = false := by simp [*]
   have k1 : (x.kind == 1) = false := by simp [*]
   have k1b : decide (x.kind = 1) = false := by simp [*]
   have k2 : (x.kind == 2) = true := by simp [*]
   have k2b : decide (x.kind = 2) = true := by simp [*]
   have aa : decide ((0 : Int) < (x.conds.length : Int)) = false := decide_eq_false (by omega)
   have ab : decide (0 < x.conds.length) = false := decide_eq_false (by omega)
   have w1 : isWord x.id = true := by simpa using hb
   have dz : ((x.attr.length : Int) == 0) = false := by rw [beq_eq_false_iff_ne]; omega
   have dy : decide ((x.attr.length : Int) = 0) = false := decide_eq_false (by omega)
   have fa : decide ((4 : Int) < (x.attr.length : Int)) = false := decide_eq_false (by omega)
   have fb : decide (4 < x.attr.length) = false := decide_eq_false (by omega)
   have ga : decide ((4 : Int) < (x.value.length : Int)) = false := decide_eq_false (by omega)
   have gb : decide (4 < x.value.length) = false := decide_eq_false (by omega)
   have t1 : x.attr.all testB = true := by simpa using hf
   have t2 : x.value.all testB = true := by simpa using hg
   have HR := Lib.hid (show condE x deep = 0 by simp [condE, *])
   clear hk3 hk1 hk2 hk2x ha hb hc hd he hf hg
   go_wp2_with (first | (go_at_call 81; refine (word_is x.id _).mono ?_; rintro e w9 ⟨rfl, rfl⟩) | (go_at_call 113; (first | (with_reducible refine (tests_is A1 c1 x.attr _ (H1.out.new_ HB.out)).mono ?_) | (with_reducible refine (tests_is A2 c2 x.value _ (H2.out.new_ HB.out)).mono ?_)); rintro e w9 ⟨rfl, hb9⟩; have HB := Lib.hid (HB.out.trans (hb9.mono HB.out.size)); have HK := Lib.hid (HK.out.new_ hb9); clear e0 e1 e2 e3 e4 e5 e6 hbl hb9; obtain ⟨e0, e1, e2, e3, e4, e5, e6⟩ := HK.out.c7; have hbl := HK.out.lt))
   go_ret
   exact ⟨by rw [HR.out] <;> rfl, HB.out⟩
 have k3 : (x.kind == 3) = false := by simp [*]
 have k3b : decide (x.kind = 3) = false := by simp [*]
 have k1 : (x.kind == 1) = false := by simp [*]
 have k1b : decide (x.kind = 1) = false := by simp [*]
 have k2 : (x.kind == 2) = false := by simp [*]
 have k2b : decide (x.kind = 2) = false := by simp [*]
 have HR := Lib.hid (show condE x deep = 9 by simp [condE, *])
 clear hk3 hk1 hk2
 go_wp2_with (first | (go_at_call 81; refine (word_is x.id _).mono ?_; rintro e w9 ⟨rfl, rfl⟩) | (go_at_call 113; (first | (with_reducible refine (tests_is A1 c1 x.attr _ (H1.out.new_ HB.out)).mono ?_) | (with_reducible refine (tests_is A2 c2 x.value _ (H2.out.new_ HB.out)).mono ?_)); rintro e w9 ⟨rfl, hb9⟩; have HB := Lib.hid (HB.out.trans (hb9.mono HB.out.size)); have HK := Lib.hid (HK.out.new_ hb9); clear e0 e1 e2 e3 e4 e5 e6 hbl hb9; obtain ⟨e0, e1, e2, e3, e4, e5, e6⟩ := HK.out.c7; have hbl := HK.out.lt))
 go_ret
 exact ⟨by rw [HR.out] <;> rfl, HB.out⟩
end Go.Proofs.YtpndmjabjjbefaaGreat
namespace Go.Proofs.YtpndmjabjjbefaaGreat
open Go.RowKit Go.Shelf
attribute [local go_sem] Oper.semAt_some
structure Yld (gf : Nat) (caps : List Value) (D M : Nat → Prop) (F : List (Nat × CondT)) (Inv : Nat → World → Prop) (Stop : World → Prop) : Prop where
 enter : ∀ args w, (callFunc gf args).run Tryz.prog w = .ok (.enter gf args) w
 call : ∀ (k : Nat) (h : k < F.length) (w : World) (A1 A2 A3 : Option Addr) (c1 c2 c3 : Nat), Inv k w → RowR repTestT D w A1 c1 F[k].2.attr → RowR repTestT D w A2 c2 F[k].2.value → (F[k].2.conds.length : Int) ≤ 9223372036854775807 →
  Calls Tryz.prog gf ([Value.int .i64 (k : Int), Value.int .i64 (F[k].1 : Int), Value.agg #[.int .i64 F[k].2.kind, .bool F[k].2.goal, .string F[k].2.id, .slice A1 F[k].2.attr.length c1, .slice A2 F[k].2.value.length c2, .bool F[k].2.acc, .slice A3 F[k].2.conds.length c3]] ++ caps).toArray w
   fun e w' => ∃ b, e = .returned (.bool b) ∧ (b = true → Inv (k + 1) w') ∧ (b = false → Stop w') ∧ Fr M w w'
 apart : ∀ j, D j → ¬ M j
 new_ : ∀ k w w', Inv k w → Below w.heap.size w w' → Inv k w'
 stop_ : ∀ w w', Stop w → Below w.heap.size w w' → Stop w'
theorem flatC_succ (n d : Nat) (l : List CondT) : flatC (n + 1) d l = l.flatMap fun c => (d, c) :: flatC n (d + 1) c.conds := rfl
theorem flatC_snoc (n d : Nat) (l : List CondT) (i : Nat) (hi : i < l.length) : flatC (n + 1) d (l.take (i + 1)) = flatC (n + 1) d (l.take i) ++ (d, l[i]) :: flatC n (d + 1) l[i].conds := by
 rw [flatC_succ, flatC_succ, List.take_add_one, List.getElem?_eq_getElem hi, List.flatMap_append]
 simp
def WalkTo (M : Nat → Prop) (Inv : Nat → World → Prop) (Stop : World → Prop) (at_ n : Nat) (w : World) (e : Ending) (w' : World) : Prop :=
 ∃ (b : Bool) (a : Nat), e = .returned (.tuple #[.int .i64 (a : Int), .bool b]) ∧ (b = true → a = at_ + n ∧ Inv a w') ∧ (b = false → Stop w') ∧ Fr M w w'
set_option maxRecDepth 100000 in
set_option maxHeartbeats 8000000 in
theorem walk_is {gf : Nat} {caps : List Value} {D M : Nat → Prop} {F : List (Nat × CondT)} {Inv : Nat → World → Prop} {Stop : World → Prop} (Y : Yld gf caps D M F Inv Stop) (hF : F.length ≤ 1000000000) :
 ∀ (n d at_ : Nat) (A : Option Addr) (c : Nat) (l : List CondT) (w : World), RowR (repCondT n) D w A c l → (∀ k, M k → k < w.heap.size) → (∃ post, F = F.take at_ ++ flatC n d l ++ post) → at_ + (flatC n d l).length ≤ F.length → d + n ≤ 1000000000 → Inv at_ w →
 Calls Tryz.prog 92 #[.slice A l.length c, .int .i64 (at_ : Int), .int .i64 (d : Int), .func (.func gf) #[] caps.toArray] w (WalkTo M Inv Stop at_ (flatC n d l).length w) := by
 intro n
 induction n with
 | zero =>
   intro d at_ A c l w h hlow hpost hlen hd hI
   have hl0 : l = [] := by
    cases l with
    | nil => rfl
    | cons x l =>
      obtain ⟨b, off, cs, _, _, _, hr, _⟩ := h.at_ (k := 0) (by simp)
      exact hr.elim
   subst hl0
   have HI := Lib.hid hI
   clear h hlow hpost hI
   go_enter Tryz.func92, Tryz.ntmps92
   go_wp2_with fail
   go_loopw [1, 15] (fun a s wr => s = .int .i64 0 ∧ a = .int .i64 (at_ : Int) ∧ wr = w) (fun a s wr => 0)
   case atStart => exact ⟨rfl, rfl, rfl⟩
   case round =>
    obtain ⟨rfl, rfl, rfl⟩ := hrel
    go_wp2_with fail
    go_ret2
    exact ⟨true, at_, rfl, fun _ => ⟨by simp [flatC], HI.out⟩, (fun h => by cases h), Fr.refl _ _⟩
 | succ n ih =>
   intro d at_ A c l w h hlow hpost hlen hd hI
   have HR := Lib.hid h
   have HLOW := Lib.hid hlow
   have HPOST := Lib.hid hpost
   have HLEN := Lib.hid hlen
   have HI := Lib.hid hI
   have IH := Lib.hid ih
   have hlc := h.cap
   have hent := Y.enter
   clear h hlow hpost hlen hI ih
   go_enter Tryz.func92, Tryz.ntmps92
   go_wp2_with fail
   go_loopw [1, 15] (fun a s wr => ∃ i : Nat, s = .int .i64 i ∧ i ≤ l.length ∧ a = .int .i64 ((at_ + (flatC (n + 1) d (l.take i)).length : Nat) : Int) ∧ Inv (at_ + (flatC (n + 1) d (l.take i)).length) wr ∧ Fr M w wr) (fun a s wr => l.length - (intOf s).toNat)
   case atStart => exact ⟨0, rfl, Nat.zero_le _, by simp [flatC], by simpa [flatC] using HI.out, Fr.refl _ _⟩
   case round =>
    obtain ⟨i, rfl, hi, rfl, hI, hF1⟩ := hrel
    have HIi := Lib.hid hI
    have HFr := Lib.hid hF1
    clear hI hF1
    by_cases hlt : i < l.length
    · obtain ⟨y, hy⟩ : ∃ y, y = l[i] := ⟨_, rfl⟩
      obtain ⟨k, hk⟩ : ∃ k, k = at_ + (flatC (n + 1) d (l.take i)).length := ⟨_, rfl⟩
      have hsn := flatC_snoc n d l i hlt
      rw [← hy] at hsn
      have HSN := Lib.hid hsn
      obtain ⟨g, off, A1, c1, A2, c2, A3, c3, rfl, _, hg, q0, q1, q2, q3, q4, q5, q6, r1, r2, r3⟩ := at_CondT (HR.out.fr HFr.out (fun j hd => Y.apart j hd)) hlt
      rw [← hy] at q0 q1 q2 q3 q4 q5 q6 r1 r2 r3
      have hkF : k < F.length := by
       have h1 := HLEN.out
       have h2 : (flatC (n + 1) d (l.take (i + 1))).length ≤ (flatC (n + 1) d l).length := by
        rw [flatC_succ, flatC_succ]
        conv => rhs; rw [← List.take_append_drop (i + 1) l, List.flatMap_append, List.length_append]
        omega
       rw [HSN.out] at h2
       simp at h2
       omega
      obtain ⟨post, hp⟩ := HPOST.out
      have hparts : ∃ P R, P.length = k ∧ F = P ++ (d, y) :: (flatC n (d + 1) y.conds ++ R) := by
       have e1 : flatC (n + 1) d l = flatC (n + 1) d (l.take i) ++ (d, y) :: (flatC n (d + 1) y.conds ++ flatC (n + 1) d (l.drop (i + 1))) := by
        rw [flatC_succ, flatC_succ, flatC_succ]
        conv => lhs; rw [← List.take_append_drop i l, List.drop_eq_getElem_cons hlt, ← hy, List.flatMap_append, List.flatMap_cons]
        rfl
       have e2 : F = (F.take at_ ++ flatC (n + 1) d (l.take i)) ++ (d, y) :: (flatC n (d + 1) y.conds ++ (flatC (n + 1) d (l.drop (i + 1)) ++ post)) := by
        conv => lhs; rw [hp, e1]
        simp [List.append_assoc]
       have e3 : (F.take at_ ++ flatC (n + 1) d (l.take i)).length = k := by
        have h1 := HLEN.out
        rw [List.length_append, List.length_take, hk]
        omega
       exact ⟨_, _, e3, e2⟩
      obtain ⟨P, R, e3, e2⟩ := hparts
      have hFk : F[k] = (d, y) := by
       have e4 : F[k]? = some (d, y) := by
        conv => lhs; rw [e2]
        rw [List.getElem?_append_right (by rw [e3]; exact Nat.le_refl k), e3, Nat.sub_self, List.getElem?_cons_zero]
       rw [List.getElem?_eq_getElem hkF] at e4
       exact Option.some.inj e4
      have hpost2 : ∃ post, F = F.take (k + 1) ++ flatC n (d + 1) y.conds ++ post := by
       refine ⟨R, ?_⟩
       have e5 : F.take (k + 1) = P ++ [(d, y)] := by
        conv => lhs; rw [e2]
        rw [List.take_append, e3]
        simp [List.take_of_length_le (by omega : P.length ≤ k + 1)]
       rw [e5, List.append_assoc, List.append_assoc]
       exact e2
      have hlen2 : k + 1 + (flatC n (d + 1) y.conds).length ≤ F.length := by
       rw [e2, List.length_append, List.length_cons, List.length_append, e3]
       omega
      have hcl := Y.call k hkF
      simp only [hFk] at hcl
      have HCL := Lib.hid hcl
      have HY := Lib.hid hy
      have HPO := Lib.hid hpost2
      have HLE := Lib.hid hlen2
      have HIk := Lib.hid (show Inv k wr by rw [hk]; exact HIi.out)
      have HSNL := Lib.hid (show at_ + (flatC (n + 1) d (l.take (i + 1))).length = k + 1 + (flatC n (d + 1) y.conds).length by rw [HSN.out, List.length_append, List.length_cons, hk]; omega)
      have HR1 := Lib.hid r1
      have HR2 := Lib.hid r2
      have HR3 := Lib.hid r3
      have hn3 := r3.cap
      have hkb : k < 1000000000 := Nat.lt_of_lt_of_le hkF hF
      have b1 : (0 : Int) ≤ (i : Int) := by omega
      have b2 : (i : Int) < (l.length : Int) := by omega
      have hzr := HFr.out.size
      have v1 : IntKind.i64.wrap ((k : Int) + 1) = ((k + 1 : Nat) : Int) := by rw [IntWalk.i64_in _ (by omega)]; rfl
      have v2 : IntKind.i64.wrap ((d : Int) + 1) = ((d + 1 : Nat) : Int) := by rw [IntWalk.i64_in _ (by omega)]; rfl
      rw [← hk]
      clear hcl hy hpost2 hlen2 hsn hFk e2 e3 hp hk r1 r2 r3 P R post hkF
      go_wp2_with fail
      obtain ⟨X, hX⟩ : ∃ X, X = wr.alloc (.cells #[.int .i64 y.kind, .bool y.goal, .string y.id, .slice A1 y.attr.length c1, .slice A2 y.value.length c2, .bool y.acc, .slice A3 y.conds.length c3] 62) := ⟨_, rfl⟩
      rw [← hX]
      have hbX : Below wr.heap.size wr X := by rw [hX]; exact (Below.refl _ _).alloc (Nat.le_refl _) _
      have hBk : Blk X wr.heap.size 62 #[.int .i64 y.kind, .bool y.goal, .string y.id, .slice A1 y.attr.length c1, .slice A2 y.value.length c2, .bool y.acc, .slice A3 y.conds.length c3] := by rw [hX]; exact Blk.new _ _ _
      have HBX := Lib.hid hbX
      have HBK := Lib.hid hBk
      clear hX hbX hBk
      refine (HCL.out X A1 A2 A3 c1 c2 c3 (Y.new_ _ _ _ HIk.out HBX.out) (HR1.out.new_ HBX.out) (HR2.out.new_ HBX.out) hn3).mono ?_
      rintro e w5 ⟨b, rfl, hbt, hbf, hF5⟩
      have HF5 := Lib.hid (HFr.out.trans ((Fr.of_new HBX.out).trans hF5))
      have hBk5 := HBK.out.fr hF5 (fun hm => by have := HLOW.out _ hm; omega)
      have x6 : w5.cell? ⟨wr.heap.size, 6, none⟩ = some (.slice A3 y.conds.length c3) := (hBk5.cell 6).trans rfl
      have hxl := hBk5.lt
      have HR35 := Lib.hid ((HR3.out.new_ HBX.out).fr hF5 (fun j hd => Y.apart j hd))
      cases b with
      | false =>
        have HS := Lib.hid (hbf rfl)
        clear hbt hbf hF5 hBk5 x6 q0 q1 q2 q3 q4 q5 q6
        go_wp2_with fail
        go_ret2
        exact ⟨false, k, rfl, (fun h => by cases h), fun _ => HS.out, HF5.out⟩
      | true =>
        have HI5 := Lib.hid (hbt rfl)
        clear hbt hbf hF5 hBk5 q0 q1 q2 q3 q4 q5 q6
        go_wp2_with fail
        refine (IH.out (d + 1) (k + 1) A3 c3 y.conds w5 HR35.out (fun j hj => Nat.lt_of_lt_of_le (HLOW.out j hj) HF5.out.size) HPO.out HLE.out (by omega) HI5.out).mono ?_
        rintro e w6 ⟨b2, a2, rfl, hb2t, hb2f, hF6⟩
        have HF6 := Lib.hid (HF5.out.trans hF6)
        cases b2 with
        | false =>
          have HS := Lib.hid (hb2f rfl)
          clear hb2t hb2f hF6 x6
          go_wp2_with fail
          go_ret2
          exact ⟨false, a2, rfl, (fun h => by cases h), fun _ => HS.out, HF6.out⟩
        | true =>
          obtain ⟨ha2, hI6⟩ := hb2t rfl
          have HA2 := Lib.hid ha2
          have HI6 := Lib.hid hI6
          clear hb2t hb2f hF6 x6 ha2 hI6
          go_wp2_with fail
          go_roundw
          case rel => exact ⟨i + 1, by go_num, by omega, by rw [HSNL.out, HA2.out], by rw [HSNL.out, ← HA2.out]; exact HI6.out, HF6.out⟩
          case measure => simp [intOf] <;> omega
    · have hie : i = l.length := by omega
      subst hie
      rw [List.take_length] at *
      have HI2 := Lib.hid HIi.out
      go_wp2_with fail
      go_ret2
      exact ⟨true, at_ + (flatC (n + 1) d l).length, rfl, (fun _ => ⟨rfl, HI2.out⟩), (fun h => by cases h), HFr.out⟩
end Go.Proofs.YtpndmjabjjbefaaGreat
namespace Go.Proofs.YtpndmjabjjbefaaGreat
open Go.RowKit Go.Shelf
def Inv1 (bn : Nat) (k : Nat) (w : World) : Prop := Blk w bn 3 #[.int .i64 (k : Int)] ∧ k ≤ 16
def Stop1 (bn : Nat) (F : List (Nat × CondT)) (w : World) : Prop := Blk w bn 3 #[.int .i64 17] ∧ 16 < F.length
set_option maxHeartbeats 4000000 in
theorem yld1 {D : Nat → Prop} (bn : Nat) (hD : ¬ D bn) (F : List (Nat × CondT)) : Yld 93 [.pointer (some ⟨bn, 0, none⟩)] D (· = bn) F (Inv1 bn) (Stop1 bn F) := by
 refine ⟨by intro args w; kernel_rfl, ?_, fun j hj e => hD (e ▸ hj), fun k w w' h hb => ⟨h.1.new_ hb, h.2⟩, fun w w' h hb => ⟨h.1.new_ hb, h.2⟩⟩
 intro k hk w A1 A2 A3 c1 c2 c3 hI _ _ _
 obtain ⟨x, hx⟩ : ∃ x, x = F[k].2 := ⟨_, rfl⟩
 obtain ⟨d, hd⟩ : ∃ d, d = F[k].1 := ⟨_, rfl⟩
 rw [← hx, ← hd]
 have HI := Lib.hid hI
 have s0 : w.cell? ⟨bn, 0, none⟩ = some (.int .i64 (k : Int)) := (hI.1.cell 0).trans rfl
 have f0 := hI.1.frozen 0
 have hl := hI.1.lt
 have hk16 := hI.2
 have v1 : IntKind.i64.wrap ((k : Int) + 1) = (k : Int) + 1 := IntWalk.i64_in _ (by omega)
 clear hI hx hd
 show Calls Tryz.prog 93 #[_, _, _, _] w _
 by_cases h16 : k + 1 ≤ 16
 · have t1 : decide ((k : Int) + 1 ≤ 16) = true := decide_eq_true (by omega)
   go_enter Tryz.func93, Tryz.ntmps93
   go_wp2_with fail
   go_ret
   refine ⟨true, rfl, fun _ => ⟨?_, h16⟩, (fun h => by cases h), ((Fr.refl (· = bn) w).setCell (p := ⟨bn, 0, none⟩) (.inl rfl) _).alloc _⟩
   exact (HI.out.1.set_ 0 (.int .i64 ((k : Int) + 1))).alloc _
 · have t1 : decide ((k : Int) + 1 ≤ 16) = false := decide_eq_false (by omega)
   have hk17 : (k : Int) + 1 = 17 := by omega
   have HK := Lib.hid hk17
   clear hk17
   go_enter Tryz.func93, Tryz.ntmps93
   go_wp2_with fail
   go_ret
   refine ⟨false, rfl, (fun h => by cases h), fun _ => ?_, ((Fr.refl (· = bn) w).setCell (p := ⟨bn, 0, none⟩) (.inl rfl) _).alloc _⟩
   rw [HK.out]
   exact ⟨(HI.out.1.set_ 0 (.int .i64 17)).alloc _, by have := HK.out; omega⟩
def Inv2 (be bp : Nat) (F : List (Nat × CondT)) (k : Nat) (w : World) : Prop := Blk w be 44 #[.int .i64 0] ∧ Blk w bp 3 #[.int .i64 (-1)] ∧ ∀ j, (h : j < F.length) → j < k → condE F[j].2 F[j].1 = 0
def Stop2 (be bp : Nat) (F : List (Nat × CondT)) (w : World) : Prop := ∃ k, ∃ h : k < F.length, Blk w be 44 #[.int .i64 (condE F[k].2 F[k].1)] ∧ Blk w bp 3 #[.int .i64 (k : Int)] ∧ condE F[k].2 F[k].1 ≠ 0 ∧ ∀ j, (h : j < F.length) → j < k → condE F[j].2 F[j].1 = 0
set_option maxHeartbeats 4000000 in
theorem yld2 {D : Nat → Prop} (be bp : Nat) (hD1 : ¬ D be) (hD2 : ¬ D bp) (hne : be ≠ bp) (F : List (Nat × CondT)) : Yld 94 [.pointer (some ⟨be, 0, none⟩), .pointer (some ⟨bp, 0, none⟩)] D (fun j => j = be ∨ j = bp) F (Inv2 be bp F) (Stop2 be bp F) := by
 refine ⟨by intro args w; kernel_rfl, ?_, fun j hj e => e.elim (fun e => hD1 (e ▸ hj)) (fun e => hD2 (e ▸ hj)), fun k w w' h hb => ⟨h.1.new_ hb, h.2.1.new_ hb, h.2.2⟩, fun w w' ⟨k, h, h1, h2, h3⟩ hb => ⟨k, h, h1.new_ hb, h2.new_ hb, h3⟩⟩
 intro k hk w A1 A2 A3 c1 c2 c3 hI hr1 hr2 hn3
 obtain ⟨x, hx⟩ : ∃ x, x = F[k].2 := ⟨_, rfl⟩
 obtain ⟨d, hd⟩ : ∃ d, d = F[k].1 := ⟨_, rfl⟩
 rw [← hx] at hr1 hr2 hn3
 rw [← hx, ← hd]
 have HI := Lib.hid hI
 have HX := Lib.hid (show condE F[k].2 F[k].1 = condE x d by rw [hx, hd])
 have HR1 := Lib.hid hr1
 have HR2 := Lib.hid hr2
 clear hI hx hd hr1 hr2
 show Calls Tryz.prog 94 #[_, _, _, _, _] w _
 go_enter Tryz.func94, Tryz.ntmps94
 go_wp2_with fail
 obtain ⟨X, hX⟩ : ∃ X, X = w.alloc (.cells #[.int .i64 x.kind, .bool x.goal, .string x.id, .slice A1 x.attr.length c1, .slice A2 x.value.length c2, .bool x.acc, .slice A3 x.conds.length c3] 62) := ⟨_, rfl⟩
 rw [← hX]
 have hbX : Below w.heap.size w X := by rw [hX]; exact (Below.refl _ _).alloc (Nat.le_refl _) _
 have HBX := Lib.hid hbX
 clear hX hbX
 refine (cond_is x d A1 A2 A3 c1 c2 c3 X (HR1.out.new_ HBX.out) (HR2.out.new_ HBX.out) hn3).mono ?_
 rintro e w5 ⟨rfl, hb5⟩
 have HB5 := Lib.hid (HBX.out.trans (hb5.mono HBX.out.size))
 have hE := HI.out.1.new_ HB5.out
 have hP := HI.out.2.1.new_ HB5.out
 have s0 : w5.cell? ⟨be, 0, none⟩ = some (.int .i64 0) := (hE.cell 0).trans rfl
 have s1 : w5.cell? ⟨bp, 0, none⟩ = some (.int .i64 (-1)) := (hP.cell 0).trans rfl
 have f0 := hE.frozen 0
 have f1 := hP.frozen 0
 have hl0 := hE.lt
 have hl1 := hP.lt
 have HE := Lib.hid hE
 have HP := Lib.hid hP
 obtain ⟨z, hz⟩ : ∃ z, z = condE x d := ⟨_, rfl⟩
 rw [← hz]
 have HZ := Lib.hid hz
 clear hb5 hE hP hz
 by_cases h0 : z = 0
 · subst h0
   go_wp2_with fail
   go_ret
   refine ⟨true, rfl, fun _ => ⟨HE.out.set_ 0 _, HP.out.far (p := ⟨be, 0, none⟩) (Ne.symm hne) _, fun j hj hjk => ?_⟩, (fun h => by cases h), (Fr.of_new HB5.out).setCell (p := ⟨be, 0, none⟩) (.inl (.inl rfl)) _⟩
   by_cases e : j = k
   · subst e; rw [HX.out, ← HZ.out]
   · exact HI.out.2.2 j hj (by omega)
 · have t1 : (z == 0) = false := by simp [h0]
   have t2 : decide (z = 0) = false := by simp [h0]
   have HN0 := Lib.hid h0
   clear h0
   go_wp2_with fail
   go_ret
   refine ⟨false, rfl, (fun h => by cases h), fun _ => ⟨k, hk, ?_, ?_, ?_, HI.out.2.2⟩, ((Fr.of_new HB5.out).setCell (p := ⟨be, 0, none⟩) (.inl (.inl rfl)) _).setCell (p := ⟨bp, 0, none⟩) (.inl (.inr rfl)) _⟩
   · rw [HX.out, ← HZ.out]
     exact (HE.out.set_ 0 _).far (p := ⟨bp, 0, none⟩) hne _
   · exact (HP.out.far (p := ⟨be, 0, none⟩) (Ne.symm hne) _).set_ 0 _
   · rw [HX.out, ← HZ.out]; exact HN0.out
end Go.Proofs.YtpndmjabjjbefaaGreat
namespace Go.Proofs.YtpndmjabjjbefaaGreat
open Go.RowKit Go.Shelf
set_option maxRecDepth 100000 in
set_option maxHeartbeats 8000000 in
theorem act_is (a : ActT) (w : World) : Calls Tryz.prog 96 #[.agg #[.string a.id, .string a.attr.var, .int .i64 a.attr.sym.kind, .string a.attr.sym.text, .int .i64 a.attr.sym.n, .int .i64 a.value.op, .string a.value.a.var, .int .i64 a.value.a.sym.kind, .string a.value.a.sym.text, .int .i64 a.value.a.sym.n, .string a.value.b.var, .int .i64 a.value.b.sym.kind, .string a.value.b.sym.text, .int .i64 a.value.b.sym.n, .int .i64 a.pref, .string a.other.var, .int .i64 a.other.sym.kind, .string a.other.sym.text, .int .i64 a.other.sym.n]] w fun e w' => e = .returned (.bool (actB a)) ∧ Below w.heap.size w w' := by
 by_cases c0 : isWord a.id = false
 · have t0 := c0
   have HR := Lib.hid (show actB a = false by simp [actB, *])
   clear c0
   go_enter Tryz.func96, Tryz.ntmps96
   go_upto_region 1 with fail
   obtain ⟨W1, hW1⟩ : ∃ W1, W1 = w.alloc (.cells #[.string a.id, .string a.attr.var, .int .i64 a.attr.sym.kind, .string a.attr.sym.text, .int .i64 a.attr.sym.n, .int .i64 a.value.op, .string a.value.a.var, .int .i64 a.value.a.sym.kind, .string a.value.a.sym.text, .int .i64 a.value.a.sym.n, .string a.value.b.var, .int .i64 a.value.b.sym.kind, .string a.value.b.sym.text, .int .i64 a.value.b.sym.n, .int .i64 a.pref, .string a.other.var, .int .i64 a.other.sym.kind, .string a.other.sym.text, .int .i64 a.other.sym.n] 65) := ⟨_, rfl⟩
   rw [← hW1]
   have hBk : Blk W1 w.heap.size 65 #[.string a.id, .string a.attr.var, .int .i64 a.attr.sym.kind, .string a.attr.sym.text, .int .i64 a.attr.sym.n, .int .i64 a.value.op, .string a.value.a.var, .int .i64 a.value.a.sym.kind, .string a.value.a.sym.text, .int .i64 a.value.a.sym.n, .string a.value.b.var, .int .i64 a.value.b.sym.kind, .string a.value.b.sym.text, .int .i64 a.value.b.sym.n, .int .i64 a.pref, .string a.other.var, .int .i64 a.other.sym.kind, .string a.other.sym.text, .int .i64 a.other.sym.n] := by rw [hW1]; exact Blk.new _ _ _
   have HB := Lib.hid (show Below w.heap.size w W1 by rw [hW1]; exact (Below.refl _ _).alloc (Nat.le_refl _) _)
   have e0 : W1.cell? ⟨w.heap.size, 0, none⟩ = some (.string a.id) := (hBk.cell 0).trans rfl
   have e1 : W1.cell? ⟨w.heap.size, 1, none⟩ = some (.string a.attr.var) := (hBk.cell 1).trans rfl
   have e2 : W1.cell? ⟨w.heap.size, 2, none⟩ = some (.int .i64 a.attr.sym.kind) := (hBk.cell 2).trans rfl
   have e3 : W1.cell? ⟨w.heap.size, 3, none⟩ = some (.string a.attr.sym.text) := (hBk.cell 3).trans rfl
   have e4 : W1.cell? ⟨w.heap.size, 4, none⟩ = some (.int .i64 a.attr.sym.n) := (hBk.cell 4).trans rfl
   have e5 : W1.cell? ⟨w.heap.size, 5, none⟩ = some (.int .i64 a.value.op) := (hBk.cell 5).trans rfl
   have e6 : W1.cell? ⟨w.heap.size, 6, none⟩ = some (.string a.value.a.var) := (hBk.cell 6).trans rfl
   have e7 : W1.cell? ⟨w.heap.size, 7, none⟩ = some (.int .i64 a.value.a.sym.kind) := (hBk.cell 7).trans rfl
   have e8 : W1.cell? ⟨w.heap.size, 8, none⟩ = some (.string a.value.a.sym.text) := (hBk.cell 8).trans rfl
   have e9 : W1.cell? ⟨w.heap.size, 9, none⟩ = some (.int .i64 a.value.a.sym.n) := (hBk.cell 9).trans rfl
   have e10 : W1.cell? ⟨w.heap.size, 10, none⟩ = some (.string a.value.b.var) := (hBk.cell 10).trans rfl
   have e11 : W1.cell? ⟨w.heap.size, 11, none⟩ = some (.int .i64 a.value.b.sym.kind) := (hBk.cell 11).trans rfl
   have e12 : W1.cell? ⟨w.heap.size, 12, none⟩ = some (.string a.value.b.sym.text) := (hBk.cell 12).trans rfl
   have e13 : W1.cell? ⟨w.heap.size, 13, none⟩ = some (.int .i64 a.value.b.sym.n) := (hBk.cell 13).trans rfl
   have e14 : W1.cell? ⟨w.heap.size, 14, none⟩ = some (.int .i64 a.pref) := (hBk.cell 14).trans rfl
   have e15 : W1.cell? ⟨w.heap.size, 15, none⟩ = some (.string a.other.var) := (hBk.cell 15).trans rfl
   have e16 : W1.cell? ⟨w.heap.size, 16, none⟩ = some (.int .i64 a.other.sym.kind) := (hBk.cell 16).trans rfl
   have e17 : W1.cell? ⟨w.heap.size, 17, none⟩ = some (.string a.other.sym.text) := (hBk.cell 17).trans rfl
   have e18 : W1.cell? ⟨w.heap.size, 18, none⟩ = some (.int .i64 a.other.sym.n) := (hBk.cell 18).trans rfl
   have hbl := hBk.lt
   clear hW1 hBk
   go_wp2_with (first
    | (go_at_call 81; refine (word_is a.id _).mono ?_; rintro e w9 ⟨rfl, rfl⟩)
    | (go_at_call 114; (first | (with_reducible refine (atomS_is a.attr _).mono ?_) | (with_reducible refine (atomS_is a.other _).mono ?_)); rintro e w9 ⟨rfl, hb9⟩; have HB := Lib.hid (HB.out.trans (hb9.mono HB.out.size)); replace e0 := (hb9.cell (p := ⟨w.heap.size, 0, none⟩) hbl).trans e0; replace e1 := (hb9.cell (p := ⟨w.heap.size, 1, none⟩) hbl).trans e1; replace e2 := (hb9.cell (p := ⟨w.heap.size, 2, none⟩) hbl).trans e2; replace e3 := (hb9.cell (p := ⟨w.heap.size, 3, none⟩) hbl).trans e3; replace e4 := (hb9.cell (p := ⟨w.heap.size, 4, none⟩) hbl).trans e4; replace e5 := (hb9.cell (p := ⟨w.heap.size, 5, none⟩) hbl).trans e5; replace e6 := (hb9.cell (p := ⟨w.heap.size, 6, none⟩) hbl).trans e6; replace e7 := (hb9.cell (p := ⟨w.heap.size, 7, none⟩) hbl).trans e7; replace e8 := (hb9.cell (p := ⟨w.heap.size, 8, none⟩) hbl).trans e8; replace e9 := (hb9.cell (p := ⟨w.heap.size, 9, none⟩) hbl).trans e9; replace e10 := (hb9.cell (p := ⟨w.heap.size, 10, none⟩) hbl).trans e10; replace e11 := (hb9.cell (p := ⟨w.heap.size, 11, none⟩) hbl).trans e11; replace e12 := (hb9.cell (p := ⟨w.heap.size, 12, none⟩) hbl).trans e12; replace e13 := (hb9.cell (p := ⟨w.heap.size, 13, none⟩) hbl).trans e13; replace e14 := (hb9.cell (p := ⟨w.heap.size, 14, none⟩) hbl).trans e14; replace e15 := (hb9.cell (p := ⟨w.heap.size, 15, none⟩) hbl).trans e15; replace e16 := (hb9.cell (p := ⟨w.heap.size, 16, none⟩) hbl).trans e16; replace e17 := (hb9.cell (p := ⟨w.heap.size, 17, none⟩) hbl).trans e17; replace e18 := (hb9.cell (p := ⟨w.heap.size, 18, none⟩) hbl).trans e18; replace hbl := Nat.lt_of_lt_of_le hbl hb9.size; clear hb9)
    | (go_at_call 115; refine (term_is a.value _).mono ?_; rintro e w9 ⟨rfl, hb9⟩; have HB := Lib.hid (HB.out.trans (hb9.mono HB.out.size)); replace e0 := (hb9.cell (p := ⟨w.heap.size, 0, none⟩) hbl).trans e0; replace e1 := (hb9.cell (p := ⟨w.heap.size, 1, none⟩) hbl).trans e1; replace e2 := (hb9.cell (p := ⟨w.heap.size, 2, none⟩) hbl).trans e2; replace e3 := (hb9.cell (p := ⟨w.heap.size, 3, none⟩) hbl).trans e3; replace e4 := (hb9.cell (p := ⟨w.heap.size, 4, none⟩) hbl).trans e4; replace e5 := (hb9.cell (p := ⟨w.heap.size, 5, none⟩) hbl).trans e5; replace e6 := (hb9.cell (p := ⟨w.heap.size, 6, none⟩) hbl).trans e6; replace e7 := (hb9.cell (p := ⟨w.heap.size, 7, none⟩) hbl).trans e7; replace e8 := (hb9.cell (p := ⟨w.heap.size, 8, none⟩) hbl).trans e8; replace e9 := (hb9.cell (p := ⟨w.heap.size, 9, none⟩) hbl).trans e9; replace e10 := (hb9.cell (p := ⟨w.heap.size, 10, none⟩) hbl).trans e10; replace e11 := (hb9.cell (p := ⟨w.heap.size, 11, none⟩) hbl).trans e11; replace e12 := (hb9.cell (p := ⟨w.heap.size, 12, none⟩) hbl).trans e12; replace e13 := (hb9.cell (p := ⟨w.heap.size, 13, none⟩) hbl).trans e13; replace e14 := (hb9.cell (p := ⟨w.heap.size, 14, none⟩) hbl).trans e14; replace e15 := (hb9.cell (p := ⟨w.heap.size, 15, none⟩) hbl).trans e15; replace e16 := (hb9.cell (p := ⟨w.heap.size, 16, none⟩) hbl).trans e16; replace e17 := (hb9.cell (p := ⟨w.heap.size, 17, none⟩) hbl).trans e17; replace e18 := (hb9.cell (p := ⟨w.heap.size, 18, none⟩) hbl).trans e18; replace hbl := Nat.lt_of_lt_of_le hbl hb9.size; clear hb9)
    | (go_at_call 116; refine (other_is a.pref _).mono ?_; rintro e w9 ⟨rfl, rfl⟩)
    | (go_at_call 117; refine (empty_is a.other _).mono ?_; rintro e w9 ⟨rfl, hb9⟩; have HB := Lib.hid (HB.out.trans (hb9.mono HB.out.size)); replace e0 := (hb9.cell (p := ⟨w.heap.size, 0, none⟩) hbl).trans e0; replace e1 := (hb9.cell (p := ⟨w.heap.size, 1, none⟩) hbl).trans e1; replace e2 := (hb9.cell (p := ⟨w.heap.size, 2, none⟩) hbl).trans e2; replace e3 := (hb9.cell (p := ⟨w.heap.size, 3, none⟩) hbl).trans e3; replace e4 := (hb9.cell (p := ⟨w.heap.size, 4, none⟩) hbl).trans e4; replace e5 := (hb9.cell (p := ⟨w.heap.size, 5, none⟩) hbl).trans e5; replace e6 := (hb9.cell (p := ⟨w.heap.size, 6, none⟩) hbl).trans e6; replace e7 := (hb9.cell (p := ⟨w.heap.size, 7, none⟩) hbl).trans e7; replace e8 := (hb9.cell (p := ⟨w.heap.size, 8, none⟩) hbl).trans e8; replace e9 := (hb9.cell (p := ⟨w.heap.size, 9, none⟩) hbl).trans e9; replace e10 := (hb9.cell (p := ⟨w.heap.size, 10, none⟩) hbl).trans e10; replace e11 := (hb9.cell (p := ⟨w.heap.size, 11, none⟩) hbl).trans e11; replace e12 := (hb9.cell (p := ⟨w.heap.size, 12, none⟩) hbl).trans e12; replace e13 := (hb9.cell (p := ⟨w.heap.size, 13, none⟩) hbl).trans e13; replace e14 := (hb9.cell (p := ⟨w.heap.size, 14, none⟩) hbl).trans e14; replace e15 := (hb9.cell (p := ⟨w.heap.size, 15, none⟩) hbl).trans e15; replace e16 := (hb9.cell (p := ⟨w.heap.size, 16, none⟩) hbl).trans e16; replace e17 := (hb9.cell (p := ⟨w.heap.size, 17, none⟩) hbl).trans e17; replace e18 := (hb9.cell (p := ⟨w.heap.size, 18, none⟩) hbl).trans e18; replace hbl := Nat.lt_of_lt_of_le hbl hb9.size; clear hb9))
   go_ret
   exact ⟨by rw [HR.out] <;> rfl, by (first | exact HB.out | (exact (Below.refl _ _).alloc (Nat.le_refl _) _) | (simpa using HB.out))⟩
 by_cases c1 : atomB a.attr = false
 · have t0 : isWord a.id = true := by simpa using c0
   have t1 := c1
   have HR := Lib.hid (show actB a = false by simp [actB, *])
   clear c0 c1
   go_enter Tryz.func96, Tryz.ntmps96
   go_upto_region 1 with fail
   obtain ⟨W1, hW1⟩ : ∃ W1, W1 = w.alloc (.cells #[.string a.id, .string a.attr.var, .int .i64 a.attr.sym.kind, .string a.attr.sym.text, .int .i64 a.attr.sym.n, .int .i64 a.value.op, .string a.value.a.var, .int .i64 a.value.a.sym.kind, .string a.value.a.sym.text, .int .i64 a.value.a.sym.n, .string a.value.b.var, .int .i64 a.value.b.sym.kind, .string a.value.b.sym.text, .int .i64 a.value.b.sym.n, .int .i64 a.pref, .string a.other.var, .int .i64 a.other.sym.kind, .string a.other.sym.text, .int .i64 a.other.sym.n] 65) := ⟨_, rfl⟩
   rw [← hW1]
   have hBk : Blk W1 w.heap.size 65 #[.string a.id, .string a.attr.var, .int .i64 a.attr.sym.kind, .string a.attr.sym.text, .int .i64 a.attr.sym.n, .int .i64 a.value.op, .string a.value.a.var, .int .i64 a.value.a.sym.kind, .string a.value.a.sym.text, .int .i64 a.value.a.sym.n, .string a.value.b.var, .int .i64 a.value.b.sym.kind, .string a.value.b.sym.text, .int .i64 a.value.b.sym.n, .int .i64 a.pref, .string a.other.var, .int .i64 a.other.sym.kind, .string a.other.sym.text, .int .i64 a.other.sym.n] := by rw [hW1]; exact Blk.new _ _ _
   have HB := Lib.hid (show Below w.heap.size w W1 by rw [hW1]; exact (Below.refl _ _).alloc (Nat.le_refl _) _)
   have e0 : W1.cell? ⟨w.heap.size, 0, none⟩ = some (.string a.id) := (hBk.cell 0).trans rfl
   have e1 : W1.cell? ⟨w.heap.size, 1, none⟩ = some (.string a.attr.var) := (hBk.cell 1).trans rfl
   have e2 : W1.cell? ⟨w.heap.size, 2, none⟩ = some (.int .i64 a.attr.sym.kind) := (hBk.cell 2).trans rfl
   have e3 : W1.cell? ⟨w.heap.size, 3, none⟩ = some (.string a.attr.sym.text) := (hBk.cell 3).trans rfl
   have e4 : W1.cell? ⟨w.heap.size, 4, none⟩ = some (.int .i64 a.attr.sym.n) := (hBk.cell 4).trans rfl
   have e5 : W1.cell? ⟨w.heap.size, 5, none⟩ = some (.int .i64 a.value.op) := (hBk.cell 5).trans rfl
   have e6 : W1.cell? ⟨w.heap.size, 6, none⟩ = some (.string a.value.a.var) := (hBk.cell 6).trans rfl
   have e7 : W1.cell? ⟨w.heap.size, 7, none⟩ = some (.int .i64 a.value.a.sym.kind) := (hBk.cell 7).trans rfl
   have e8 : W1.cell? ⟨w.heap.size, 8, none⟩ = some (.string a.value.a.sym.text) := (hBk.cell 8).trans rfl
   have e9 : W1.cell? ⟨w.heap.size, 9, none⟩ = some (.int .i64 a.value.a.sym.n) := (hBk.cell 9).trans rfl
   have e10 : W1.cell? ⟨w.heap.size, 10, none⟩ = some (.string a.value.b.var) := (hBk.cell 10).trans rfl
   have e11 : W1.cell? ⟨w.heap.size, 11, none⟩ = some (.int .i64 a.value.b.sym.kind) := (hBk.cell 11).trans rfl
   have e12 : W1.cell? ⟨w.heap.size, 12, none⟩ = some (.string a.value.b.sym.text) := (hBk.cell 12).trans rfl
   have e13 : W1.cell? ⟨w.heap.size, 13, none⟩ = some (.int .i64 a.value.b.sym.n) := (hBk.cell 13).trans rfl
   have e14 : W1.cell? ⟨w.heap.size, 14, none⟩ = some (.int .i64 a.pref) := (hBk.cell 14).trans rfl
   have e15 : W1.cell? ⟨w.heap.size, 15, none⟩ = some (.string a.other.var) := (hBk.cell 15).trans rfl
   have e16 : W1.cell? ⟨w.heap.size, 16, none⟩ = some (.int .i64 a.other.sym.kind) := (hBk.cell 16).trans rfl
   have e17 : W1.cell? ⟨w.heap.size, 17, none⟩ = some (.string a.other.sym.text) := (hBk.cell 17).trans rfl
   have e18 : W1.cell? ⟨w.heap.size, 18, none⟩ = some (.int .i64 a.other.sym.n) := (hBk.cell 18).trans rfl
   have hbl := hBk.lt
   clear hW1 hBk
   go_wp2_with (first
    | (go_at_call 81; refine (word_is a.id _).mono ?_; rintro e w9 ⟨rfl, rfl⟩)
    | (go_at_call 114; (first | (with_reducible refine (atomS_is a.attr _).mono ?_) | (with_reducible refine (atomS_is a.other _).mono ?_)); rintro e w9 ⟨rfl, hb9⟩; have HB := Lib.hid (HB.out.trans (hb9.mono HB.out.size)); replace e0 := (hb9.cell (p := ⟨w.heap.size, 0, none⟩) hbl).trans e0; replace e1 := (hb9.cell (p := ⟨w.heap.size, 1, none⟩) hbl).trans e1; replace e2 := (hb9.cell (p := ⟨w.heap.size, 2, none⟩) hbl).trans e2; replace e3 := (hb9.cell (p := ⟨w.heap.size, 3, none⟩) hbl).trans e3; replace e4 := (hb9.cell (p := ⟨w.heap.size, 4, none⟩) hbl).trans e4; replace e5 := (hb9.cell (p := ⟨w.heap.size, 5, none⟩) hbl).trans e5; replace e6 := (hb9.cell (p := ⟨w.heap.size, 6, none⟩) hbl).trans e6; replace e7 := (hb9.cell (p := ⟨w.heap.size, 7, none⟩) hbl).trans e7; replace e8 := (hb9.cell (p := ⟨w.heap.size, 8, none⟩) hbl).trans e8; replace e9 := (hb9.cell (p := ⟨w.heap.size, 9, none⟩) hbl).trans e9; replace e10 := (hb9.cell (p := ⟨w.heap.size, 10, none⟩) hbl).trans e10; replace e11 := (hb9.cell (p := ⟨w.heap.size, 11, none⟩) hbl).trans e11; replace e12 := (hb9.cell (p := ⟨w.heap.size, 12, none⟩) hbl).trans e12; replace e13 := (hb9.cell (p := ⟨w.heap.size, 13, none⟩) hbl).trans e13; replace e14 := (hb9.cell (p := ⟨w.heap.size, 14, none⟩) hbl).trans e14; replace e15 := (hb9.cell (p := ⟨w.heap.size, 15, none⟩) hbl).trans e15; replace e16 := (hb9.cell (p := ⟨w.heap.size, 16, none⟩) hbl).trans e16; replace e17 := (hb9.cell (p := ⟨w.heap.size, 17, none⟩) hbl).trans e17; replace e18 := (hb9.cell (p := ⟨w.heap.size, 18, none⟩) hbl).trans e18; replace hbl := Nat.lt_of_lt_of_le hbl hb9.size; clear hb9)
    | (go_at_call 115; refine (term_is a.value _).mono ?_; rintro e w9 ⟨rfl, hb9⟩; have HB := Lib.hid (HB.out.trans (hb9.mono HB.out.size)); replace e0 := (hb9.cell (p := ⟨w.heap.size, 0, none⟩) hbl).trans e0; replace e1 := (hb9.cell (p := ⟨w.heap.size, 1, none⟩) hbl).trans e1; replace e2 := (hb9.cell (p := ⟨w.heap.size, 2, none⟩) hbl).trans e2; replace e3 := (hb9.cell (p := ⟨w.heap.size, 3, none⟩) hbl).trans e3; replace e4 := (hb9.cell (p := ⟨w.heap.size, 4, none⟩) hbl).trans e4; replace e5 := (hb9.cell (p := ⟨w.heap.size, 5, none⟩) hbl).trans e5; replace e6 := (hb9.cell (p := ⟨w.heap.size, 6, none⟩) hbl).trans e6; replace e7 := (hb9.cell (p := ⟨w.heap.size, 7, none⟩) hbl).trans e7; replace e8 := (hb9.cell (p := ⟨w.heap.size, 8, none⟩) hbl).trans e8; replace e9 := (hb9.cell (p := ⟨w.heap.size, 9, none⟩) hbl).trans e9; replace e10 := (hb9.cell (p := ⟨w.heap.size, 10, none⟩) hbl).trans e10; replace e11 := (hb9.cell (p := ⟨w.heap.size, 11, none⟩) hbl).trans e11; replace e12 := (hb9.cell (p := ⟨w.heap.size, 12, none⟩) hbl).trans e12; replace e13 := (hb9.cell (p := ⟨w.heap.size, 13, none⟩) hbl).trans e13; replace e14 := (hb9.cell (p := ⟨w.heap.size, 14, none⟩) hbl).trans e14; replace e15 := (hb9.cell (p := ⟨w.heap.size, 15, none⟩) hbl).trans e15; replace e16 := (hb9.cell (p := ⟨w.heap.size, 16, none⟩) hbl).trans e16; replace e17 := (hb9.cell (p := ⟨w.heap.size, 17, none⟩) hbl).trans e17; replace e18 := (hb9.cell (p := ⟨w.heap.size, 18, none⟩) hbl).trans e18; replace hbl := Nat.lt_of_lt_of_le hbl hb9.size; clear hb9)
    | (go_at_call 116; refine (other_is a.pref _).mono ?_; rintro e w9 ⟨rfl, rfl⟩)
    | (go_at_call 117; refine (empty_is a.other _).mono ?_; rintro e w9 ⟨rfl, hb9⟩; have HB := Lib.hid (HB.out.trans (hb9.mono HB.out.size)); replace e0 := (hb9.cell (p := ⟨w.heap.size, 0, none⟩) hbl).trans e0; replace e1 := (hb9.cell (p := ⟨w.heap.size, 1, none⟩) hbl).trans e1; replace e2 := (hb9.cell (p := ⟨w.heap.size, 2, none⟩) hbl).trans e2; replace e3 := (hb9.cell (p := ⟨w.heap.size, 3, none⟩) hbl).trans e3; replace e4 := (hb9.cell (p := ⟨w.heap.size, 4, none⟩) hbl).trans e4; replace e5 := (hb9.cell (p := ⟨w.heap.size, 5, none⟩) hbl).trans e5; replace e6 := (hb9.cell (p := ⟨w.heap.size, 6, none⟩) hbl).trans e6; replace e7 := (hb9.cell (p := ⟨w.heap.size, 7, none⟩) hbl).trans e7; replace e8 := (hb9.cell (p := ⟨w.heap.size, 8, none⟩) hbl).trans e8; replace e9 := (hb9.cell (p := ⟨w.heap.size, 9, none⟩) hbl).trans e9; replace e10 := (hb9.cell (p := ⟨w.heap.size, 10, none⟩) hbl).trans e10; replace e11 := (hb9.cell (p := ⟨w.heap.size, 11, none⟩) hbl).trans e11; replace e12 := (hb9.cell (p := ⟨w.heap.size, 12, none⟩) hbl).trans e12; replace e13 := (hb9.cell (p := ⟨w.heap.size, 13, none⟩) hbl).trans e13; replace e14 := (hb9.cell (p := ⟨w.heap.size, 14, none⟩) hbl).trans e14; replace e15 := (hb9.cell (p := ⟨w.heap.size, 15, none⟩) hbl).trans e15; replace e16 := (hb9.cell (p := ⟨w.heap.size, 16, none⟩) hbl).trans e16; replace e17 := (hb9.cell (p := ⟨w.heap.size, 17, none⟩) hbl).trans e17; replace e18 := (hb9.cell (p := ⟨w.heap.size, 18, none⟩) hbl).trans e18; replace hbl := Nat.lt_of_lt_of_le hbl hb9.size; clear hb9))
   go_ret
   exact ⟨by rw [HR.out] <;> rfl, by (first | exact HB.out | (exact (Below.refl _ _).alloc (Nat.le_refl _) _) | (simpa using HB.out))⟩
 by_cases c2 : termB a.value = false
 · have t0 : isWord a.id = true := by simpa using c0
   have t1 : atomB a.attr = true := by simpa using c1
   have t2 := c2
   have HR := Lib.hid (show actB a = false by simp [actB, *])
   clear c0 c1 c2
   go_enter Tryz.func96, Tryz.ntmps96
   go_upto_region 1 with fail
   obtain ⟨W1, hW1⟩ : ∃ W1, W1 = w.alloc (.cells #[.string a.id, .string a.attr.var, .int .i64 a.attr.sym.kind, .string a.attr.sym.text, .int .i64 a.attr.sym.n, .int .i64 a.value.op, .string a.value.a.var, .int .i64 a.value.a.sym.kind, .string a.value.a.sym.text, .int .i64 a.value.a.sym.n, .string a.value.b.var, .int .i64 a.value.b.sym.kind, .string a.value.b.sym.text, .int .i64 a.value.b.sym.n, .int .i64 a.pref, .string a.other.var, .int .i64 a.other.sym.kind, .string a.other.sym.text, .int .i64 a.other.sym.n] 65) := ⟨_, rfl⟩
   rw [← hW1]
   have hBk : Blk W1 w.heap.size 65 #[.string a.id, .string a.attr.var, .int .i64 a.attr.sym.kind, .string a.attr.sym.text, .int .i64 a.attr.sym.n, .int .i64 a.value.op, .string a.value.a.var, .int .i64 a.value.a.sym.kind, .string a.value.a.sym.text, .int .i64 a.value.a.sym.n, .string a.value.b.var, .int .i64 a.value.b.sym.kind, .string a.value.b.sym.text, .int .i64 a.value.b.sym.n, .int .i64 a.pref, .string a.other.var, .int .i64 a.other.sym.kind, .string a.other.sym.text, .int .i64 a.other.sym.n] := by rw [hW1]; exact Blk.new _ _ _
   have HB := Lib.hid (show Below w.heap.size w W1 by rw [hW1]; exact (Below.refl _ _).alloc (Nat.le_refl _) _)
   have e0 : W1.cell? ⟨w.heap.size, 0, none⟩ = some (.string a.id) := (hBk.cell 0).trans rfl
   have e1 : W1.cell? ⟨w.heap.size, 1, none⟩ = some (.string a.attr.var) := (hBk.cell 1).trans rfl
   have e2 : W1.cell? ⟨w.heap.size, 2, none⟩ = some (.int .i64 a.attr.sym.kind) := (hBk.cell 2).trans rfl
   have e3 : W1.cell? ⟨w.heap.size, 3, none⟩ = some (.string a.attr.sym.text) := (hBk.cell 3).trans rfl
   have e4 : W1.cell? ⟨w.heap.size, 4, none⟩ = some (.int .i64 a.attr.sym.n) := (hBk.cell 4).trans rfl
   have e5 : W1.cell? ⟨w.heap.size, 5, none⟩ = some (.int .i64 a.value.op) := (hBk.cell 5).trans rfl
   have e6 : W1.cell? ⟨w.heap.size, 6, none⟩ = some (.string a.value.a.var) := (hBk.cell 6).trans rfl
   have e7 : W1.cell? ⟨w.heap.size, 7, none⟩ = some (.int .i64 a.value.a.sym.kind) := (hBk.cell 7).trans rfl
   have e8 : W1.cell? ⟨w.heap.size, 8, none⟩ = some (.string a.value.a.sym.text) := (hBk.cell 8).trans rfl
   have e9 : W1.cell? ⟨w.heap.size, 9, none⟩ = some (.int .i64 a.value.a.sym.n) := (hBk.cell 9).trans rfl
   have e10 : W1.cell? ⟨w.heap.size, 10, none⟩ = some (.string a.value.b.var) := (hBk.cell 10).trans rfl
   have e11 : W1.cell? ⟨w.heap.size, 11, none⟩ = some (.int .i64 a.value.b.sym.kind) := (hBk.cell 11).trans rfl
   have e12 : W1.cell? ⟨w.heap.size, 12, none⟩ = some (.string a.value.b.sym.text) := (hBk.cell 12).trans rfl
   have e13 : W1.cell? ⟨w.heap.size, 13, none⟩ = some (.int .i64 a.value.b.sym.n) := (hBk.cell 13).trans rfl
   have e14 : W1.cell? ⟨w.heap.size, 14, none⟩ = some (.int .i64 a.pref) := (hBk.cell 14).trans rfl
   have e15 : W1.cell? ⟨w.heap.size, 15, none⟩ = some (.string a.other.var) := (hBk.cell 15).trans rfl
   have e16 : W1.cell? ⟨w.heap.size, 16, none⟩ = some (.int .i64 a.other.sym.kind) := (hBk.cell 16).trans rfl
   have e17 : W1.cell? ⟨w.heap.size, 17, none⟩ = some (.string a.other.sym.text) := (hBk.cell 17).trans rfl
   have e18 : W1.cell? ⟨w.heap.size, 18, none⟩ = some (.int .i64 a.other.sym.n) := (hBk.cell 18).trans rfl
   have hbl := hBk.lt
   clear hW1 hBk
   go_wp2_with (first
    | (go_at_call 81; refine (word_is a.id _).mono ?_; rintro e w9 ⟨rfl, rfl⟩)
    | (go_at_call 114; (first | (with_reducible refine (atomS_is a.attr _).mono ?_) | (with_reducible refine (atomS_is a.other _).mono ?_)); rintro e w9 ⟨rfl, hb9⟩; have HB := Lib.hid (HB.out.trans (hb9.mono HB.out.size)); replace e0 := (hb9.cell (p := ⟨w.heap.size, 0, none⟩) hbl).trans e0; replace e1 := (hb9.cell (p := ⟨w.heap.size, 1, none⟩) hbl).trans e1; replace e2 := (hb9.cell (p := ⟨w.heap.size, 2, none⟩) hbl).trans e2; replace e3 := (hb9.cell (p := ⟨w.heap.size, 3, none⟩) hbl).trans e3; replace e4 := (hb9.cell (p := ⟨w.heap.size, 4, none⟩) hbl).trans e4; replace e5 := (hb9.cell (p := ⟨w.heap.size, 5, none⟩) hbl).trans e5; replace e6 := (hb9.cell (p := ⟨w.heap.size, 6, none⟩) hbl).trans e6; replace e7 := (hb9.cell (p := ⟨w.heap.size, 7, none⟩) hbl).trans e7; replace e8 := (hb9.cell (p := ⟨w.heap.size, 8, none⟩) hbl).trans e8; replace e9 := (hb9.cell (p := ⟨w.heap.size, 9, none⟩) hbl).trans e9; replace e10 := (hb9.cell (p := ⟨w.heap.size, 10, none⟩) hbl).trans e10; replace e11 := (hb9.cell (p := ⟨w.heap.size, 11, none⟩) hbl).trans e11; replace e12 := (hb9.cell (p := ⟨w.heap.size, 12, none⟩) hbl).trans e12; replace e13 := (hb9.cell (p := ⟨w.heap.size, 13, none⟩) hbl).trans e13; replace e14 := (hb9.cell (p := ⟨w.heap.size, 14, none⟩) hbl).trans e14; replace e15 := (hb9.cell (p := ⟨w.heap.size, 15, none⟩) hbl).trans e15; replace e16 := (hb9.cell (p := ⟨w.heap.size, 16, none⟩) hbl).trans e16; replace e17 := (hb9.cell (p := ⟨w.heap.size, 17, none⟩) hbl).trans e17; replace e18 := (hb9.cell (p := ⟨w.heap.size, 18, none⟩) hbl).trans e18; replace hbl := Nat.lt_of_lt_of_le hbl hb9.size; clear hb9)
    | (go_at_call 115; refine (term_is a.value _).mono ?_; rintro e w9 ⟨rfl, hb9⟩; have HB := Lib.hid (HB.out.trans (hb9.mono HB.out.size)); replace e0 := (hb9.cell (p := ⟨w.heap.size, 0, none⟩) hbl).trans e0; replace e1 := (hb9.cell (p := ⟨w.heap.size, 1, none⟩) hbl).trans e1; replace e2 := (hb9.cell (p := ⟨w.heap.size, 2, none⟩) hbl).trans e2; replace e3 := (hb9.cell (p := ⟨w.heap.size, 3, none⟩) hbl).trans e3; replace e4 := (hb9.cell (p := ⟨w.heap.size, 4, none⟩) hbl).trans e4; replace e5 := (hb9.cell (p := ⟨w.heap.size, 5, none⟩) hbl).trans e5; replace e6 := (hb9.cell (p := ⟨w.heap.size, 6, none⟩) hbl).trans e6; replace e7 := (hb9.cell (p := ⟨w.heap.size, 7, none⟩) hbl).trans e7; replace e8 := (hb9.cell (p := ⟨w.heap.size, 8, none⟩) hbl).trans e8; replace e9 := (hb9.cell (p := ⟨w.heap.size, 9, none⟩) hbl).trans e9; replace e10 := (hb9.cell (p := ⟨w.heap.size, 10, none⟩) hbl).trans e10; replace e11 := (hb9.cell (p := ⟨w.heap.size, 11, none⟩) hbl).trans e11; replace e12 := (hb9.cell (p := ⟨w.heap.size, 12, none⟩) hbl).trans e12; replace e13 := (hb9.cell (p := ⟨w.heap.size, 13, none⟩) hbl).trans e13; replace e14 := (hb9.cell (p := ⟨w.heap.size, 14, none⟩) hbl).trans e14; replace e15 := (hb9.cell (p := ⟨w.heap.size, 15, none⟩) hbl).trans e15; replace e16 := (hb9.cell (p := ⟨w.heap.size, 16, none⟩) hbl).trans e16; replace e17 := (hb9.cell (p := ⟨w.heap.size, 17, none⟩) hbl).trans e17; replace e18 := (hb9.cell (p := ⟨w.heap.size, 18, none⟩) hbl).trans e18; replace hbl := Nat.lt_of_lt_of_le hbl hb9.size; clear hb9)
    | (go_at_call 116; refine (other_is a.pref _).mono ?_; rintro e w9 ⟨rfl, rfl⟩)
    | (go_at_call 117; refine (empty_is a.other _).mono ?_; rintro e w9 ⟨rfl, hb9⟩; have HB := Lib.hid (HB.out.trans (hb9.mono HB.out.size)); replace e0 := (hb9.cell (p := ⟨w.heap.size, 0, none⟩) hbl).trans e0; replace e1 := (hb9.cell (p := ⟨w.heap.size, 1, none⟩) hbl).trans e1; replace e2 := (hb9.cell (p := ⟨w.heap.size, 2, none⟩) hbl).trans e2; replace e3 := (hb9.cell (p := ⟨w.heap.size, 3, none⟩) hbl).trans e3; replace e4 := (hb9.cell (p := ⟨w.heap.size, 4, none⟩) hbl).trans e4; replace e5 := (hb9.cell (p := ⟨w.heap.size, 5, none⟩) hbl).trans e5; replace e6 := (hb9.cell (p := ⟨w.heap.size, 6, none⟩) hbl).trans e6; replace e7 := (hb9.cell (p := ⟨w.heap.size, 7, none⟩) hbl).trans e7; replace e8 := (hb9.cell (p := ⟨w.heap.size, 8, none⟩) hbl).trans e8; replace e9 := (hb9.cell (p := ⟨w.heap.size, 9, none⟩) hbl).trans e9; replace e10 := (hb9.cell (p := ⟨w.heap.size, 10, none⟩) hbl).trans e10; replace e11 := (hb9.cell (p := ⟨w.heap.size, 11, none⟩) hbl).trans e11; replace e12 := (hb9.cell (p := ⟨w.heap.size, 12, none⟩) hbl).trans e12; replace e13 := (hb9.cell (p := ⟨w.heap.size, 13, none⟩) hbl).trans e13; replace e14 := (hb9.cell (p := ⟨w.heap.size, 14, none⟩) hbl).trans e14; replace e15 := (hb9.cell (p := ⟨w.heap.size, 15, none⟩) hbl).trans e15; replace e16 := (hb9.cell (p := ⟨w.heap.size, 16, none⟩) hbl).trans e16; replace e17 := (hb9.cell (p := ⟨w.heap.size, 17, none⟩) hbl).trans e17; replace e18 := (hb9.cell (p := ⟨w.heap.size, 18, none⟩) hbl).trans e18; replace hbl := Nat.lt_of_lt_of_le hbl hb9.size; clear hb9))
   go_ret
   exact ⟨by rw [HR.out] <;> rfl, by (first | exact HB.out | (exact (Below.refl _ _).alloc (Nat.le_refl _) _) | (simpa using HB.out))⟩
 by_cases c3 : a.pref < 1
 · have t0 : isWord a.id = true := by simpa using c0
   have t1 : atomB a.attr = true := by simpa using c1
   have t2 : termB a.value = true := by simpa using c2
   have t3 : decide (a.pref < 1) = true := by simp [*]
   have HR := Lib.hid (show actB a = false by simp [actB, *])
   clear c0 c1 c2 c3
   go_enter Tryz.func96, Tryz.ntmps96
   go_upto_region 1 with fail
   obtain ⟨W1, hW1⟩ : ∃ W1, W1 = w.alloc (.cells #[.string a.id, .string a.attr.var, .int .i64 a.attr.sym.kind, .string a.attr.sym.text, .int .i64 a.attr.sym.n, .int .i64 a.value.op, .string a.value.a.var, .int .i64 a.value.a.sym.kind, .string a.value.a.sym.text, .int .i64 a.value.a.sym.n, .string a.value.b.var, .int .i64 a.value.b.sym.kind, .string a.value.b.sym.text, .int .i64 a.value.b.sym.n, .int .i64 a.pref, .string a.other.var, .int .i64 a.other.sym.kind, .string a.other.sym.text, .int .i64 a.other.sym.n] 65) := ⟨_, rfl⟩
   rw [← hW1]
   have hBk : Blk W1 w.heap.size 65 #[.string a.id, .string a.attr.var, .int .i64 a.attr.sym.kind, .string a.attr.sym.text, .int .i64 a.attr.sym.n, .int .i64 a.value.op, .string a.value.a.var, .int .i64 a.value.a.sym.kind, .string a.value.a.sym.text, .int .i64 a.value.a.sym.n, .string a.value.b.var, .int .i64 a.value.b.sym.kind, .string a.value.b.sym.text, .int .i64 a.value.b.sym.n, .int .i64 a.pref, .string a.other.var, .int .i64 a.other.sym.kind, .string a.other.sym.text, .int .i64 a.other.sym.n] := by rw [hW1]; exact Blk.new _ _ _
   have HB := Lib.hid (show Below w.heap.size w W1 by rw [hW1]; exact (Below.refl _ _).alloc (Nat.le_refl _) _)
   have e0 : W1.cell? ⟨w.heap.size, 0, none⟩ = some (.string a.id) := (hBk.cell 0).trans rfl
   have e1 : W1.cell? ⟨w.heap.size, 1, none⟩ = some (.string a.attr.var) := (hBk.cell 1).trans rfl
   have e2 : W1.cell? ⟨w.heap.size, 2, none⟩ = some (.int .i64 a.attr.sym.kind) := (hBk.cell 2).trans rfl
   have e3 : W1.cell? ⟨w.heap.size, 3, none⟩ = some (.string a.attr.sym.text) := (hBk.cell 3).trans rfl
   have e4 : W1.cell? ⟨w.heap.size, 4, none⟩ = some (.int .i64 a.attr.sym.n) := (hBk.cell 4).trans rfl
   have e5 : W1.cell? ⟨w.heap.size, 5, none⟩ = some (.int .i64 a.value.op) := (hBk.cell 5).trans rfl
   have e6 : W1.cell? ⟨w.heap.size, 6, none⟩ = some (.string a.value.a.var) := (hBk.cell 6).trans rfl
   have e7 : W1.cell? ⟨w.heap.size, 7, none⟩ = some (.int .i64 a.value.a.sym.kind) := (hBk.cell 7).trans rfl
   have e8 : W1.cell? ⟨w.heap.size, 8, none⟩ = some (.string a.value.a.sym.text) := (hBk.cell 8).trans rfl
   have e9 : W1.cell? ⟨w.heap.size, 9, none⟩ = some (.int .i64 a.value.a.sym.n) := (hBk.cell 9).trans rfl
   have e10 : W1.cell? ⟨w.heap.size, 10, none⟩ = some (.string a.value.b.var) := (hBk.cell 10).trans rfl
   have e11 : W1.cell? ⟨w.heap.size, 11, none⟩ = some (.int .i64 a.value.b.sym.kind) := (hBk.cell 11).trans rfl
   have e12 : W1.cell? ⟨w.heap.size, 12, none⟩ = some (.string a.value.b.sym.text) := (hBk.cell 12).trans rfl
   have e13 : W1.cell? ⟨w.heap.size, 13, none⟩ = some (.int .i64 a.value.b.sym.n) := (hBk.cell 13).trans rfl
   have e14 : W1.cell? ⟨w.heap.size, 14, none⟩ = some (.int .i64 a.pref) := (hBk.cell 14).trans rfl
   have e15 : W1.cell? ⟨w.heap.size, 15, none⟩ = some (.string a.other.var) := (hBk.cell 15).trans rfl
   have e16 : W1.cell? ⟨w.heap.size, 16, none⟩ = some (.int .i64 a.other.sym.kind) := (hBk.cell 16).trans rfl
   have e17 : W1.cell? ⟨w.heap.size, 17, none⟩ = some (.string a.other.sym.text) := (hBk.cell 17).trans rfl
   have e18 : W1.cell? ⟨w.heap.size, 18, none⟩ = some (.int .i64 a.other.sym.n) := (hBk.cell 18).trans rfl
   have hbl := hBk.lt
   clear hW1 hBk
   go_wp2_with (first
    | (go_at_call 81; refine (word_is a.id _).mono ?_; rintro e w9 ⟨rfl, rfl⟩)
    | (go_at_call 114; (first | (with_reducible refine (atomS_is a.attr _).mono ?_) | (with_reducible refine (atomS_is a.other _).mono ?_)); rintro e w9 ⟨rfl, hb9⟩; have HB := Lib.hid (HB.out.trans (hb9.mono HB.out.size)); replace e0 := (hb9.cell (p := ⟨w.heap.size, 0, none⟩) hbl).trans e0; replace e1 := (hb9.cell (p := ⟨w.heap.size, 1, none⟩) hbl).trans e1; replace e2 := (hb9.cell (p := ⟨w.heap.size, 2, none⟩) hbl).trans e2; replace e3 := (hb9.cell (p := ⟨w.heap.size, 3, none⟩) hbl).trans e3; replace e4 := (hb9.cell (p := ⟨w.heap.size, 4, none⟩) hbl).trans e4; replace e5 := (hb9.cell (p := ⟨w.heap.size, 5, none⟩) hbl).trans e5; replace e6 := (hb9.cell (p := ⟨w.heap.size, 6, none⟩) hbl).trans e6; replace e7 := (hb9.cell (p := ⟨w.heap.size, 7, none⟩) hbl).trans e7; replace e8 := (hb9.cell (p := ⟨w.heap.size, 8, none⟩) hbl).trans e8; replace e9 := (hb9.cell (p := ⟨w.heap.size, 9, none⟩) hbl).trans e9; replace e10 := (hb9.cell (p := ⟨w.heap.size, 10, none⟩) hbl).trans e10; replace e11 := (hb9.cell (p := ⟨w.heap.size, 11, none⟩) hbl).trans e11; replace e12 := (hb9.cell (p := ⟨w.heap.size, 12, none⟩) hbl).trans e12; replace e13 := (hb9.cell (p := ⟨w.heap.size, 13, none⟩) hbl).trans e13; replace e14 := (hb9.cell (p := ⟨w.heap.size, 14, none⟩) hbl).trans e14; replace e15 := (hb9.cell (p := ⟨w.heap.size, 15, none⟩) hbl).trans e15; replace e16 := (hb9.cell (p := ⟨w.heap.size, 16, none⟩) hbl).trans e16; replace e17 := (hb9.cell (p := ⟨w.heap.size, 17, none⟩) hbl).trans e17; replace e18 := (hb9.cell (p := ⟨w.heap.size, 18, none⟩) hbl).trans e18; replace hbl := Nat.lt_of_lt_of_le hbl hb9.size; clear hb9)
    | (go_at_call 115; refine (term_is a.value _).mono ?_; rintro e w9 ⟨rfl, hb9⟩; have HB := Lib.hid (HB.out.trans (hb9.mono HB.out.size)); replace e0 := (hb9.cell (p := ⟨w.heap.size, 0, none⟩) hbl).trans e0; replace e1 := (hb9.cell (p := ⟨w.heap.size, 1, none⟩) hbl).trans e1; replace e2 := (hb9.cell (p := ⟨w.heap.size, 2, none⟩) hbl).trans e2; replace e3 := (hb9.cell (p := ⟨w.heap.size, 3, none⟩) hbl).trans e3; replace e4 := (hb9.cell (p := ⟨w.heap.size, 4, none⟩) hbl).trans e4; replace e5 := (hb9.cell (p := ⟨w.heap.size, 5, none⟩) hbl).trans e5; replace e6 := (hb9.cell (p := ⟨w.heap.size, 6, none⟩) hbl).trans e6; replace e7 := (hb9.cell (p := ⟨w.heap.size, 7, none⟩) hbl).trans e7; replace e8 := (hb9.cell (p := ⟨w.heap.size, 8, none⟩) hbl).trans e8; replace e9 := (hb9.cell (p := ⟨w.heap.size, 9, none⟩) hbl).trans e9; replace e10 := (hb9.cell (p := ⟨w.heap.size, 10, none⟩) hbl).trans e10; replace e11 := (hb9.cell (p := ⟨w.heap.size, 11, none⟩) hbl).trans e11; replace e12 := (hb9.cell (p := ⟨w.heap.size, 12, none⟩) hbl).trans e12; replace e13 := (hb9.cell (p := ⟨w.heap.size, 13, none⟩) hbl).trans e13; replace e14 := (hb9.cell (p := ⟨w.heap.size, 14, none⟩) hbl).trans e14; replace e15 := (hb9.cell (p := ⟨w.heap.size, 15, none⟩) hbl).trans e15; replace e16 := (hb9.cell (p := ⟨w.heap.size, 16, none⟩) hbl).trans e16; replace e17 := (hb9.cell (p := ⟨w.heap.size, 17, none⟩) hbl).trans e17; replace e18 := (hb9.cell (p := ⟨w.heap.size, 18, none⟩) hbl).trans e18; replace hbl := Nat.lt_of_lt_of_le hbl hb9.size; clear hb9)
    | (go_at_call 116; refine (other_is a.pref _).mono ?_; rintro e w9 ⟨rfl, rfl⟩)
    | (go_at_call 117; refine (empty_is a.other _).mono ?_; rintro e w9 ⟨rfl, hb9⟩; have HB := Lib.hid (HB.out.trans (hb9.mono HB.out.size)); replace e0 := (hb9.cell (p := ⟨w.heap.size, 0, none⟩) hbl).trans e0; replace e1 := (hb9.cell (p := ⟨w.heap.size, 1, none⟩) hbl).trans e1; replace e2 := (hb9.cell (p := ⟨w.heap.size, 2, none⟩) hbl).trans e2; replace e3 := (hb9.cell (p := ⟨w.heap.size, 3, none⟩) hbl).trans e3; replace e4 := (hb9.cell (p := ⟨w.heap.size, 4, none⟩) hbl).trans e4; replace e5 := (hb9.cell (p := ⟨w.heap.size, 5, none⟩) hbl).trans e5; replace e6 := (hb9.cell (p := ⟨w.heap.size, 6, none⟩) hbl).trans e6; replace e7 := (hb9.cell (p := ⟨w.heap.size, 7, none⟩) hbl).trans e7; replace e8 := (hb9.cell (p := ⟨w.heap.size, 8, none⟩) hbl).trans e8; replace e9 := (hb9.cell (p := ⟨w.heap.size, 9, none⟩) hbl).trans e9; replace e10 := (hb9.cell (p := ⟨w.heap.size, 10, none⟩) hbl).trans e10; replace e11 := (hb9.cell (p := ⟨w.heap.size, 11, none⟩) hbl).trans e11; replace e12 := (hb9.cell (p := ⟨w.heap.size, 12, none⟩) hbl).trans e12; replace e13 := (hb9.cell (p := ⟨w.heap.size, 13, none⟩) hbl).trans e13; replace e14 := (hb9.cell (p := ⟨w.heap.size, 14, none⟩) hbl).trans e14; replace e15 := (hb9.cell (p := ⟨w.heap.size, 15, none⟩) hbl).trans e15; replace e16 := (hb9.cell (p := ⟨w.heap.size, 16, none⟩) hbl).trans e16; replace e17 := (hb9.cell (p := ⟨w.heap.size, 17, none⟩) hbl).trans e17; replace e18 := (hb9.cell (p := ⟨w.heap.size, 18, none⟩) hbl).trans e18; replace hbl := Nat.lt_of_lt_of_le hbl hb9.size; clear hb9))
   go_ret
   exact ⟨by rw [HR.out] <;> rfl, by (first | exact HB.out | (exact (Below.refl _ _).alloc (Nat.le_refl _) _) | (simpa using HB.out))⟩
 by_cases c4 : 10 < a.pref
 · have t0 : isWord a.id = true := by simpa using c0
   have t1 : atomB a.attr = true := by simpa using c1
   have t2 : termB a.value = true := by simpa using c2
   have t3 : decide (a.pref < 1) = false := by simp; omega
   have t4 : decide (10 < a.pref) = true := by simp [*]
   have HR := Lib.hid (show actB a = false by simp [actB, *])
   clear c0 c1 c2 c3 c4
   go_enter Tryz.func96, Tryz.ntmps96
   go_upto_region 1 with fail
   obtain ⟨W1, hW1⟩ : ∃ W1, W1 = w.alloc (.cells #[.string a.id, .string a.attr.var, .int .i64 a.attr.sym.kind, .string a.attr.sym.text, .int .i64 a.attr.sym.n, .int .i64 a.value.op, .string a.value.a.var, .int .i64 a.value.a.sym.kind, .string a.value.a.sym.text, .int .i64 a.value.a.sym.n, .string a.value.b.var, .int .i64 a.value.b.sym.kind, .string a.value.b.sym.text, .int .i64 a.value.b.sym.n, .int .i64 a.pref, .string a.other.var, .int .i64 a.other.sym.kind, .string a.other.sym.text, .int .i64 a.other.sym.n] 65) := ⟨_, rfl⟩
   rw [← hW1]
   have hBk : Blk W1 w.heap.size 65 #[.string a.id, .string a.attr.var, .int .i64 a.attr.sym.kind, .string a.attr.sym.text, .int .i64 a.attr.sym.n, .int .i64 a.value.op, .string a.value.a.var, .int .i64 a.value.a.sym.kind, .string a.value.a.sym.text, .int .i64 a.value.a.sym.n, .string a.value.b.var, .int .i64 a.value.b.sym.kind, .string a.value.b.sym.text, .int .i64 a.value.b.sym.n, .int .i64 a.pref, .string a.other.var, .int .i64 a.other.sym.kind, .string a.other.sym.text, .int .i64 a.other.sym.n] := by rw [hW1]; exact Blk.new _ _ _
   have HB := Lib.hid (show Below w.heap.size w W1 by rw [hW1]; exact (Below.refl _ _).alloc (Nat.le_refl _) _)
   have e0 : W1.cell? ⟨w.heap.size, 0, none⟩ = some (.string a.id) := (hBk.cell 0).trans rfl
   have e1 : W1.cell? ⟨w.heap.size, 1, none⟩ = some (.string a.attr.var) := (hBk.cell 1).trans rfl
   have e2 : W1.cell? ⟨w.heap.size, 2, none⟩ = some (.int .i64 a.attr.sym.kind) := (hBk.cell 2).trans rfl
   have e3 : W1.cell? ⟨w.heap.size, 3, none⟩ = some (.string a.attr.sym.text) := (hBk.cell 3).trans rfl
   have e4 : W1.cell? ⟨w.heap.size, 4, none⟩ = some (.int .i64 a.attr.sym.n) := (hBk.cell 4).trans rfl
   have e5 : W1.cell? ⟨w.heap.size, 5, none⟩ = some (.int .i64 a.value.op) := (hBk.cell 5).trans rfl
   have e6 : W1.cell? ⟨w.heap.size, 6, none⟩ = some (.string a.value.a.var) := (hBk.cell 6).trans rfl
   have e7 : W1.cell? ⟨w.heap.size, 7, none⟩ = some (.int .i64 a.value.a.sym.kind) := (hBk.cell 7).trans rfl
   have e8 : W1.cell? ⟨w.heap.size, 8, none⟩ = some (.string a.value.a.sym.text) := (hBk.cell 8).trans rfl
   have e9 : W1.cell? ⟨w.heap.size, 9, none⟩ = some (.int .i64 a.value.a.sym.n) := (hBk.cell 9).trans rfl
   have e10 : W1.cell? ⟨w.heap.size, 10, none⟩ = some (.string a.value.b.var) := (hBk.cell 10).trans rfl
   have e11 : W1.cell? ⟨w.heap.size, 11, none⟩ = some (.int .i64 a.value.b.sym.kind) := (hBk.cell 11).trans rfl
   have e12 : W1.cell? ⟨w.heap.size, 12, none⟩ = some (.string a.value.b.sym.text) := (hBk.cell 12).trans rfl
   have e13 : W1.cell? ⟨w.heap.size, 13, none⟩ = some (.int .i64 a.value.b.sym.n) := (hBk.cell 13).trans rfl
   have e14 : W1.cell? ⟨w.heap.size, 14, none⟩ = some (.int .i64 a.pref) := (hBk.cell 14).trans rfl
   have e15 : W1.cell? ⟨w.heap.size, 15, none⟩ = some (.string a.other.var) := (hBk.cell 15).trans rfl
   have e16 : W1.cell? ⟨w.heap.size, 16, none⟩ = some (.int .i64 a.other.sym.kind) := (hBk.cell 16).trans rfl
   have e17 : W1.cell? ⟨w.heap.size, 17, none⟩ = some (.string a.other.sym.text) := (hBk.cell 17).trans rfl
   have e18 : W1.cell? ⟨w.heap.size, 18, none⟩ = some (.int .i64 a.other.sym.n) := (hBk.cell 18).trans rfl
   have hbl := hBk.lt
   clear hW1 hBk
   go_wp2_with (first
    | (go_at_call 81; refine (word_is a.id _).mono ?_; rintro e w9 ⟨rfl, rfl⟩)
    | (go_at_call 114; (first | (with_reducible refine (atomS_is a.attr _).mono ?_) | (with_reducible refine (atomS_is a.other _).mono ?_)); rintro e w9 ⟨rfl, hb9⟩; have HB := Lib.hid (HB.out.trans (hb9.mono HB.out.size)); replace e0 := (hb9.cell (p := ⟨w.heap.size, 0, none⟩) hbl).trans e0; replace e1 := (hb9.cell (p := ⟨w.heap.size, 1, none⟩) hbl).trans e1; replace e2 := (hb9.cell (p := ⟨w.heap.size, 2, none⟩) hbl).trans e2; replace e3 := (hb9.cell (p := ⟨w.heap.size, 3, none⟩) hbl).trans e3; replace e4 := (hb9.cell (p := ⟨w.heap.size, 4, none⟩) hbl).trans e4; replace e5 := (hb9.cell (p := ⟨w.heap.size, 5, none⟩) hbl).trans e5; replace e6 := (hb9.cell (p := ⟨w.heap.size, 6, none⟩) hbl).trans e6; replace e7 := (hb9.cell (p := ⟨w.heap.size, 7, none⟩) hbl).trans e7; replace e8 := (hb9.cell (p := ⟨w.heap.size, 8, none⟩) hbl).trans e8; replace e9 := (hb9.cell (p := ⟨w.heap.size, 9, none⟩) hbl).trans e9; replace e10 := (hb9.cell (p := ⟨w.heap.size, 10, none⟩) hbl).trans e10; replace e11 := (hb9.cell (p := ⟨w.heap.size, 11, none⟩) hbl).trans e11; replace e12 := (hb9.cell (p := ⟨w.heap.size, 12, none⟩) hbl).trans e12; replace e13 := (hb9.cell (p := ⟨w.heap.size, 13, none⟩) hbl).trans e13; replace e14 := (hb9.cell (p := ⟨w.heap.size, 14, none⟩) hbl).trans e14; replace e15 := (hb9.cell (p := ⟨w.heap.size, 15, none⟩) hbl).trans e15; replace e16 := (hb9.cell (p := ⟨w.heap.size, 16, none⟩) hbl).trans e16; replace e17 := (hb9.cell (p := ⟨w.heap.size, 17, none⟩) hbl).trans e17; replace e18 := (hb9.cell (p := ⟨w.heap.size, 18, none⟩) hbl).trans e18; replace hbl := Nat.lt_of_lt_of_le hbl hb9.size; clear hb9)
    | (go_at_call 115; refine (term_is a.value _).mono ?_; rintro e w9 ⟨rfl, hb9⟩; have HB := Lib.hid (HB.out.trans (hb9.mono HB.out.size)); replace e0 := (hb9.cell (p := ⟨w.heap.size, 0, none⟩) hbl).trans e0; replace e1 := (hb9.cell (p := ⟨w.heap.size, 1, none⟩) hbl).trans e1; replace e2 := (hb9.cell (p := ⟨w.heap.size, 2, none⟩) hbl).trans e2; replace e3 := (hb9.cell (p := ⟨w.heap.size, 3, none⟩) hbl).trans e3; replace e4 := (hb9.cell (p := ⟨w.heap.size, 4, none⟩) hbl).trans e4; replace e5 := (hb9.cell (p := ⟨w.heap.size, 5, none⟩) hbl).trans e5; replace e6 := (hb9.cell (p := ⟨w.heap.size, 6, none⟩) hbl).trans e6; replace e7 := (hb9.cell (p := ⟨w.heap.size, 7, none⟩) hbl).trans e7; replace e8 := (hb9.cell (p := ⟨w.heap.size, 8, none⟩) hbl).trans e8; replace e9 := (hb9.cell (p := ⟨w.heap.size, 9, none⟩) hbl).trans e9; replace e10 := (hb9.cell (p := ⟨w.heap.size, 10, none⟩) hbl).trans e10; replace e11 := (hb9.cell (p := ⟨w.heap.size, 11, none⟩) hbl).trans e11; replace e12 := (hb9.cell (p := ⟨w.heap.size, 12, none⟩) hbl).trans e12; replace e13 := (hb9.cell (p := ⟨w.heap.size, 13, none⟩) hbl).trans e13; replace e14 := (hb9.cell (p := ⟨w.heap.size, 14, none⟩) hbl).trans e14; replace e15 := (hb9.cell (p := ⟨w.heap.size, 15, none⟩) hbl).trans e15; replace e16 := (hb9.cell (p := ⟨w.heap.size, 16, none⟩) hbl).trans e16; replace e17 := (hb9.cell (p := ⟨w.heap.size, 17, none⟩) hbl).trans e17; replace e18 := (hb9.cell (p := ⟨w.heap.size, 18, none⟩) hbl).trans e18; replace hbl := Nat.lt_of_lt_of_le hbl hb9.size; clear hb9)
    | (go_at_call 116; refine (other_is a.pref _).mono ?_; rintro e w9 ⟨rfl, rfl⟩)
    | (go_at_call 117; refine (empty_is a.other _).mono ?_; rintro e w9 ⟨rfl, hb9⟩; have HB := Lib.hid (HB.out.trans (hb9.mono HB.out.size)); replace e0 := (hb9.cell (p := ⟨w.heap.size, 0, none⟩) hbl).trans e0; replace e1 := (hb9.cell (p := ⟨w.heap.size, 1, none⟩) hbl).trans e1; replace e2 := (hb9.cell (p := ⟨w.heap.size, 2, none⟩) hbl).trans e2; replace e3 := (hb9.cell (p := ⟨w.heap.size, 3, none⟩) hbl).trans e3; replace e4 := (hb9.cell (p := ⟨w.heap.size, 4, none⟩) hbl).trans e4; replace e5 := (hb9.cell (p := ⟨w.heap.size, 5, none⟩) hbl).trans e5; replace e6 := (hb9.cell (p := ⟨w.heap.size, 6, none⟩) hbl).trans e6; replace e7 := (hb9.cell (p := ⟨w.heap.size, 7, none⟩) hbl).trans e7; replace e8 := (hb9.cell (p := ⟨w.heap.size, 8, none⟩) hbl).trans e8; replace e9 := (hb9.cell (p := ⟨w.heap.size, 9, none⟩) hbl).trans e9; replace e10 := (hb9.cell (p := ⟨w.heap.size, 10, none⟩) hbl).trans e10; replace e11 := (hb9.cell (p := ⟨w.heap.size, 11, none⟩) hbl).trans e11; replace e12 := (hb9.cell (p := ⟨w.heap.size, 12, none⟩) hbl).trans e12; replace e13 := (hb9.cell (p := ⟨w.heap.size, 13, none⟩) hbl).trans e13; replace e14 := (hb9.cell (p := ⟨w.heap.size, 14, none⟩) hbl).trans e14; replace e15 := (hb9.cell (p := ⟨w.heap.size, 15, none⟩) hbl).trans e15; replace e16 := (hb9.cell (p := ⟨w.heap.size, 16, none⟩) hbl).trans e16; replace e17 := (hb9.cell (p := ⟨w.heap.size, 17, none⟩) hbl).trans e17; replace e18 := (hb9.cell (p := ⟨w.heap.size, 18, none⟩) hbl).trans e18; replace hbl := Nat.lt_of_lt_of_le hbl hb9.size; clear hb9))
   go_ret
   exact ⟨by rw [HR.out] <;> rfl, by (first | exact HB.out | (exact (Below.refl _ _).alloc (Nat.le_refl _) _) | (simpa using HB.out))⟩
 by_cases c5 : otherB a.pref = true
 · have t0 : isWord a.id = true := by simpa using c0
   have t1 : atomB a.attr = true := by simpa using c1
   have t2 : termB a.value = true := by simpa using c2
   have t3 : decide (a.pref < 1) = false := by simp; omega
   have t4 : decide (10 < a.pref) = false := by simp; omega
   have t5 := c5
   have HR := Lib.hid (show actB a = atomB a.other by simp [actB, *])
   clear c0 c1 c2 c3 c4 c5
   go_enter Tryz.func96, Tryz.ntmps96
   go_upto_region 1 with fail
   obtain ⟨W1, hW1⟩ : ∃ W1, W1 = w.alloc (.cells #[.string a.id, .string a.attr.var, .int .i64 a.attr.sym.kind, .string a.attr.sym.text, .int .i64 a.attr.sym.n, .int .i64 a.value.op, .string a.value.a.var, .int .i64 a.value.a.sym.kind, .string a.value.a.sym.text, .int .i64 a.value.a.sym.n, .string a.value.b.var, .int .i64 a.value.b.sym.kind, .string a.value.b.sym.text, .int .i64 a.value.b.sym.n, .int .i64 a.pref, .string a.other.var, .int .i64 a.other.sym.kind, .string a.other.sym.text, .int .i64 a.other.sym.n] 65) := ⟨_, rfl⟩
   rw [← hW1]
   have hBk : Blk W1 w.heap.size 65 #[.string a.id, .string a.attr.var, .int .i64 a.attr.sym.kind, .string a.attr.sym.text, .int .i64 a.attr.sym.n, .int .i64 a.value.op, .string a.value.a.var, .int .i64 a.value.a.sym.kind, .string a.value.a.sym.text, .int .i64 a.value.a.sym.n, .string a.value.b.var, .int .i64 a.value.b.sym.kind, .string a.value.b.sym.text, .int .i64 a.value.b.sym.n, .int .i64 a.pref, .string a.other.var, .int .i64 a.other.sym.kind, .string a.other.sym.text, .int .i64 a.other.sym.n] := by rw [hW1]; exact Blk.new _ _ _
   have HB := Lib.hid (show Below w.heap.size w W1 by rw [hW1]; exact (Below.refl _ _).alloc (Nat.le_refl _) _)
   have e0 : W1.cell? ⟨w.heap.size, 0, none⟩ = some (.string a.id) := (hBk.cell 0).trans rfl
   have e1 : W1.cell? ⟨w.heap.size, 1, none⟩ = some (.string a.attr.var) := (hBk.cell 1).trans rfl
   have e2 : W1.cell? ⟨w.heap.size, 2, none⟩ = some (.int .i64 a.attr.sym.kind) := (hBk.cell 2).trans rfl
   have e3 : W1.cell? ⟨w.heap.size, 3, none⟩ = some (.string a.attr.sym.text) := (hBk.cell 3).trans rfl
   have e4 : W1.cell? ⟨w.heap.size, 4, none⟩ = some (.int .i64 a.attr.sym.n) := (hBk.cell 4).trans rfl
   have e5 : W1.cell? ⟨w.heap.size, 5, none⟩ = some (.int .i64 a.value.op) := (hBk.cell 5).trans rfl
   have e6 : W1.cell? ⟨w.heap.size, 6, none⟩ = some (.string a.value.a.var) := (hBk.cell 6).trans rfl
   have e7 : W1.cell? ⟨w.heap.size, 7, none⟩ = some (.int .i64 a.value.a.sym.kind) := (hBk.cell 7).trans rfl
   have e8 : W1.cell? ⟨w.heap.size, 8, none⟩ = some (.string a.value.a.sym.text) := (hBk.cell 8).trans rfl
   have e9 : W1.cell? ⟨w.heap.size, 9, none⟩ = some (.int .i64 a.value.a.sym.n) := (hBk.cell 9).trans rfl
   have e10 : W1.cell? ⟨w.heap.size, 10, none⟩ = some (.string a.value.b.var) := (hBk.cell 10).trans rfl
   have e11 : W1.cell? ⟨w.heap.size, 11, none⟩ = some (.int .i64 a.value.b.sym.kind) := (hBk.cell 11).trans rfl
   have e12 : W1.cell? ⟨w.heap.size, 12, none⟩ = some (.string a.value.b.sym.text) := (hBk.cell 12).trans rfl
   have e13 : W1.cell? ⟨w.heap.size, 13, none⟩ = some (.int .i64 a.value.b.sym.n) := (hBk.cell 13).trans rfl
   have e14 : W1.cell? ⟨w.heap.size, 14, none⟩ = some (.int .i64 a.pref) := (hBk.cell 14).trans rfl
   have e15 : W1.cell? ⟨w.heap.size, 15, none⟩ = some (.string a.other.var) := (hBk.cell 15).trans rfl
   have e16 : W1.cell? ⟨w.heap.size, 16, none⟩ = some (.int .i64 a.other.sym.kind) := (hBk.cell 16).trans rfl
   have e17 : W1.cell? ⟨w.heap.size, 17, none⟩ = some (.string a.other.sym.text) := (hBk.cell 17).trans rfl
   have e18 : W1.cell? ⟨w.heap.size, 18, none⟩ = some (.int .i64 a.other.sym.n) := (hBk.cell 18).trans rfl
   have hbl := hBk.lt
   clear hW1 hBk
   go_wp2_with (first
    | (go_at_call 81; refine (word_is a.id _).mono ?_; rintro e w9 ⟨rfl, rfl⟩)
    | (go_at_call 114; (first | (with_reducible refine (atomS_is a.attr _).mono ?_) | (with_reducible refine (atomS_is a.other _).mono ?_)); rintro e w9 ⟨rfl, hb9⟩; have HB := Lib.hid (HB.out.trans (hb9.mono HB.out.size)); replace e0 := (hb9.cell (p := ⟨w.heap.size, 0, none⟩) hbl).trans e0; replace e1 := (hb9.cell (p := ⟨w.heap.size, 1, none⟩) hbl).trans e1; replace e2 := (hb9.cell (p := ⟨w.heap.size, 2, none⟩) hbl).trans e2; replace e3 := (hb9.cell (p := ⟨w.heap.size, 3, none⟩) hbl).trans e3; replace e4 := (hb9.cell (p := ⟨w.heap.size, 4, none⟩) hbl).trans e4; replace e5 := (hb9.cell (p := ⟨w.heap.size, 5, none⟩) hbl).trans e5; replace e6 := (hb9.cell (p := ⟨w.heap.size, 6, none⟩) hbl).trans e6; replace e7 := (hb9.cell (p := ⟨w.heap.size, 7, none⟩) hbl).trans e7; replace e8 := (hb9.cell (p := ⟨w.heap.size, 8, none⟩) hbl).trans e8; replace e9 := (hb9.cell (p := ⟨w.heap.size, 9, none⟩) hbl).trans e9; replace e10 := (hb9.cell (p := ⟨w.heap.size, 10, none⟩) hbl).trans e10; replace e11 := (hb9.cell (p := ⟨w.heap.size, 11, none⟩) hbl).trans e11; replace e12 := (hb9.cell (p := ⟨w.heap.size, 12, none⟩) hbl).trans e12; replace e13 := (hb9.cell (p := ⟨w.heap.size, 13, none⟩) hbl).trans e13; replace e14 := (hb9.cell (p := ⟨w.heap.size, 14, none⟩) hbl).trans e14; replace e15 := (hb9.cell (p := ⟨w.heap.size, 15, none⟩) hbl).trans e15; replace e16 := (hb9.cell (p := ⟨w.heap.size, 16, none⟩) hbl).trans e16; replace e17 := (hb9.cell (p := ⟨w.heap.size, 17, none⟩) hbl).trans e17; replace e18 := (hb9.cell (p := ⟨w.heap.size, 18, none⟩) hbl).trans e18; replace hbl := Nat.lt_of_lt_of_le hbl hb9.size; clear hb9)
    | (go_at_call 115; refine (term_is a.value _).mono ?_; rintro e w9 ⟨rfl, hb9⟩; have HB := Lib.hid (HB.out.trans (hb9.mono HB.out.size)); replace e0 := (hb9.cell (p := ⟨w.heap.size, 0, none⟩) hbl).trans e0; replace e1 := (hb9.cell (p := ⟨w.heap.size, 1, none⟩) hbl).trans e1; replace e2 := (hb9.cell (p := ⟨w.heap.size, 2, none⟩) hbl).trans e2; replace e3 := (hb9.cell (p := ⟨w.heap.size, 3, none⟩) hbl).trans e3; replace e4 := (hb9.cell (p := ⟨w.heap.size, 4, none⟩) hbl).trans e4; replace e5 := (hb9.cell (p := ⟨w.heap.size, 5, none⟩) hbl).trans e5; replace e6 := (hb9.cell (p := ⟨w.heap.size, 6, none⟩) hbl).trans e6; replace e7 := (hb9.cell (p := ⟨w.heap.size, 7, none⟩) hbl).trans e7; replace e8 := (hb9.cell (p := ⟨w.heap.size, 8, none⟩) hbl).trans e8; replace e9 := (hb9.cell (p := ⟨w.heap.size, 9, none⟩) hbl).trans e9; replace e10 := (hb9.cell (p := ⟨w.heap.size, 10, none⟩) hbl).trans e10; replace e11 := (hb9.cell (p := ⟨w.heap.size, 11, none⟩) hbl).trans e11; replace e12 := (hb9.cell (p := ⟨w.heap.size, 12, none⟩) hbl).trans e12; replace e13 := (hb9.cell (p := ⟨w.heap.size, 13, none⟩) hbl).trans e13; replace e14 := (hb9.cell (p := ⟨w.heap.size, 14, none⟩) hbl).trans e14; replace e15 := (hb9.cell (p := ⟨w.heap.size, 15, none⟩) hbl).trans e15; replace e16 := (hb9.cell (p := ⟨w.heap.size, 16, none⟩) hbl).trans e16; replace e17 := (hb9.cell (p := ⟨w.heap.size, 17, none⟩) hbl).trans e17; replace e18 := (hb9.cell (p := ⟨w.heap.size, 18, none⟩) hbl).trans e18; replace hbl := Nat.lt_of_lt_of_le hbl hb9.size; clear hb9)
    | (go_at_call 116; refine (other_is a.pref _).mono ?_; rintro e w9 ⟨rfl, rfl⟩)
    | (go_at_call 117; refine (empty_is a.other _).mono ?_; rintro e w9 ⟨rfl, hb9⟩; have HB := Lib.hid (HB.out.trans (hb9.mono HB.out.size)); replace e0 := (hb9.cell (p := ⟨w.heap.size, 0, none⟩) hbl).trans e0; replace e1 := (hb9.cell (p := ⟨w.heap.size, 1, none⟩) hbl).trans e1; replace e2 := (hb9.cell (p := ⟨w.heap.size, 2, none⟩) hbl).trans e2; replace e3 := (hb9.cell (p := ⟨w.heap.size, 3, none⟩) hbl).trans e3; replace e4 := (hb9.cell (p := ⟨w.heap.size, 4, none⟩) hbl).trans e4; replace e5 := (hb9.cell (p := ⟨w.heap.size, 5, none⟩) hbl).trans e5; replace e6 := (hb9.cell (p := ⟨w.heap.size, 6, none⟩) hbl).trans e6; replace e7 := (hb9.cell (p := ⟨w.heap.size, 7, none⟩) hbl).trans e7; replace e8 := (hb9.cell (p := ⟨w.heap.size, 8, none⟩) hbl).trans e8; replace e9 := (hb9.cell (p := ⟨w.heap.size, 9, none⟩) hbl).trans e9; replace e10 := (hb9.cell (p := ⟨w.heap.size, 10, none⟩) hbl).trans e10; replace e11 := (hb9.cell (p := ⟨w.heap.size, 11, none⟩) hbl).trans e11; replace e12 := (hb9.cell (p := ⟨w.heap.size, 12, none⟩) hbl).trans e12; replace e13 := (hb9.cell (p := ⟨w.heap.size, 13, none⟩) hbl).trans e13; replace e14 := (hb9.cell (p := ⟨w.heap.size, 14, none⟩) hbl).trans e14; replace e15 := (hb9.cell (p := ⟨w.heap.size, 15, none⟩) hbl).trans e15; replace e16 := (hb9.cell (p := ⟨w.heap.size, 16, none⟩) hbl).trans e16; replace e17 := (hb9.cell (p := ⟨w.heap.size, 17, none⟩) hbl).trans e17; replace e18 := (hb9.cell (p := ⟨w.heap.size, 18, none⟩) hbl).trans e18; replace hbl := Nat.lt_of_lt_of_le hbl hb9.size; clear hb9))
   go_ret
   exact ⟨by rw [HR.out] <;> rfl, by (first | exact HB.out | (exact (Below.refl _ _).alloc (Nat.le_refl _) _) | (simpa using HB.out))⟩
 have t0 : isWord a.id = true := by simpa using c0
 have t1 : atomB a.attr = true := by simpa using c1
 have t2 : termB a.value = true := by simpa using c2
 have t3 : decide (a.pref < 1) = false := by simp; omega
 have t4 : decide (10 < a.pref) = false := by simp; omega
 have t5 : otherB a.pref = false := by simpa using c5
 have HR := Lib.hid (show actB a = emptyB a.other by simp [actB, *])
 clear c0 c1 c2 c3 c4 c5
 go_enter Tryz.func96, Tryz.ntmps96
 go_upto_region 1 with fail
 obtain ⟨W1, hW1⟩ : ∃ W1, W1 = w.alloc (.cells #[.string a.id, .string a.attr.var, .int .i64 a.attr.sym.kind, .string a.attr.sym.text, .int .i64 a.attr.sym.n, .int .i64 a.value.op, .string a.value.a.var, .int .i64 a.value.a.sym.kind, .string a.value.a.sym.text, .int .i64 a.value.a.sym.n, .string a.value.b.var, .int .i64 a.value.b.sym.kind, .string a.value.b.sym.text, .int .i64 a.value.b.sym.n, .int .i64 a.pref, .string a.other.var, .int .i64 a.other.sym.kind, .string a.other.sym.text, .int .i64 a.other.sym.n] 65) := ⟨_, rfl⟩
 rw [← hW1]
 have hBk : Blk W1 w.heap.size 65 #[.string a.id, .string a.attr.var, .int .i64 a.attr.sym.kind, .string a.attr.sym.text, .int .i64 a.attr.sym.n, .int .i64 a.value.op, .string a.value.a.var, .int .i64 a.value.a.sym.kind, .string a.value.a.sym.text, .int .i64 a.value.a.sym.n, .string a.value.b.var, .int .i64 a.value.b.sym.kind, .string a.value.b.sym.text, .int .i64 a.value.b.sym.n, .int .i64 a.pref, .string a.other.var, .int .i64 a.other.sym.kind, .string a.other.sym.text, .int .i64 a.other.sym.n] := by rw [hW1]; exact Blk.new _ _ _
 have HB := Lib.hid (show Below w.heap.size w W1 by rw [hW1]; exact (Below.refl _ _).alloc (Nat.le_refl _) _)
 have e0 : W1.cell? ⟨w.heap.size, 0, none⟩ = some (.string a.id) := (hBk.cell 0).trans rfl
 have e1 : W1.cell? ⟨w.heap.size, 1, none⟩ = some (.string a.attr.var) := (hBk.cell 1).trans rfl
 have e2 : W1.cell? ⟨w.heap.size, 2, none⟩ = some (.int .i64 a.attr.sym.kind) := (hBk.cell 2).trans rfl
 have e3 : W1.cell? ⟨w.heap.size, 3, none⟩ = some (.string a.attr.sym.text) := (hBk.cell 3).trans rfl
 have e4 : W1.cell? ⟨w.heap.size, 4, none⟩ = some (.int .i64 a.attr.sym.n) := (hBk.cell 4).trans rfl
 have e5 : W1.cell? ⟨w.heap.size, 5, none⟩ = some (.int .i64 a.value.op) := (hBk.cell 5).trans rfl
 have e6 : W1.cell? ⟨w.heap.size, 6, none⟩ = some (.string a.value.a.var) := (hBk.cell 6).trans rfl
 have e7 : W1.cell? ⟨w.heap.size, 7, none⟩ = some (.int .i64 a.value.a.sym.kind) := (hBk.cell 7).trans rfl
 have e8 : W1.cell? ⟨w.heap.size, 8, none⟩ = some (.string a.value.a.sym.text) := (hBk.cell 8).trans rfl
 have e9 : W1.cell? ⟨w.heap.size, 9, none⟩ = some (.int .i64 a.value.a.sym.n) := (hBk.cell 9).trans rfl
 have e10 : W1.cell? ⟨w.heap.size, 10, none⟩ = some (.string a.value.b.var) := (hBk.cell 10).trans rfl
 have e11 : W1.cell? ⟨w.heap.size, 11, none⟩ = some (.int .i64 a.value.b.sym.kind) := (hBk.cell 11).trans rfl
 have e12 : W1.cell? ⟨w.heap.size, 12, none⟩ = some (.string a.value.b.sym.text) := (hBk.cell 12).trans rfl
 have e13 : W1.cell? ⟨w.heap.size, 13, none⟩ = some (.int .i64 a.value.b.sym.n) := (hBk.cell 13).trans rfl
 have e14 : W1.cell? ⟨w.heap.size, 14, none⟩ = some (.int .i64 a.pref) := (hBk.cell 14).trans rfl
 have e15 : W1.cell? ⟨w.heap.size, 15, none⟩ = some (.string a.other.var) := (hBk.cell 15).trans rfl
 have e16 : W1.cell? ⟨w.heap.size, 16, none⟩ = some (.int .i64 a.other.sym.kind) := (hBk.cell 16).trans rfl
 have e17 : W1.cell? ⟨w.heap.size, 17, none⟩ = some (.string a.other.sym.text) := (hBk.cell 17).trans rfl
 have e18 : W1.cell? ⟨w.heap.size, 18, none⟩ = some (.int .i64 a.other.sym.n) := (hBk.cell 18).trans rfl
 have hbl := hBk.lt
 clear hW1 hBk
 go_wp2_with (first
  | (go_at_call 81; refine (word_is a.id _).mono ?_; rintro e w9 ⟨rfl, rfl⟩)
  | (go_at_call 114; (first | (with_reducible refine (atomS_is a.attr _).mono ?_) | (with_reducible refine (atomS_is a.other _).mono ?_)); rintro e w9 ⟨rfl, hb9⟩; have HB := Lib.hid (HB.out.trans (hb9.mono HB.out.size)); replace e0 := (hb9.cell (p := ⟨w.heap.size, 0, none⟩) hbl).trans e0; replace e1 := (hb9.cell (p := ⟨w.heap.size, 1, none⟩) hbl).trans e1; replace e2 := (hb9.cell (p := ⟨w.heap.size, 2, none⟩) hbl).trans e2; replace e3 := (hb9.cell (p := ⟨w.heap.size, 3, none⟩) hbl).trans e3; replace e4 := (hb9.cell (p := ⟨w.heap.size, 4, none⟩) hbl).trans e4; replace e5 := (hb9.cell (p := ⟨w.heap.size, 5, none⟩) hbl).trans e5; replace e6 := (hb9.cell (p := ⟨w.heap.size, 6, none⟩) hbl).trans e6; replace e7 := (hb9.cell (p := ⟨w.heap.size, 7, none⟩) hbl).trans e7; replace e8 := (hb9.cell (p := ⟨w.heap.size, 8, none⟩) hbl).trans e8; replace e9 := (hb9.cell (p := ⟨w.heap.size, 9, none⟩) hbl).trans e9; replace e10 := (hb9.cell (p := ⟨w.heap.size, 10, none⟩) hbl).trans e10; replace e11 := (hb9.cell (p := ⟨w.heap.size, 11, none⟩) hbl).trans e11; replace e12 := (hb9.cell (p := ⟨w.heap.size, 12, none⟩) hbl).trans e12; replace e13 := (hb9.cell (p := ⟨w.heap.size, 13, none⟩) hbl).trans e13; replace e14 := (hb9.cell (p := ⟨w.heap.size, 14, none⟩) hbl).trans e14; replace e15 := (hb9.cell (p := ⟨w.heap.size, 15, none⟩) hbl).trans e15; replace e16 := (hb9.cell (p := ⟨w.heap.size, 16, none⟩) hbl).trans e16; replace e17 := (hb9.cell (p := ⟨w.heap.size, 17, none⟩) hbl).trans e17; replace e18 := (hb9.cell (p := ⟨w.heap.size, 18, none⟩) hbl).trans e18; replace hbl := Nat.lt_of_lt_of_le hbl hb9.size; clear hb9)
  | (go_at_call 115; refine (term_is a.value _).mono ?_; rintro e w9 ⟨rfl, hb9⟩; have HB := Lib.hid (HB.out.trans (hb9.mono HB.out.size)); replace e0 := (hb9.cell (p := ⟨w.heap.size, 0, none⟩) hbl).trans e0; replace e1 := (hb9.cell (p := ⟨w.heap.size, 1, none⟩) hbl).trans e1; replace e2 := (hb9.cell (p := ⟨w.heap.size, 2, none⟩) hbl).trans e2; replace e3 := (hb9.cell (p := ⟨w.heap.size, 3, none⟩) hbl).trans e3; replace e4 := (hb9.cell (p := ⟨w.heap.size, 4, none⟩) hbl).trans e4; replace e5 := (hb9.cell (p := ⟨w.heap.size, 5, none⟩) hbl).trans e5; replace e6 := (hb9.cell (p := ⟨w.heap.size, 6, none⟩) hbl).trans e6; replace e7 := (hb9.cell (p := ⟨w.heap.size, 7, none⟩) hbl).trans e7; replace e8 := (hb9.cell (p := ⟨w.heap.size, 8, none⟩) hbl).trans e8; replace e9 := (hb9.cell (p := ⟨w.heap.size, 9, none⟩) hbl).trans e9; replace e10 := (hb9.cell (p := ⟨w.heap.size, 10, none⟩) hbl).trans e10; replace e11 := (hb9.cell (p := ⟨w.heap.size, 11, none⟩) hbl).trans e11; replace e12 := (hb9.cell (p := ⟨w.heap.size, 12, none⟩) hbl).trans e12; replace e13 := (hb9.cell (p := ⟨w.heap.size, 13, none⟩) hbl).trans e13; replace e14 := (hb9.cell (p := ⟨w.heap.size, 14, none⟩) hbl).trans e14; replace e15 := (hb9.cell (p := ⟨w.heap.size, 15, none⟩) hbl).trans e15; replace e16 := (hb9.cell (p := ⟨w.heap.size, 16, none⟩) hbl).trans e16; replace e17 := (hb9.cell (p := ⟨w.heap.size, 17, none⟩) hbl).trans e17; replace e18 := (hb9.cell (p := ⟨w.heap.size, 18, none⟩) hbl).trans e18; replace hbl := Nat.lt_of_lt_of_le hbl hb9.size; clear hb9)
  | (go_at_call 116; refine (other_is a.pref _).mono ?_; rintro e w9 ⟨rfl, rfl⟩)
  | (go_at_call 117; refine (empty_is a.other _).mono ?_; rintro e w9 ⟨rfl, hb9⟩; have HB := Lib.hid (HB.out.trans (hb9.mono HB.out.size)); replace e0 := (hb9.cell (p := ⟨w.heap.size, 0, none⟩) hbl).trans e0; replace e1 := (hb9.cell (p := ⟨w.heap.size, 1, none⟩) hbl).trans e1; replace e2 := (hb9.cell (p := ⟨w.heap.size, 2, none⟩) hbl).trans e2; replace e3 := (hb9.cell (p := ⟨w.heap.size, 3, none⟩) hbl).trans e3; replace e4 := (hb9.cell (p := ⟨w.heap.size, 4, none⟩) hbl).trans e4; replace e5 := (hb9.cell (p := ⟨w.heap.size, 5, none⟩) hbl).trans e5; replace e6 := (hb9.cell (p := ⟨w.heap.size, 6, none⟩) hbl).trans e6; replace e7 := (hb9.cell (p := ⟨w.heap.size, 7, none⟩) hbl).trans e7; replace e8 := (hb9.cell (p := ⟨w.heap.size, 8, none⟩) hbl).trans e8; replace e9 := (hb9.cell (p := ⟨w.heap.size, 9, none⟩) hbl).trans e9; replace e10 := (hb9.cell (p := ⟨w.heap.size, 10, none⟩) hbl).trans e10; replace e11 := (hb9.cell (p := ⟨w.heap.size, 11, none⟩) hbl).trans e11; replace e12 := (hb9.cell (p := ⟨w.heap.size, 12, none⟩) hbl).trans e12; replace e13 := (hb9.cell (p := ⟨w.heap.size, 13, none⟩) hbl).trans e13; replace e14 := (hb9.cell (p := ⟨w.heap.size, 14, none⟩) hbl).trans e14; replace e15 := (hb9.cell (p := ⟨w.heap.size, 15, none⟩) hbl).trans e15; replace e16 := (hb9.cell (p := ⟨w.heap.size, 16, none⟩) hbl).trans e16; replace e17 := (hb9.cell (p := ⟨w.heap.size, 17, none⟩) hbl).trans e17; replace e18 := (hb9.cell (p := ⟨w.heap.size, 18, none⟩) hbl).trans e18; replace hbl := Nat.lt_of_lt_of_le hbl hb9.size; clear hb9))
 go_ret
 exact ⟨by rw [HR.out] <;> rfl, by (first | exact HB.out | (exact (Below.refl _ _).alloc (Nat.le_refl _) _) | (simpa using HB.out))⟩
end Go.Proofs.YtpndmjabjjbefaaGreat
namespace Go.Proofs.YtpndmjabjjbefaaGreat
open Go.RowKit Go.Shelf
attribute [local go_sem] Oper.semAt_some
set_option maxRecDepth 100000 in
set_option maxHeartbeats 16000000 in
theorem shape_is {D : Nat → Prop} (p : ProdT) (n : Nat) (A1 A2 : Option Addr) (c1 c2 : Nat) (w : World) (h1 : RowR (repCondT n) D w A1 c1 p.conds) (h2 : RowR repActT D w A2 c2 p.acts) (hD : ∀ k, D k → k < w.heap.size) (hF : (flatC n 0 p.conds).length ≤ 1000000000) (hn : n ≤ 1000000000) :
 Calls Tryz.prog 69 #[.agg #[.string p.name, .slice A1 p.conds.length c1, .slice A2 p.acts.length c2]] w fun e w' => e = .returned (.tuple #[.int .i64 (shapeP n p).1, .int .i64 (shapeP n p).2]) ∧ Below w.heap.size w w' := by
 have H1 := Lib.hid h1
 have H2 := Lib.hid h2
 have HD := Lib.hid hD
 have hl2 := h2.cap
 clear h1 h2 hD
 by_cases hw : isWord p.name = false
 · have HR := Lib.hid (show shapeP n p = (-1, 2) by unfold shapeP; rw [if_pos hw])
   have w1 := hw
   clear hw
   go_enter Tryz.func69, Tryz.ntmps69
   go_wp2_with (go_at_call 81; refine (word_is p.name _).mono ?_; rintro e w9 ⟨rfl, rfl⟩)
   go_ret2
   exact ⟨by rw [HR.out] <;> rfl, (Below.refl _ _).alloc (Nat.le_refl _) _⟩
 have w1 : isWord p.name = true := by simpa using hw
 have HW := Lib.hid hw
 clear hw
 obtain ⟨F, hFd⟩ : ∃ F, F = flatC n 0 p.conds := ⟨_, rfl⟩
 have HFD := Lib.hid hFd
 rw [← hFd] at hF
 clear hFd
 go_enter Tryz.func69, Tryz.ntmps69
 go_upto_region 4 with (go_at_call 81; refine (word_is p.name _).mono ?_; rintro e w9 ⟨rfl, rfl⟩)
 obtain ⟨W1, hW1⟩ : ∃ W1, W1 = (w.alloc (.cells #[.string p.name, .slice A1 p.conds.length c1, .slice A2 p.acts.length c2] 42)).alloc (.cells #[.int .i64 0] 3) := ⟨_, rfl⟩
 rw [← hW1]
 have hb1 : Below w.heap.size w W1 := by rw [hW1]; exact ((Below.refl _ _).alloc (Nat.le_refl _) _).alloc (by simp) _
 have hP : Blk W1 w.heap.size 42 #[.string p.name, .slice A1 p.conds.length c1, .slice A2 p.acts.length c2] := by rw [hW1]; exact (Blk.new w 42 #[.string p.name, .slice A1 p.conds.length c1, .slice A2 p.acts.length c2]).alloc _
 have hN : Blk W1 (w.heap.size + 1) 3 #[.int .i64 0] := by
  rw [hW1]
  have := Blk.new (w.alloc (.cells #[.string p.name, .slice A1 p.conds.length c1, .slice A2 p.acts.length c2] 42)) 3 #[.int .i64 0]
  rw [show (w.alloc (.cells #[.string p.name, .slice A1 p.conds.length c1, .slice A2 p.acts.length c2] 42)).heap.size = w.heap.size + 1 from by simp] at this
  exact this
 obtain ⟨bn, hbn⟩ : ∃ bn, bn = w.heap.size + 1 := ⟨_, rfl⟩
 obtain ⟨px, hpx⟩ : ∃ px, px = w.heap.size := ⟨_, rfl⟩
 rw [← hbn] at hN ⊢
 rw [← hpx] at hP
 have HPX := Lib.hid hpx
 have HBN := Lib.hid hbn
 have hDn : ¬ D bn := fun h => by have := HD.out _ h; omega
 have p1 : W1.cell? ⟨w.heap.size, 1, none⟩ = some (.slice A1 p.conds.length c1) := by rw [← hpx]; exact (hP.cell 1).trans rfl
 have hpl : w.heap.size < W1.heap.size := by rw [← hpx]; exact hP.lt
 have HB1 := Lib.hid hb1
 have HP := Lib.hid hP
 have HN := Lib.hid hN
 clear hW1 hbn hpx hb1 hP hN
 go_wp2_with fail
 have hwk := walk_is (yld1 (D := D) bn hDn F) hF n 0 0 A1 c1 p.conds W1 (H1.out.new_ HB1.out) (fun k hk => by rw [hk]; exact HN.out.lt) ⟨[], by rw [← HFD.out]; simp⟩ (by rw [← HFD.out]; omega) (by omega) ⟨HN.out, by omega⟩
 rw [← HFD.out] at hwk
 refine hwk.mono ?_
 rintro e W2 ⟨b, a, rfl, hbt, hbf, hF2⟩
 have hm : ∃ m : Nat, Blk W2 bn 3 #[.int .i64 (m : Int)] ∧ ((m = F.length ∧ m ≤ 16) ∨ (m = 17 ∧ 16 < F.length)) := by
  cases b with
  | true =>
    obtain ⟨ha, hI⟩ := hbt rfl
    exact ⟨a, hI.1, .inl ⟨by omega, hI.2⟩⟩
  | false =>
    have hS := hbf rfl
    exact ⟨17, hS.1, .inr ⟨rfl, hS.2⟩⟩
 obtain ⟨m, hM, hmF⟩ := hm
 have hP2 := HP.out.fr hF2 (fun e => by have := HPX.out; have := HBN.out; omega)
 have HB2 := Lib.hid (HB1.out.trans (hF2.below HB1.out.size (fun k hk e => by have := HBN.out; omega)))
 have n0 : W2.cell? ⟨bn, 0, none⟩ = some (.int .i64 (m : Int)) := (hM.cell 0).trans rfl
 have p1' : W2.cell? ⟨w.heap.size, 1, none⟩ = some (.slice A1 p.conds.length c1) := by rw [← HPX.out]; exact (hP2.cell 1).trans rfl
 have p2' : W2.cell? ⟨w.heap.size, 2, none⟩ = some (.slice A2 p.acts.length c2) := by rw [← HPX.out]; exact (hP2.cell 2).trans rfl
 have hpl2 : w.heap.size < W2.heap.size := by rw [← HPX.out]; exact hP2.lt
 have hnl := hM.lt
 have HM := Lib.hid hM
 have HP2 := Lib.hid hP2
 clear hwk hbt hbf hF2 hM hP2 p1 hpl
 have bad : (F.length < 1 ∨ 16 < F.length ∨ p.acts.length < 1 ∨ 16 < p.acts.length) → shapeP n p = (-1, 7) := fun h => by
  unfold shapeP
  rw [if_neg HW.out, ← HFD.out, if_pos h]
 have HBAD := Lib.hid bad
 clear bad
 by_cases k1 : m < 1
 · have t1 : decide ((m : Int) < 1) = true := decide_eq_true (by omega)
   have t1n : decide (m < 1) = true := decide_eq_true (by omega)
   have HR := Lib.hid (HBAD.out (by omega))
   clear k1
   go_wp2_with fail
   go_ret2
   exact ⟨by rw [HR.out] <;> rfl, HB2.out⟩
 have t1 : decide ((m : Int) < 1) = false := decide_eq_false (by omega)
 have t1n : decide (m < 1) = false := decide_eq_false (by omega)
 by_cases k2 : 16 < m
 · have t2 : decide ((16 : Int) < (m : Int)) = true := decide_eq_true (by omega)
   have t2n : decide (16 < m) = true := decide_eq_true (by omega)
   have HR := Lib.hid (HBAD.out (by omega))
   clear k1 k2
   go_wp2_with fail
   go_ret2
   exact ⟨by rw [HR.out] <;> rfl, HB2.out⟩
 have t2 : decide ((16 : Int) < (m : Int)) = false := decide_eq_false (by omega)
 have t2n : decide (16 < m) = false := decide_eq_false (by omega)
 have hmF' : m = F.length := by omega
 by_cases k3 : p.acts.length < 1
 · have t3 : decide ((p.acts.length : Int) < 1) = true := decide_eq_true (by omega)
   have t3n : decide (p.acts.length < 1) = true := decide_eq_true (by omega)
   have HR := Lib.hid (HBAD.out (by omega))
   have hz0 : p.acts.length = 0 := by omega
   clear k1 k2 k3 hmF hmF'
   go_wp2_with fail
   go_ret2
   exact ⟨by rw [HR.out] <;> rfl, HB2.out⟩
 have t3 : decide ((p.acts.length : Int) < 1) = false := decide_eq_false (by omega)
 have t3n : decide (p.acts.length < 1) = false := decide_eq_false (by omega)
 by_cases k4 : 16 < p.acts.length
 · have t4 : decide ((16 : Int) < (p.acts.length : Int)) = true := decide_eq_true (by omega)
   have t4n : decide (16 < p.acts.length) = true := decide_eq_true (by omega)
   have HR := Lib.hid (HBAD.out (by omega))
   clear k1 k2 k3 k4 hmF hmF'
   go_wp2_with fail
   go_ret2
   exact ⟨by rw [HR.out] <;> rfl, HB2.out⟩
 have t4 : decide ((16 : Int) < (p.acts.length : Int)) = false := decide_eq_false (by omega)
 have t4n : decide (16 < p.acts.length) = false := decide_eq_false (by omega)
 clear k1 k2 k3 k4 hmF
 have HMF := Lib.hid hmF'
 clear hmF'
 have good : ∀ r : Int × Int, (match F.findIdx? (fun c => decide (condE c.2 c.1 ≠ 0)) with
  | some k => ((k : Int), ((F[k]?).map fun c => condE c.2 c.1).getD 0)
  | none => match p.acts.findIdx? (fun a => !actB a) with
    | some i => (F.length + i, 9)
    | none => (-1, 0)) = r → shapeP n p = r := fun r h => by
  have ht2 := t2n
  have ht1 := t1n
  have ht3 := t3n
  have ht4 := t4n
  rw [decide_eq_false_iff_not] at ht1 ht2 ht3 ht4
  unfold shapeP
  rw [if_neg HW.out, ← HFD.out, if_neg (by have := HMF.out; omega)]
  exact h
 have HGOOD := Lib.hid good
 clear good
 go_upto_region 8 with fail
 obtain ⟨W3, hW3⟩ : ∃ W3, W3 = (W2.alloc (.cells #[.int .i64 (-1)] 3)).alloc (.cells #[.int .i64 0] 44) := ⟨_, rfl⟩
 rw [← hW3]
 have hb3 : Below W2.heap.size W2 W3 := by rw [hW3]; exact ((Below.refl _ _).alloc (Nat.le_refl _) _).alloc (by simp) _
 have hQ : Blk W3 W2.heap.size 3 #[.int .i64 (-1)] := by rw [hW3]; exact (Blk.new W2 3 #[.int .i64 (-1)]).alloc _
 have hE : Blk W3 (W2.heap.size + 1) 44 #[.int .i64 0] := by
  rw [hW3]
  have := Blk.new (W2.alloc (.cells #[.int .i64 (-1)] 3)) 44 #[.int .i64 0]
  rw [show (W2.alloc (.cells #[.int .i64 (-1)] 3)).heap.size = W2.heap.size + 1 from by simp] at this
  exact this
 obtain ⟨be, hbe⟩ : ∃ be, be = W2.heap.size + 1 := ⟨_, rfl⟩
 obtain ⟨bp, hbp⟩ : ∃ bp, bp = W2.heap.size := ⟨_, rfl⟩
 rw [← hbe] at hE ⊢
 rw [← hbp] at hQ ⊢
 have hz2 := HB2.out.size
 have hD1 : ¬ D be := fun h => by have := HD.out _ h; omega
 have hD2 : ¬ D bp := fun h => by have := HD.out _ h; omega
 have q1 : W3.cell? ⟨w.heap.size, 1, none⟩ = some (.slice A1 p.conds.length c1) := (hb3.cell (p := ⟨w.heap.size, 1, none⟩) hpl2).trans p1'
 have hpl3 := Nat.lt_of_lt_of_le hpl2 hb3.size
 have HB3 := Lib.hid hb3
 have HE := Lib.hid hE
 have HQ := Lib.hid hQ
 have HBE := Lib.hid hbe
 have HBP := Lib.hid hbp
 clear hW3 hb3 hE hQ hbe hbp p1' n0 hnl
 go_wp2_with fail
 have hwk := walk_is (yld2 (D := D) be bp hD1 hD2 (by have := HBE.out; have := HBP.out; omega) F) hF n 0 0 A1 c1 p.conds W3 (H1.out.new_ (HB2.out.trans (HB3.out.mono hz2))) (fun k hk => hk.elim (fun e => e ▸ HE.out.lt) (fun e => e ▸ HQ.out.lt)) ⟨[], by rw [← HFD.out]; simp⟩ (by rw [← HFD.out]; omega) (by omega) ⟨HE.out, HQ.out, fun j _ h => absurd h (by omega)⟩
 rw [← HFD.out] at hwk
 refine hwk.mono ?_
 rintro e W4 ⟨b, a2, rfl, hbt, hbf, hF4⟩
 have HB4 := Lib.hid (show Below w.heap.size w W4 from (HB2.out.trans (HB3.out.mono hz2)).trans (hF4.below (by have := HB3.out.size; omega) (fun k hk e => by have := HBE.out; have := HBP.out; rcases e with e | e <;> omega)))
 have hM4 := (HM.out.new_ HB3.out).fr hF4 (fun e => by have h1 := HM.out.lt; have := HBE.out; have := HBP.out; rcases e with e | e <;> omega)
 have hP4 := (HP2.out.new_ HB3.out).fr hF4 (fun e => by have h1 := HP2.out.lt; have := HBE.out; have := HBP.out; rcases e with e | e <;> omega)
 have HM4 := Lib.hid hM4
 have r2 : W4.cell? ⟨w.heap.size, 2, none⟩ = some (.slice A2 p.acts.length c2) := by rw [← HPX.out]; exact (hP4.cell 2).trans rfl
 have hpl4 : w.heap.size < W4.heap.size := by rw [← HPX.out]; exact hP4.lt
 have n4 : W4.cell? ⟨bn, 0, none⟩ = some (.int .i64 (m : Int)) := (hM4.cell 0).trans rfl
 have hnl4 := hM4.lt
 clear hwk hF4 hM4 hP4 q1 hpl3 p2' hpl2
 cases b with
 | false =>
   obtain ⟨k, hk, hE4, hQ4, hne, hall⟩ := hbf rfl
   obtain ⟨z, hz⟩ : ∃ z, z = condE F[k].2 F[k].1 := ⟨_, rfl⟩
   have hR : shapeP n p = ((k : Int), z) := by
    refine HGOOD.out _ ?_
    have hfi : F.findIdx? (fun c => decide (condE c.2 c.1 ≠ 0)) = some k := by
     rw [List.findIdx?_eq_some_iff_getElem]
     exact ⟨hk, by simpa using hne, fun j hj => by simpa using hall j (by omega) hj⟩
    rw [hfi]
    simp [List.getElem?_eq_getElem hk, hz]
   rw [← hz] at hE4 hne
   have HR := Lib.hid hR
   have s0 : W4.cell? ⟨be, 0, none⟩ = some (.int .i64 z) := (hE4.cell 0).trans rfl
   have s1 : W4.cell? ⟨bp, 0, none⟩ = some (.int .i64 (k : Int)) := (hQ4.cell 0).trans rfl
   have hl0 := hE4.lt
   have hl1 := hQ4.lt
   have t5 : (z == 0) = false := by simp [hne]
   have t6 : decide (z = 0) = false := by simp [hne]
   clear hR hz hE4 hQ4 hall hbt hbf hne n4 r2
   go_wp2_with fail
   go_quiet (fail)
   go_wp2_with fail
   go_ret2
   exact ⟨by rw [HR.out] <;> rfl, Below.drewN' HB4.out _⟩
 | true =>
   obtain ⟨_, hE4, _, hall⟩ := hbt rfl
   have hnone : F.findIdx? (fun c => decide (condE c.2 c.1 ≠ 0)) = none := by
    rw [List.findIdx?_eq_none_iff]
    intro x hx
    obtain ⟨j, hj, rfl⟩ := List.getElem_of_mem hx
    have := hall j hj (by omega)
    simpa using this
   have HNO := Lib.hid hnone
   have s0 : W4.cell? ⟨be, 0, none⟩ = some (.int .i64 0) := (hE4.cell 0).trans rfl
   have hl0 := hE4.lt
   clear hnone hall hbt hbf hE4
   go_wp2_with fail
   go_loopw [46] (fun s wr => ∃ i : Nat, s = .int .i64 i ∧ i ≤ p.acts.length ∧ (∀ k, (h : k < p.acts.length) → k < i → actB p.acts[k] = true) ∧ Below W4.heap.size W4 wr) (fun s wr => p.acts.length - (intOf s).toNat)
   case atStart => exact ⟨0, rfl, Nat.zero_le _, fun k _ h => absurd h (by omega), Below.refl _ _⟩
   case round =>
    obtain ⟨i, rfl, hi, hall, hBr⟩ := hrel
    have HALL := Lib.hid hall
    have HBr := Lib.hid hBr
    have hz4 := HB4.out.size
    have hzr := hBr.size
    clear hall hBr
    by_cases hlt : i < p.acts.length
    · obtain ⟨y, hy⟩ : ∃ y, y = p.acts[i] := ⟨_, rfl⟩
      obtain ⟨g, off, hAA, _, hg, q0, q1, q2, q3, q4, q5, q6, q7, q8, q9, q10, q11, q12, q13, q14, q15, q16, q17, q18⟩ := at_ActT (H2.out.new_ (HB4.out.trans (HBr.out.mono hz4))) hlt
      subst hAA
      rw [← hy] at q0 q1 q2 q3 q4 q5 q6 q7 q8 q9 q10 q11 q12 q13 q14 q15 q16 q17 q18
      have HY := Lib.hid hy
      have b1 : (0 : Int) ≤ (i : Int) := by omega
      have b2 : (i : Int) < (p.acts.length : Int) := by omega
      have HRG := Lib.hid (show wr.rangeAt g (off + i * 19) [.string y.id, .string y.attr.var, .int .i64 y.attr.sym.kind, .string y.attr.sym.text, .int .i64 y.attr.sym.n, .int .i64 y.value.op, .string y.value.a.var, .int .i64 y.value.a.sym.kind, .string y.value.a.sym.text, .int .i64 y.value.a.sym.n, .string y.value.b.var, .int .i64 y.value.b.sym.kind, .string y.value.b.sym.text, .int .i64 y.value.b.sym.n, .int .i64 y.pref, .string y.other.var, .int .i64 y.other.sym.kind, .string y.other.sym.text, .int .i64 y.other.sym.n] from fun j v hv => by
       obtain ⟨g', off', cs, e1, _, _, hr, hc⟩ := (H2.out.new_ (HB4.out.trans (HBr.out.mono hz4))).at_ hlt
       cases e1
       have hr2 : cs = ActT.cells p.acts[i] := hr
       subst hr2
       rw [← HY.out] at hc
       exact hc j v hv)
      have HTH := Lib.hid (show (wr.alloc (.cells #[.string ⟨#[]⟩, .string ⟨#[]⟩, .int .i64 0, .string ⟨#[]⟩, .int .i64 0, .int .i64 0, .string ⟨#[]⟩, .int .i64 0, .string ⟨#[]⟩, .int .i64 0, .string ⟨#[]⟩, .int .i64 0, .string ⟨#[]⟩, .int .i64 0, .int .i64 0, .string ⟨#[]⟩, .int .i64 0, .string ⟨#[]⟩, .int .i64 0] 65)).there wr.heap.size 0 (#[.string y.id, .string y.attr.var, .int .i64 y.attr.sym.kind, .string y.attr.sym.text, .int .i64 y.attr.sym.n, .int .i64 y.value.op, .string y.value.a.var, .int .i64 y.value.a.sym.kind, .string y.value.a.sym.text, .int .i64 y.value.a.sym.n, .string y.value.b.var, .int .i64 y.value.b.sym.kind, .string y.value.b.sym.text, .int .i64 y.value.b.sym.n, .int .i64 y.pref, .string y.other.var, .int .i64 y.other.sym.kind, .string y.other.sym.text, .int .i64 y.other.sym.n] : Array Value).size from (Blk.new wr 65 #[.string ⟨#[]⟩, .string ⟨#[]⟩, .int .i64 0, .string ⟨#[]⟩, .int .i64 0, .int .i64 0, .string ⟨#[]⟩, .int .i64 0, .string ⟨#[]⟩, .int .i64 0, .string ⟨#[]⟩, .int .i64 0, .string ⟨#[]⟩, .int .i64 0, .int .i64 0, .string ⟨#[]⟩, .int .i64 0, .string ⟨#[]⟩, .int .i64 0]).there)
      obtain ⟨W5, hW5⟩ : ∃ W5, W5 = (wr.alloc (.cells #[.string ⟨#[]⟩, .string ⟨#[]⟩, .int .i64 0, .string ⟨#[]⟩, .int .i64 0, .int .i64 0, .string ⟨#[]⟩, .int .i64 0, .string ⟨#[]⟩, .int .i64 0, .string ⟨#[]⟩, .int .i64 0, .string ⟨#[]⟩, .int .i64 0, .int .i64 0, .string ⟨#[]⟩, .int .i64 0, .string ⟨#[]⟩, .int .i64 0] 65)).setCells wr.heap.size 0 [.string y.id, .string y.attr.var, .int .i64 y.attr.sym.kind, .string y.attr.sym.text, .int .i64 y.attr.sym.n, .int .i64 y.value.op, .string y.value.a.var, .int .i64 y.value.a.sym.kind, .string y.value.a.sym.text, .int .i64 y.value.a.sym.n, .string y.value.b.var, .int .i64 y.value.b.sym.kind, .string y.value.b.sym.text, .int .i64 y.value.b.sym.n, .int .i64 y.pref, .string y.other.var, .int .i64 y.other.sym.kind, .string y.other.sym.text, .int .i64 y.other.sym.n] := ⟨_, rfl⟩
      have HW5 := Lib.hid hW5
      have HRG5 := Lib.hid (show W5.rangeAt wr.heap.size 0 [.string y.id, .string y.attr.var, .int .i64 y.attr.sym.kind, .string y.attr.sym.text, .int .i64 y.attr.sym.n, .int .i64 y.value.op, .string y.value.a.var, .int .i64 y.value.a.sym.kind, .string y.value.a.sym.text, .int .i64 y.value.a.sym.n, .string y.value.b.var, .int .i64 y.value.b.sym.kind, .string y.value.b.sym.text, .int .i64 y.value.b.sym.n, .int .i64 y.pref, .string y.other.var, .int .i64 y.other.sym.kind, .string y.other.sym.text, .int .i64 y.other.sym.n] by rw [hW5]; exact World.rangeAt_setCells_same _ _ _ _ HTH.out)
      have HB5 := Lib.hid (show Below wr.heap.size wr W5 by rw [hW5]; exact Below.setCells' _ _ ((Below.refl _ _).alloc (Nat.le_refl _) _) (Nat.le_refl _))
      clear hy hW5 q0 q1 q2 q3 q4 q5 q6 q7 q8 q9 q10 q11 q12 q13 q14 q15 q16 q17 q18
      go_wp2_with (first
       | (with_reducible refine wpList_load_mid rfl 65 _ rfl g (off + i * 19) rfl [.string y.id, .string y.attr.var, .int .i64 y.attr.sym.kind, .string y.attr.sym.text, .int .i64 y.attr.sym.n, .int .i64 y.value.op, .string y.value.a.var, .int .i64 y.value.a.sym.kind, .string y.value.a.sym.text, .int .i64 y.value.a.sym.n, .string y.value.b.var, .int .i64 y.value.b.sym.kind, .string y.value.b.sym.text, .int .i64 y.value.b.sym.n, .int .i64 y.pref, .string y.other.var, .int .i64 y.other.sym.kind, .string y.other.sym.text, .int .i64 y.other.sym.n] _ HRG.out Tryz.underlying65 rfl (by kernel_rfl) ?_)
       | ((with_reducible refine wpList_store_mid rfl 65 _ _ rfl wr.heap.size 0 #[.string y.id, .string y.attr.var, .int .i64 y.attr.sym.kind, .string y.attr.sym.text, .int .i64 y.attr.sym.n, .int .i64 y.value.op, .string y.value.a.var, .int .i64 y.value.a.sym.kind, .string y.value.a.sym.text, .int .i64 y.value.a.sym.n, .string y.value.b.var, .int .i64 y.value.b.sym.kind, .string y.value.b.sym.text, .int .i64 y.value.b.sym.n, .int .i64 y.pref, .string y.other.var, .int .i64 y.other.sym.kind, .string y.other.sym.text, .int .i64 y.other.sym.n] rfl rfl HTH.out (by kernel_rfl) (by kernel_rfl) ?_); rw [← HW5.out])
       | (with_reducible refine wpList_load_mid rfl 65 _ rfl wr.heap.size 0 rfl [.string y.id, .string y.attr.var, .int .i64 y.attr.sym.kind, .string y.attr.sym.text, .int .i64 y.attr.sym.n, .int .i64 y.value.op, .string y.value.a.var, .int .i64 y.value.a.sym.kind, .string y.value.a.sym.text, .int .i64 y.value.a.sym.n, .string y.value.b.var, .int .i64 y.value.b.sym.kind, .string y.value.b.sym.text, .int .i64 y.value.b.sym.n, .int .i64 y.pref, .string y.other.var, .int .i64 y.other.sym.kind, .string y.other.sym.text, .int .i64 y.other.sym.n] _ HRG5.out Tryz.underlying65 rfl (by kernel_rfl) ?_))
      refine (act_is y _).mono ?_
      rintro e w9 ⟨rfl, hb9⟩
      have HB9 := Lib.hid (HBr.out.trans ((HB5.out.trans (hb9.mono HB5.out.size)).mono hzr))
      clear hb9
      cases hcb : actB y
      · have hfi : p.acts.findIdx? (fun a => !actB a) = some i := by
         rw [List.findIdx?_eq_some_iff_getElem]
         refine ⟨hlt, by rw [← HY.out, hcb]; rfl, fun j hj => ?_⟩
         have := HALL.out j (by omega) hj
         simp [this]
        have HR := Lib.hid (HGOOD.out ((m : Int) + i, 9) (by rw [HNO.out, hfi]; simp [HMF.out]))
        have n9 : w9.cell? ⟨bn, 0, none⟩ = some (.int .i64 (m : Int)) := (HB9.out.cell (p := ⟨bn, 0, none⟩) hnl4).trans n4
        have hn9 := Nat.lt_of_lt_of_le hnl4 HB9.out.size
        have t7 := t2n
        rw [decide_eq_false_iff_not] at t7
        have t8 := t4n
        rw [decide_eq_false_iff_not] at t8
        have v1 : IntKind.i64.wrap ((m : Int) + (i : Int)) = (m : Int) + (i : Int) := IntWalk.i64_in _ (by omega)
        clear hcb hfi t7 t8
        go_wp2_with fail
        go_ret2
        exact ⟨by rw [HR.out] <;> rfl, HB4.out.trans (HB9.out.mono hz4)⟩
      · have HCB := Lib.hid hcb
        clear hcb
        go_wp2_with fail
        go_roundw
        case rel => exact ⟨i + 1, by go_num, by omega, fun k hk hki => by
         by_cases e : k = i
         · subst e; rw [← HY.out]; exact HCB.out
         · exact HALL.out k hk (by omega), HB9.out⟩
        case measure => simp [intOf] <;> omega
    · have hie : i = p.acts.length := by omega
      have hfi : p.acts.findIdx? (fun a => !actB a) = none := by
       rw [List.findIdx?_eq_none_iff]
       intro x hx
       obtain ⟨j, hj, rfl⟩ := List.getElem_of_mem hx
       simp [HALL.out j hj (by omega)]
      have HR := Lib.hid (HGOOD.out (-1, 0) (by rw [HNO.out, hfi]))
      subst hie
      clear hfi
      go_wp2_with fail
      go_ret2
      exact ⟨by rw [HR.out] <;> rfl, HB4.out.trans (HBr.out.mono hz4)⟩
end Go.Proofs.YtpndmjabjjbefaaGreat
namespace Go.Proofs.YtpndmjabjjbefaaGreat
open Go.RowKit Go.Shelf
attribute [local go_sem] Oper.semAt_some
theorem info_Bind : (Tryz.prog.info? 36).map (fun i => (i.zero, i.size, i.bytes)) = some (some (.agg #[.string ⟨#[]⟩, .int .i64 0, .string ⟨#[]⟩, .int .i64 0]), 4, 48) := by kernel_rfl
theorem bind_one (l : List BindT) : ∀ u ∈ l.flatMap BindT.cells, u.oneCell' = true := by
 intro u hu
 obtain ⟨b, _, hb⟩ := List.mem_flatMap.1 hu
 simp only [BindT.cells, List.mem_cons, List.not_mem_nil, or_false] at hb
 rcases hb with rfl | rfl | rfl | rfl <;> rfl
theorem news_alloc {Y : World} {t : TypeId} {cs : List Value} {k : Nat} (hk : Y.heap.size = k) : ∀ (j : Nat) (u : Value), cs[j]? = some u → (Y.alloc (.cells cs.toArray t)).cell? ((⟨k, 0, none⟩ : Addr).add j) = some u := by
 subst hk
 exact World.news_of_block (heap_alloc_new _ _)
theorem plus_new {E : Nat → Prop} {X Y : World} {k : Nat} (h1 : X.heap.size ≤ k) (h2 : k < Y.heap.size) : Plus E X Y k := .inr ⟨h1, h2⟩
set_option maxRecDepth 100000 in
set_option maxHeartbeats 16000000 in
theorem newsI_is {D : Nat → Prop} (l : List BindT) (p : ProdT) (kb kp : Nat) (Al A1 A2 : Option Addr) (cl c1 c2 : Nat) (W : World)
 (hkb : Blk W kb 28 #[.slice Al l.length cl]) (hkp : Blk W kp 42 #[.string p.name, .slice A1 p.conds.length c1, .slice A2 p.acts.length c2]) (hDb : D kb) (hDp : D kp)
 (h1 : RowR repBindT D W Al cl l) (h2 : RowR repActT D W A2 c2 p.acts) (hl1 : l.length ≤ 1000) (hl2 : p.acts.length ≤ 1000) :
 IterO Tryz.prog 48 #[.pointer (some ⟨kb, 0, none⟩), .pointer (some ⟨kp, 0, none⟩)] encStr (newsV l (p.acts.flatMap needsA)) W D := by
 intro lo J Jx hJ hJx h0 hY
 obtain ⟨i0, hi0, hz0, hz1, hz2⟩ := info_parts info_Bind
 have HKB := Lib.hid hkb
 have HKP := Lib.hid hkp
 have HJ := Lib.hid hJ
 have HY := Lib.hid hY
 have H1 := Lib.hid h1
 have H2 := Lib.hid h2
 have HDB := Lib.hid hDb
 have HDP := Lib.hid hDp
 have HI := Lib.hid (ItSt.start h0)
 have b0 : W.cell? ⟨kb, 0, none⟩ = some (.slice Al l.length cl) := (hkb.cell 0).trans rfl
 have bz := hkb.lt
 have hlc := h1.cap
 have hac := h2.cap
 obtain ⟨F, hF⟩ : ∃ F, F = newsV l (p.acts.flatMap needsA) := ⟨_, rfl⟩
 rw [← hF] at HY ⊢
 have HF := Lib.hid hF
 clear hkb hkp hJ hJx h0 hY h1 h2 hDb hDp hF
 refine callsIn_of_wp Tryz.func48 rfl trivial ?_
 simp only [Tryz.ntmps48, List.size_toArray, List.length_cons, List.length_nil, Nat.reduceAdd, Nat.reduceSub, Array.replicate_succ, Array.replicate_zero, List.push_toArray, List.append_toArray, List.nil_append, List.cons_append]
 gi_wp2_with (gi_at_builtin; refine wpListIn_app W rfl (.const (.slice none 0 0)) (.tmp 12) 28 rfl 36 i0 _ 4 48 Tryz.underlying28 hi0 hz0 hz1 hz2 rfl (by decide) (.slice none 0 0) 0 [] rfl (owns_nil _ _ _ _) Al l.length cl (l.flatMap BindT.cells) rfl (flat_length BindT.cells_length l) (H1.out.rd.news BindT.cells_length (by decide)) (bind_one l) (by unfold maxLen; omega) (by omega) ?_; intro v' w4 hown hg hnil hat; obtain ⟨A0, c0, rfl, hF0, hA0, hO0⟩ := grown_own (E := fun _ => False) (AIn.none_ _) hown hg hat; rw [Nat.zero_add, List.nil_append] at hO0; simp only [Nat.zero_add]; have hkp0 := HKP.out.fr hF0 (fun h => h); have p2 := (hkp0.cell 2).trans rfl; have pz := hkp0.lt; have HO := Lib.hid hO0; have HA := Lib.hid hA0; have HI := Lib.hid (HI.out.step HJ.out hF0); clear hown hg hnil hat hF0 hA0 hO0 hkp0)
 gi_loopw [4, 17] (fun s t wr => ∃ (i : Nat) (E : Nat → Prop) (pre : List ByteArray) (h : List BindT) (A : Option Addr) (c : Nat), t = .int .i64 i ∧ s = .slice A h.length c ∧ i ≤ p.acts.length ∧ h.length ≤ l.length + 3 * i ∧ F = pre ++ newsV h ((p.acts.drop i).flatMap needsA) ∧ ItSt J D E W pre wr ∧ AIn A E ∧ wr.ownsRow 0 36 4 (.slice A h.length c) h.length (h.flatMap BindT.cells)) (fun s t wr => p.acts.length - (intOf t).toNat)
 case atStart => exact ⟨0, _, [], l, A0, c0, rfl, rfl, Nat.zero_le _, by omega, by rw [HF.out]; rfl, HI.out, HA.out, HO.out⟩
 case round =>
  obtain ⟨i, E, pre, h, A, c, rfl, rfl, hi, hh, hf, hit, hA, hO⟩ := hrel
  have HF1 := Lib.hid hf
  have HI1 := Lib.hid hit
  have HA1 := Lib.hid hA
  have HO1 := Lib.hid hO
  clear hf hit hA hO p2 pz b0 bz
  by_cases hlt : i < p.acts.length
  · obtain ⟨y, hy⟩ : ∃ y, y = p.acts[i] := ⟨_, rfl⟩
    have h2r := H2.out.fr HI1.out.fr (fun k hk hn => hn hk)
    obtain ⟨gg, oo, hAA, _, hgg, _⟩ := at_ActT h2r hlt
    have hRG : wr.rangeAt gg (oo + i * 19) [.string y.id, .string y.attr.var, .int .i64 y.attr.sym.kind, .string y.attr.sym.text, .int .i64 y.attr.sym.n, .int .i64 y.value.op, .string y.value.a.var, .int .i64 y.value.a.sym.kind, .string y.value.a.sym.text, .int .i64 y.value.a.sym.n, .string y.value.b.var, .int .i64 y.value.b.sym.kind, .string y.value.b.sym.text, .int .i64 y.value.b.sym.n, .int .i64 y.pref, .string y.other.var, .int .i64 y.other.sym.kind, .string y.other.sym.text, .int .i64 y.other.sym.n] := fun j v hv => by
     obtain ⟨g', off', cs, e1, _, _, hr, hc⟩ := h2r.at_ hlt
     rw [hAA] at e1
     cases e1
     have hr2 : cs = ActT.cells p.acts[i] := hr
     subst hr2
     rw [← hy] at hc
     exact hc j v hv
    have HRG := Lib.hid hRG
    have hdr : (p.acts.drop i).flatMap needsA = needsA y ++ (p.acts.drop (i + 1)).flatMap needsA := by rw [List.drop_eq_getElem_cons hlt, List.flatMap_cons, ← hy]
    have HDR := Lib.hid hdr
    subst hAA
    have b1 : (0 : Int) ≤ (i : Int) := by omega
    have b2 : (i : Int) < (p.acts.length : Int) := by omega
    obtain ⟨W6, hW6, hth, hrg, hb6, hz6⟩ := kept_new (w := wr) (t := 65) [.string ⟨#[]⟩, .string ⟨#[]⟩, .int .i64 0, .string ⟨#[]⟩, .int .i64 0, .int .i64 0, .string ⟨#[]⟩, .int .i64 0, .string ⟨#[]⟩, .int .i64 0, .string ⟨#[]⟩, .int .i64 0, .string ⟨#[]⟩, .int .i64 0, .int .i64 0, .string ⟨#[]⟩, .int .i64 0, .string ⟨#[]⟩, .int .i64 0] [.string y.id, .string y.attr.var, .int .i64 y.attr.sym.kind, .string y.attr.sym.text, .int .i64 y.attr.sym.n, .int .i64 y.value.op, .string y.value.a.var, .int .i64 y.value.a.sym.kind, .string y.value.a.sym.text, .int .i64 y.value.a.sym.n, .string y.value.b.var, .int .i64 y.value.b.sym.kind, .string y.value.b.sym.text, .int .i64 y.value.b.sym.n, .int .i64 y.pref, .string y.other.var, .int .i64 y.other.sym.kind, .string y.other.sym.text, .int .i64 y.other.sym.n] rfl
    have HW6 := Lib.hid hW6
    have HTH := Lib.hid hth
    have e0 : W6.cell? ⟨wr.heap.size, 0, none⟩ = some (.string y.id) := hrg 0 _ rfl
    have e5 : W6.cell? ⟨wr.heap.size, 5, none⟩ = some (.int .i64 y.value.op) := hrg 5 _ rfl
    have e6 : W6.cell? ⟨wr.heap.size, 6, none⟩ = some (.string y.value.a.var) := hrg 6 _ rfl
    have e15 : W6.cell? ⟨wr.heap.size, 15, none⟩ = some (.string y.other.var) := hrg 15 _ rfl
    have hlo6 : wr.heap.size < W6.heap.size := by omega
    have HI6 := Lib.hid (HI1.out.new_ HJ.out hb6)
    have HO6 := Lib.hid (ownsRow_new HO1.out hb6)
    have HB6 := Lib.hid hb6
    clear hW6 hth hrg hb6 hdr hRG hy h2r hz6
    by_cases hop : y.value.op = 0
    · have o1 : (y.value.op == 0) = true := by simp [hop]
      have o2 : decide (y.value.op = 0) = true := by simp [hop]
      have hne : needsA y = [y.id, y.value.a.var, y.other.var] := by simp [needsA, hop]
      have HN := Lib.hid hne
      clear hop hne
      obtain ⟨n1, hn1⟩ : ∃ n, n = y.value.a.var := ⟨_, rfl⟩
      rw [← hn1] at HN
      have HN1 := Lib.hid hn1
      clear hn1
      gi_wp2_with (first
       | (with_reducible refine wpListIn_load_mid rfl 65 _ rfl gg (oo + i * 19) rfl [.string y.id, .string y.attr.var, .int .i64 y.attr.sym.kind, .string y.attr.sym.text, .int .i64 y.attr.sym.n, .int .i64 y.value.op, .string y.value.a.var, .int .i64 y.value.a.sym.kind, .string y.value.a.sym.text, .int .i64 y.value.a.sym.n, .string y.value.b.var, .int .i64 y.value.b.sym.kind, .string y.value.b.sym.text, .int .i64 y.value.b.sym.n, .int .i64 y.pref, .string y.other.var, .int .i64 y.other.sym.kind, .string y.other.sym.text, .int .i64 y.other.sym.n] _ HRG.out Tryz.underlying65 rfl (by kernel_rfl) ?_)
       | ((with_reducible refine wpListIn_store_mid rfl 65 _ _ rfl wr.heap.size 0 #[.string y.id, .string y.attr.var, .int .i64 y.attr.sym.kind, .string y.attr.sym.text, .int .i64 y.attr.sym.n, .int .i64 y.value.op, .string y.value.a.var, .int .i64 y.value.a.sym.kind, .string y.value.a.sym.text, .int .i64 y.value.a.sym.n, .string y.value.b.var, .int .i64 y.value.b.sym.kind, .string y.value.b.sym.text, .int .i64 y.value.b.sym.n, .int .i64 y.pref, .string y.other.var, .int .i64 y.other.sym.kind, .string y.other.sym.text, .int .i64 y.other.sym.n] rfl rfl HTH.out (by kernel_rfl) (by kernel_rfl) ?_); rw [← HW6.out]))
      rw [← HN1.out]
      gi_loopw [4, 39] (fun s t wr => ∃ (j : Nat) (E : Nat → Prop) (pre : List ByteArray) (h : List BindT) (A : Option Addr) (c : Nat), t = .int .i64 j ∧ s = .slice A h.length c ∧ j ≤ 3 ∧ h.length ≤ l.length + 3 * i + j ∧ F = pre ++ newsV h ((needsA y).drop j ++ (p.acts.drop (i + 1)).flatMap needsA) ∧ ItSt J D E W pre wr ∧ AIn A E ∧ wr.ownsRow 0 36 4 (.slice A h.length c) h.length (h.flatMap BindT.cells) ∧ E W6.heap.size ∧ Blk wr W6.heap.size 9 #[.string y.id, .string n1, .string y.other.var]) (fun s t wr => 3 - (intOf t).toNat)
      case atStart =>
       first
       | exact ⟨0, _, pre, h, A, c, rfl, rfl, by omega, by omega, by rw [HF1.out, HDR.out, List.drop_zero], HI6.out.new_ HJ.out (show Below W6.heap.size W6 _ from (by (repeat (first | exact Below.refl _ _ | refine Below.drew ?_ | refine Below.al ?_ _ | refine Below.sc ?_ _)))), HA1.out.mono (fun k hk => .inl (.inl hk)), ownsRow_new HO6.out (by (repeat (first | exact Below.refl _ _ | refine Below.drew ?_ | refine Below.al ?_ _ | refine Below.sc ?_ _))), plus_new (Nat.le_refl _) (by simp), Blk.new _ _ _⟩
       | (have hNN := HN1.out; subst hNN; exact ⟨0, _, pre, h, A, c, rfl, rfl, by omega, by omega, by rw [HF1.out, HDR.out, List.drop_zero], HI6.out.new_ HJ.out (show Below W6.heap.size W6 _ from (by (repeat (first | exact Below.refl _ _ | refine Below.drew ?_ | refine Below.al ?_ _ | refine Below.sc ?_ _)))), HA1.out.mono (fun k hk => .inl (.inl hk)), ownsRow_new HO6.out (by (repeat (first | exact Below.refl _ _ | refine Below.drew ?_ | refine Below.al ?_ _ | refine Below.sc ?_ _))), plus_new (Nat.le_refl _) (by simp), Blk.new _ _ _⟩)
      case round =>
       obtain ⟨j, E2, pre2, h2, A2, c2, rfl, rfl, hj, hh2, hf2, hit2, hA2, hO2, hE2, hB2⟩ := hrel
       have HF2 := Lib.hid hf2
       have HI2 := Lib.hid hit2
       have HA2 := Lib.hid hA2
       have HO2 := Lib.hid hO2
       have HE2 := Lib.hid hE2
       have HB2 := Lib.hid hB2
       have hlo2 := hB2.lt
       clear hf2 hit2 hA2 hO2 hE2 e0 e5 e6 e15
       by_cases hjt : j < 3
       · obtain ⟨v, hv1, hv2⟩ : ∃ v, (needsA y).drop j = v :: (needsA y).drop (j + 1) ∧ (#[.string y.id, .string n1, .string y.other.var] : Array Value)[j]? = some (.string v) := by
          rw [HN.out]
          match j, hjt with
          | 0, _ => exact ⟨_, rfl, rfl⟩
          | 1, _ => exact ⟨_, rfl, rfl⟩
          | 2, _ => exact ⟨_, rfl, rfl⟩
         have q0 : wr.cell? ⟨W6.heap.size, j, none⟩ = some (.string v) := (hB2.cell j).trans hv2
         have HV1 := Lib.hid hv1
         have b3 : (0 : Int) ≤ (j : Int) := by omega
         have b4 : (j : Int) < 3 := by omega
         obtain ⟨⟨gs, gb⟩, hgb⟩ : ∃ r, r = getB h2 v := ⟨_, rfl⟩
         have hget := fun X (hb : Below wr.heap.size wr X) => get_is (D := fun _ => True) (A := A2) (c := c2) h2 v X (RowR.of_rd (ownsRow_rd BindT.cells_length (ownsRow_new HO2.out hb)) (fun _ _ => trivial))
         simp only [← hgb] at hget
         have HGET := Lib.hid hget
         have HGB := Lib.hid hgb
         clear hv1 hv2 hB2 hgb hget
         cases gb with
         | true =>
           have HS := Lib.hid (show newsV h2 ((needsA y).drop j ++ (p.acts.drop (i + 1)).flatMap needsA) = newsV h2 ((needsA y).drop (j + 1) ++ (p.acts.drop (i + 1)).flatMap needsA) by rw [HV1.out, List.cons_append, newsV_skip (.inl (by rw [← HGB.out]))])
           gi_wp2_with fail
           refine ⟨trivial, rfl, ?_⟩
           refine (callsIn_wide.2 (HGET.out _ (Below.refl _ _))).mono ?_
           rintro e w5 ⟨rfl, hb5⟩
           have HB5 := Lib.hid hb5
           clear hb5 q0
           gi_wp2_with fail
           go_roundw
           case rel =>
            have hbz : Below wr.heap.size wr (w5.alloc (.cells #[.int .i64 gs.kind, .string gs.text, .int .i64 gs.n] 23)) := HB5.out.alloc HB5.out.size _
            exact ⟨j + 1, _, pre2, h2, A2, c2, by go_num, rfl, by omega, by omega, by rw [HF2.out, HS.out], HI2.out.new_ HJ.out hbz, HA2.out.mono (fun k hk => .inl hk), ownsRow_new HO2.out hbz, .inl HE2.out, HB2.out.new_ hbz⟩
           case measure => simp [intOf] <;> omega
         | false =>
           by_cases hve : v.toList = []
           · have v1 : (v.toList == []) = true := by simp [hve]
             have v2 : v.toList.isEmpty = true := by simp [hve]
             have v3 : decide (v.toList = []) = true := by simp [hve]
             have HS := Lib.hid (show newsV h2 ((needsA y).drop j ++ (p.acts.drop (i + 1)).flatMap needsA) = newsV h2 ((needsA y).drop (j + 1) ++ (p.acts.drop (i + 1)).flatMap needsA) by rw [HV1.out, List.cons_append, newsV_skip (.inr hve)])
             clear hve
             gi_wp2_with fail
             refine ⟨trivial, rfl, ?_⟩
             refine (callsIn_wide.2 (HGET.out _ (Below.refl _ _))).mono ?_
             rintro e w5 ⟨rfl, hb5⟩
             have HB5 := Lib.hid hb5
             clear hb5 q0
             gi_wp2_with fail
             go_roundw
             case rel =>
              have hbz : Below wr.heap.size wr (w5.alloc (.cells #[.int .i64 gs.kind, .string gs.text, .int .i64 gs.n] 23)) := HB5.out.alloc HB5.out.size _
              exact ⟨j + 1, _, pre2, h2, A2, c2, by go_num, rfl, by omega, by omega, by rw [HF2.out, HS.out], HI2.out.new_ HJ.out hbz, HA2.out.mono (fun k hk => .inl hk), ownsRow_new HO2.out hbz, .inl HE2.out, HB2.out.new_ hbz⟩
             case measure => simp [intOf] <;> omega
           · have v1 : (v.toList == []) = false := by simp [hve]
             have v2 : v.toList.isEmpty = false := by simp [hve]
             have v3 : decide (v.toList = []) = false := by simp [hve]
             have HS := Lib.hid (show newsV h2 ((needsA y).drop j ++ (p.acts.drop (i + 1)).flatMap needsA) = v :: newsV (h2 ++ [mkB v]) ((needsA y).drop (j + 1) ++ (p.acts.drop (i + 1)).flatMap needsA) by rw [HV1.out, List.cons_append, newsV_take (by rw [← HGB.out]) hve])
             clear hve
             gi_wp2_with fail
             refine ⟨trivial, rfl, ?_⟩
             refine (callsIn_wide.2 (HGET.out _ (Below.refl _ _))).mono ?_
             rintro e w5 ⟨rfl, hb5⟩
             have HB5 := Lib.hid hb5
             have hz5 := hb5.size
             clear hb5 q0
             obtain ⟨X, hX⟩ : ∃ X, X = (w5.alloc (.cells #[.int .i64 gs.kind, .string gs.text, .int .i64 gs.n] 23)).alloc (.cells #[.string v, .int .i64 0, .string ⟨#[]⟩, .int .i64 0] 36) := ⟨_, rfl⟩
             have HX := Lib.hid hX
             have hbX : Below wr.heap.size wr X := by rw [hX]; exact (HB5.out.alloc hz5 _).alloc (by simp; omega) _
             have HIX := Lib.hid (HI2.out.new_ HJ.out hbX)
             have HOX := Lib.hid (ownsRow_new HO2.out hbX)
             have HBX := Lib.hid hbX
             have HAX := Lib.hid (HA2.out.mono (fun k hk => (.inl hk : Plus E2 wr X k)))
             have HNX := Lib.hid (show ∀ (j : Nat) (u : Value), (BindT.cells (mkB v))[j]? = some u → X.cell? ((⟨w5.heap.size + 1, 0, none⟩ : Addr).add j) = some u by rw [hX]; exact news_alloc (by simp))
             clear hX hbX
             gi_wp2_with (gi_at_builtin; rw [← HX.out]; refine wpListIn_app X rfl (.tmp 54) (.tmp 57) 28 rfl 36 i0 _ 4 48 Tryz.underlying28 hi0 hz0 hz1 hz2 rfl (by decide) _ h2.length (h2.flatMap BindT.cells) rfl HOX.out _ 1 1 (BindT.cells (mkB v)) rfl rfl (fun _ => ⟨_, rfl, HNX.out⟩) (by intro u hu; simp only [BindT.cells, List.mem_cons, List.not_mem_nil, or_false] at hu; rcases hu with rfl | rfl | rfl | rfl <;> rfl) (by unfold maxLen; omega) (by omega) ?_; intro v' w6 hown hg hnil hat; obtain ⟨A3, c3, rfl, hF3, hA3, hO3⟩ := grown_own HAX.out hown hg hat; have HO3 := Lib.hid hO3; have HA3 := Lib.hid hA3; have HF3 := Lib.hid hF3; have HI3 := Lib.hid (HIX.out.step HJ.out hF3); have HB3 := Lib.hid ((HB2.out.new_ HBX.out).grown hg (own_blk_ne HOX.out (HB2.out.new_ HBX.out) (by decide))); obtain ⟨fn, tmps, assign, body, hy, hR⟩ := HI3.out.round HY.out (show F = pre2 ++ v :: newsV (h2 ++ [mkB v]) ((needsA y).drop (j + 1) ++ (p.acts.drop (i + 1)).flatMap needsA) from by rw [HF2.out, HS.out]); dsimp only [encStr] at hy; have HRR := Lib.hid hR; clear hR hown hg hnil hat hF3 hA3 hO3)
             refine ⟨rfl, HRR.out.mono ?_⟩
             rintro e W3 (⟨rfl, hI4, hk4⟩ | ⟨rfl, hT, -⟩)
             · have HI4 := Lib.hid hI4
               have HK4 := Lib.hid hk4
               clear hI4 hk4 hy
               gi_wp2_with fail
               go_roundw
               case rel =>
                have e1 : h2.length + 1 = (h2 ++ [mkB v]).length := by simp
                have e2 : h2.flatMap BindT.cells ++ BindT.cells (mkB v) = (h2 ++ [mkB v]).flatMap BindT.cells := by simp
                have hO4 := ownsRow_fr HO3.out HK4.out (fun g hg hn => hn (.inr (by
                 rcases A3 with _ | a
                 · simp [Value.ownBlock] at hg
                 · have e : a.block = g := by simpa [Value.ownBlock] using hg
                   exact e ▸ HA3.out a rfl)))
                rw [e1, e2] at hO4
                exact ⟨j + 1, _, pre2 ++ [v], h2 ++ [mkB v], A3, c3, by go_num, by rw [← e1], by omega, by simp; omega, by rw [HF2.out, HS.out]; simp, HI4.out, HA3.out, hO4, .inl (.inl HE2.out), HB3.out.fr HK4.out (fun hn => hn (.inr (.inl (.inl HE2.out))))⟩
               case measure => simp [intOf] <;> omega
             · have HT := Lib.hid hT
               clear hT hy
               gi_wp2_with fail
               refine bodyPost_ret (results_none rfl _ _ _) rfl ?_
               exact ⟨⟨_, rfl⟩, HT.out⟩
       · have hje : j = 3 := by omega
         subst hje
         gi_wp2_with fail
         go_roundw
         case rel => exact ⟨i + 1, E2, pre2, h2, A2, c2, by go_num, rfl, by omega, by omega, by rw [HF2.out, HN.out]; rfl, HI2.out, HA2.out, HO2.out⟩
         case measure => simp [intOf] <;> omega
    · have o1 : (y.value.op == 0) = false := by simp [hop]
      have o2 : decide (y.value.op = 0) = false := by simp [hop]
      have hne : needsA y = [y.id, ⟨#[]⟩, y.other.var] := by simp [needsA, hop]
      have HN := Lib.hid hne
      clear hop hne
      obtain ⟨n1, hn1⟩ : ∃ n, n = (⟨#[]⟩ : ByteArray) := ⟨_, rfl⟩
      rw [← hn1] at HN
      have HN1 := Lib.hid hn1
      clear hn1
      gi_wp2_with (first
       | (with_reducible refine wpListIn_load_mid rfl 65 _ rfl gg (oo + i * 19) rfl [.string y.id, .string y.attr.var, .int .i64 y.attr.sym.kind, .string y.attr.sym.text, .int .i64 y.attr.sym.n, .int .i64 y.value.op, .string y.value.a.var, .int .i64 y.value.a.sym.kind, .string y.value.a.sym.text, .int .i64 y.value.a.sym.n, .string y.value.b.var, .int .i64 y.value.b.sym.kind, .string y.value.b.sym.text, .int .i64 y.value.b.sym.n, .int .i64 y.pref, .string y.other.var, .int .i64 y.other.sym.kind, .string y.other.sym.text, .int .i64 y.other.sym.n] _ HRG.out Tryz.underlying65 rfl (by kernel_rfl) ?_)
       | ((with_reducible refine wpListIn_store_mid rfl 65 _ _ rfl wr.heap.size 0 #[.string y.id, .string y.attr.var, .int .i64 y.attr.sym.kind, .string y.attr.sym.text, .int .i64 y.attr.sym.n, .int .i64 y.value.op, .string y.value.a.var, .int .i64 y.value.a.sym.kind, .string y.value.a.sym.text, .int .i64 y.value.a.sym.n, .string y.value.b.var, .int .i64 y.value.b.sym.kind, .string y.value.b.sym.text, .int .i64 y.value.b.sym.n, .int .i64 y.pref, .string y.other.var, .int .i64 y.other.sym.kind, .string y.other.sym.text, .int .i64 y.other.sym.n] rfl rfl HTH.out (by kernel_rfl) (by kernel_rfl) ?_); rw [← HW6.out]))
      gi_loopw [4, 39] (fun s t wr => ∃ (j : Nat) (E : Nat → Prop) (pre : List ByteArray) (h : List BindT) (A : Option Addr) (c : Nat), t = .int .i64 j ∧ s = .slice A h.length c ∧ j ≤ 3 ∧ h.length ≤ l.length + 3 * i + j ∧ F = pre ++ newsV h ((needsA y).drop j ++ (p.acts.drop (i + 1)).flatMap needsA) ∧ ItSt J D E W pre wr ∧ AIn A E ∧ wr.ownsRow 0 36 4 (.slice A h.length c) h.length (h.flatMap BindT.cells) ∧ E W6.heap.size ∧ Blk wr W6.heap.size 9 #[.string y.id, .string n1, .string y.other.var]) (fun s t wr => 3 - (intOf t).toNat)
      case atStart =>
       first
       | exact ⟨0, _, pre, h, A, c, rfl, rfl, by omega, by omega, by rw [HF1.out, HDR.out, List.drop_zero], HI6.out.new_ HJ.out (show Below W6.heap.size W6 _ from (by (repeat (first | exact Below.refl _ _ | refine Below.drew ?_ | refine Below.al ?_ _ | refine Below.sc ?_ _)))), HA1.out.mono (fun k hk => .inl (.inl hk)), ownsRow_new HO6.out (by (repeat (first | exact Below.refl _ _ | refine Below.drew ?_ | refine Below.al ?_ _ | refine Below.sc ?_ _))), plus_new (Nat.le_refl _) (by simp), Blk.new _ _ _⟩
       | (have hNN := HN1.out; subst hNN; exact ⟨0, _, pre, h, A, c, rfl, rfl, by omega, by omega, by rw [HF1.out, HDR.out, List.drop_zero], HI6.out.new_ HJ.out (show Below W6.heap.size W6 _ from (by (repeat (first | exact Below.refl _ _ | refine Below.drew ?_ | refine Below.al ?_ _ | refine Below.sc ?_ _)))), HA1.out.mono (fun k hk => .inl (.inl hk)), ownsRow_new HO6.out (by (repeat (first | exact Below.refl _ _ | refine Below.drew ?_ | refine Below.al ?_ _ | refine Below.sc ?_ _))), plus_new (Nat.le_refl _) (by simp), Blk.new _ _ _⟩)
      case round =>
       obtain ⟨j, E2, pre2, h2, A2, c2, rfl, rfl, hj, hh2, hf2, hit2, hA2, hO2, hE2, hB2⟩ := hrel
       have HF2 := Lib.hid hf2
       have HI2 := Lib.hid hit2
       have HA2 := Lib.hid hA2
       have HO2 := Lib.hid hO2
       have HE2 := Lib.hid hE2
       have HB2 := Lib.hid hB2
       have hlo2 := hB2.lt
       clear hf2 hit2 hA2 hO2 hE2 e0 e5 e6 e15
       by_cases hjt : j < 3
       · obtain ⟨v, hv1, hv2⟩ : ∃ v, (needsA y).drop j = v :: (needsA y).drop (j + 1) ∧ (#[.string y.id, .string n1, .string y.other.var] : Array Value)[j]? = some (.string v) := by
          rw [HN.out]
          match j, hjt with
          | 0, _ => exact ⟨_, rfl, rfl⟩
          | 1, _ => exact ⟨_, rfl, rfl⟩
          | 2, _ => exact ⟨_, rfl, rfl⟩
         have q0 : wr.cell? ⟨W6.heap.size, j, none⟩ = some (.string v) := (hB2.cell j).trans hv2
         have HV1 := Lib.hid hv1
         have b3 : (0 : Int) ≤ (j : Int) := by omega
         have b4 : (j : Int) < 3 := by omega
         obtain ⟨⟨gs, gb⟩, hgb⟩ : ∃ r, r = getB h2 v := ⟨_, rfl⟩
         have hget := fun X (hb : Below wr.heap.size wr X) => get_is (D := fun _ => True) (A := A2) (c := c2) h2 v X (RowR.of_rd (ownsRow_rd BindT.cells_length (ownsRow_new HO2.out hb)) (fun _ _ => trivial))
         simp only [← hgb] at hget
         have HGET := Lib.hid hget
         have HGB := Lib.hid hgb
         clear hv1 hv2 hB2 hgb hget
         cases gb with
         | true =>
           have HS := Lib.hid (show newsV h2 ((needsA y).drop j ++ (p.acts.drop (i + 1)).flatMap needsA) = newsV h2 ((needsA y).drop (j + 1) ++ (p.acts.drop (i + 1)).flatMap needsA) by rw [HV1.out, List.cons_append, newsV_skip (.inl (by rw [← HGB.out]))])
           gi_wp2_with fail
           refine ⟨trivial, rfl, ?_⟩
           refine (callsIn_wide.2 (HGET.out _ (Below.refl _ _))).mono ?_
           rintro e w5 ⟨rfl, hb5⟩
           have HB5 := Lib.hid hb5
           clear hb5 q0
           gi_wp2_with fail
           go_roundw
           case rel =>
            have hbz : Below wr.heap.size wr (w5.alloc (.cells #[.int .i64 gs.kind, .string gs.text, .int .i64 gs.n] 23)) := HB5.out.alloc HB5.out.size _
            exact ⟨j + 1, _, pre2, h2, A2, c2, by go_num, rfl, by omega, by omega, by rw [HF2.out, HS.out], HI2.out.new_ HJ.out hbz, HA2.out.mono (fun k hk => .inl hk), ownsRow_new HO2.out hbz, .inl HE2.out, HB2.out.new_ hbz⟩
           case measure => simp [intOf] <;> omega
         | false =>
           by_cases hve : v.toList = []
           · have v1 : (v.toList == []) = true := by simp [hve]
             have v2 : v.toList.isEmpty = true := by simp [hve]
             have v3 : decide (v.toList = []) = true := by simp [hve]
             have HS := Lib.hid (show newsV h2 ((needsA y).drop j ++ (p.acts.drop (i + 1)).flatMap needsA) = newsV h2 ((needsA y).drop (j + 1) ++ (p.acts.drop (i + 1)).flatMap needsA) by rw [HV1.out, List.cons_append, newsV_skip (.inr hve)])
             clear hve
             gi_wp2_with fail
             refine ⟨trivial, rfl, ?_⟩
             refine (callsIn_wide.2 (HGET.out _ (Below.refl _ _))).mono ?_
             rintro e w5 ⟨rfl, hb5⟩
             have HB5 := Lib.hid hb5
             clear hb5 q0
             gi_wp2_with fail
             go_roundw
             case rel =>
              have hbz : Below wr.heap.size wr (w5.alloc (.cells #[.int .i64 gs.kind, .string gs.text, .int .i64 gs.n] 23)) := HB5.out.alloc HB5.out.size _
              exact ⟨j + 1, _, pre2, h2, A2, c2, by go_num, rfl, by omega, by omega, by rw [HF2.out, HS.out], HI2.out.new_ HJ.out hbz, HA2.out.mono (fun k hk => .inl hk), ownsRow_new HO2.out hbz, .inl HE2.out, HB2.out.new_ hbz⟩
             case measure => simp [intOf] <;> omega
           · have v1 : (v.toList == []) = false := by simp [hve]
             have v2 : v.toList.isEmpty = false := by simp [hve]
             have v3 : decide (v.toList = []) = false := by simp [hve]
             have HS := Lib.hid (show newsV h2 ((needsA y).drop j ++ (p.acts.drop (i + 1)).flatMap needsA) = v :: newsV (h2 ++ [mkB v]) ((needsA y).drop (j + 1) ++ (p.acts.drop (i + 1)).flatMap needsA) by rw [HV1.out, List.cons_append, newsV_take (by rw [← HGB.out]) hve])
             clear hve
             gi_wp2_with fail
             refine ⟨trivial, rfl, ?_⟩
             refine (callsIn_wide.2 (HGET.out _ (Below.refl _ _))).mono ?_
             rintro e w5 ⟨rfl, hb5⟩
             have HB5 := Lib.hid hb5
             have hz5 := hb5.size
             clear hb5 q0
             obtain ⟨X, hX⟩ : ∃ X, X = (w5.alloc (.cells #[.int .i64 gs.kind, .string gs.text, .int .i64 gs.n] 23)).alloc (.cells #[.string v, .int .i64 0, .string ⟨#[]⟩, .int .i64 0] 36) := ⟨_, rfl⟩
             have HX := Lib.hid hX
             have hbX : Below wr.heap.size wr X := by rw [hX]; exact (HB5.out.alloc hz5 _).alloc (by simp; omega) _
             have HIX := Lib.hid (HI2.out.new_ HJ.out hbX)
             have HOX := Lib.hid (ownsRow_new HO2.out hbX)
             have HBX := Lib.hid hbX
             have HAX := Lib.hid (HA2.out.mono (fun k hk => (.inl hk : Plus E2 wr X k)))
             have HNX := Lib.hid (show ∀ (j : Nat) (u : Value), (BindT.cells (mkB v))[j]? = some u → X.cell? ((⟨w5.heap.size + 1, 0, none⟩ : Addr).add j) = some u by rw [hX]; exact news_alloc (by simp))
             clear hX hbX
             gi_wp2_with (gi_at_builtin; rw [← HX.out]; refine wpListIn_app X rfl (.tmp 54) (.tmp 57) 28 rfl 36 i0 _ 4 48 Tryz.underlying28 hi0 hz0 hz1 hz2 rfl (by decide) _ h2.length (h2.flatMap BindT.cells) rfl HOX.out _ 1 1 (BindT.cells (mkB v)) rfl rfl (fun _ => ⟨_, rfl, HNX.out⟩) (by intro u hu; simp only [BindT.cells, List.mem_cons, List.not_mem_nil, or_false] at hu; rcases hu with rfl | rfl | rfl | rfl <;> rfl) (by unfold maxLen; omega) (by omega) ?_; intro v' w6 hown hg hnil hat; obtain ⟨A3, c3, rfl, hF3, hA3, hO3⟩ := grown_own HAX.out hown hg hat; have HO3 := Lib.hid hO3; have HA3 := Lib.hid hA3; have HF3 := Lib.hid hF3; have HI3 := Lib.hid (HIX.out.step HJ.out hF3); have HB3 := Lib.hid ((HB2.out.new_ HBX.out).grown hg (own_blk_ne HOX.out (HB2.out.new_ HBX.out) (by decide))); obtain ⟨fn, tmps, assign, body, hy, hR⟩ := HI3.out.round HY.out (show F = pre2 ++ v :: newsV (h2 ++ [mkB v]) ((needsA y).drop (j + 1) ++ (p.acts.drop (i + 1)).flatMap needsA) from by rw [HF2.out, HS.out]); dsimp only [encStr] at hy; have HRR := Lib.hid hR; clear hR hown hg hnil hat hF3 hA3 hO3)
             refine ⟨rfl, HRR.out.mono ?_⟩
             rintro e W3 (⟨rfl, hI4, hk4⟩ | ⟨rfl, hT, -⟩)
             · have HI4 := Lib.hid hI4
               have HK4 := Lib.hid hk4
               clear hI4 hk4 hy
               gi_wp2_with fail
               go_roundw
               case rel =>
                have e1 : h2.length + 1 = (h2 ++ [mkB v]).length := by simp
                have e2 : h2.flatMap BindT.cells ++ BindT.cells (mkB v) = (h2 ++ [mkB v]).flatMap BindT.cells := by simp
                have hO4 := ownsRow_fr HO3.out HK4.out (fun g hg hn => hn (.inr (by
                 rcases A3 with _ | a
                 · simp [Value.ownBlock] at hg
                 · have e : a.block = g := by simpa [Value.ownBlock] using hg
                   exact e ▸ HA3.out a rfl)))
                rw [e1, e2] at hO4
                exact ⟨j + 1, _, pre2 ++ [v], h2 ++ [mkB v], A3, c3, by go_num, by rw [← e1], by omega, by simp; omega, by rw [HF2.out, HS.out]; simp, HI4.out, HA3.out, hO4, .inl (.inl HE2.out), HB3.out.fr HK4.out (fun hn => hn (.inr (.inl (.inl HE2.out))))⟩
               case measure => simp [intOf] <;> omega
             · have HT := Lib.hid hT
               clear hT hy
               gi_wp2_with fail
               refine bodyPost_ret (results_none rfl _ _ _) rfl ?_
               exact ⟨⟨_, rfl⟩, HT.out⟩
       · have hje : j = 3 := by omega
         subst hje
         gi_wp2_with fail
         go_roundw
         case rel => exact ⟨i + 1, E2, pre2, h2, A2, c2, by go_num, rfl, by omega, by omega, by rw [HF2.out, HN.out]; rfl, HI2.out, HA2.out, HO2.out⟩
         case measure => simp [intOf] <;> omega
  · have hie : i = p.acts.length := by omega
    subst hie
    rw [List.drop_length, List.flatMap_nil, newsV_nil, List.append_nil] at HF1
    have HT := Lib.hid (show ToldO F J Jx wr by have := HI1.out; rw [← HF1.out] at this; exact this.told)
    gi_wp2_with fail
    go_end0
    exact ⟨⟨_, rfl⟩, HT.out⟩
end Go.Proofs.YtpndmjabjjbefaaGreat
namespace Go.Proofs.YtpndmjabjjbefaaGreat
open Go.RowKit Go.Shelf
def rightB (a b c : Sym) : Bool := decide (a.kind = 1) && decide (b.kind ≠ 1) && validB a && validB b && validB c
theorem sym_of1 {a : Sym} {k : Int} (h : a.kind = k) : ∃ x y, a = ⟨k, x, y⟩ := by
 obtain ⟨k', x, y⟩ := a
 simp only at h
 subst h
 exact ⟨x, y, rfl⟩
set_option maxRecDepth 100000 in
set_option maxHeartbeats 4000000 in
theorem right_is (a b c : Sym) (w : World) : Calls Tryz.prog 57 #[.agg #[.int .i64 a.kind, .string a.text, .int .i64 a.n], .agg #[.int .i64 b.kind, .string b.text, .int .i64 b.n], .agg #[.int .i64 c.kind, .string c.text, .int .i64 c.n]] w fun e w' => e = .returned (.bool (rightB a b c)) ∧ Below w.heap.size w w' := by
 have HV := Lib.hid (show rightB a b c = (decide (a.kind = 1) && decide (b.kind ≠ 1) && validB a && validB b && validB c) from rfl)
 obtain ⟨r, hr⟩ : ∃ r, r = rightB a b c := ⟨_, rfl⟩
 rw [← hr] at HV ⊢
 clear hr
 by_cases ha : a.kind = 1
 · skip
   obtain ⟨ta, na, rfl⟩ : ∃ x y, a = ⟨1, x, y⟩ := sym_of1 ha
   clear ha
   by_cases hb1 : b.kind = 1
   · skip
     have qa : (b.kind == 1) = true := by simp [hb1]
     have qb : decide (b.kind = 1) = true := by simp [hb1]
     have HB1 := Lib.hid hb1
     clear hb1
     go_enter Tryz.func57, Tryz.ntmps57
     go_upto_region 1 with fail
     obtain ⟨w1, hw1⟩ : ∃ w1, w1 = (((w.alloc (.cells #[.int .i64 1, .string ta, .int .i64 na] 23)).alloc (.cells #[.int .i64 b.kind, .string b.text, .int .i64 b.n] 23)).alloc (.cells #[.int .i64 c.kind, .string c.text, .int .i64 c.n] 23)) := ⟨_, rfl⟩
     rw [← hw1]
     have HB := Lib.hid (show Below w.heap.size w w1 by rw [hw1]; exact (by repeat (first | exact Below.refl _ _ | refine Below.drew ?_ | refine Below.al ?_ _ | refine Below.sc ?_ _)))
     have Ka := Lib.hid (show Blk w1 (w.heap.size) 23 #[.int .i64 1, .string ta, .int .i64 na] by rw [hw1]; exact (((Blk.new w 23 #[.int .i64 1, .string ta, .int .i64 na]).alloc (.cells #[.int .i64 b.kind, .string b.text, .int .i64 b.n] 23)).alloc (.cells #[.int .i64 c.kind, .string c.text, .int .i64 c.n] 23)))
     have Kb := Lib.hid (show Blk w1 (w.heap.size + 1) 23 #[.int .i64 b.kind, .string b.text, .int .i64 b.n] by rw [hw1]; have hh := ((Blk.new (w.alloc (.cells #[.int .i64 1, .string ta, .int .i64 na] 23)) 23 #[.int .i64 b.kind, .string b.text, .int .i64 b.n]).alloc (.cells #[.int .i64 c.kind, .string c.text, .int .i64 c.n] 23)); simp only [World.size_alloc] at hh; exact hh)
     have Kc := Lib.hid (show Blk w1 (w.heap.size + 2) 23 #[.int .i64 c.kind, .string c.text, .int .i64 c.n] by rw [hw1]; have hh := (Blk.new ((w.alloc (.cells #[.int .i64 1, .string ta, .int .i64 na] 23)).alloc (.cells #[.int .i64 b.kind, .string b.text, .int .i64 b.n] 23)) 23 #[.int .i64 c.kind, .string c.text, .int .i64 c.n]); simp only [World.size_alloc] at hh; exact hh)
     clear hw1
     obtain ⟨a0, a1, a2⟩ := Ka.out.c3
     have az := Ka.out.lt
     obtain ⟨b0, b1, b2⟩ := Kb.out.c3
     have bz := Kb.out.lt
     obtain ⟨c0, c1, c2⟩ := Kc.out.c3
     have cz := Kc.out.lt
     have HR := Lib.hid (show r = false by rw [HV.out]; simp [HB1.out])
     go_wp2_with fail
     go_ret
     exact ⟨by rw [HR.out] <;> rfl, by (repeat (first | exact Below.refl _ _ | exact HB.out | refine Below.drew ?_ | refine Below.al ?_ _ | refine Below.sc ?_ _))⟩
   · skip
     have qa : (b.kind == 1) = false := by simp [hb1]
     have qb : decide (b.kind = 1) = false := by simp [hb1]
     have qc : (b.kind != 1) = true := by simp [hb1]
     go_enter Tryz.func57, Tryz.ntmps57
     go_upto_region 1 with fail
     obtain ⟨w1, hw1⟩ : ∃ w1, w1 = (((w.alloc (.cells #[.int .i64 1, .string ta, .int .i64 na] 23)).alloc (.cells #[.int .i64 b.kind, .string b.text, .int .i64 b.n] 23)).alloc (.cells #[.int .i64 c.kind, .string c.text, .int .i64 c.n] 23)) := ⟨_, rfl⟩
     rw [← hw1]
     have HB := Lib.hid (show Below w.heap.size w w1 by rw [hw1]; exact (by repeat (first | exact Below.refl _ _ | refine Below.drew ?_ | refine Below.al ?_ _ | refine Below.sc ?_ _)))
     have Ka := Lib.hid (show Blk w1 (w.heap.size) 23 #[.int .i64 1, .string ta, .int .i64 na] by rw [hw1]; exact (((Blk.new w 23 #[.int .i64 1, .string ta, .int .i64 na]).alloc (.cells #[.int .i64 b.kind, .string b.text, .int .i64 b.n] 23)).alloc (.cells #[.int .i64 c.kind, .string c.text, .int .i64 c.n] 23)))
     have Kb := Lib.hid (show Blk w1 (w.heap.size + 1) 23 #[.int .i64 b.kind, .string b.text, .int .i64 b.n] by rw [hw1]; have hh := ((Blk.new (w.alloc (.cells #[.int .i64 1, .string ta, .int .i64 na] 23)) 23 #[.int .i64 b.kind, .string b.text, .int .i64 b.n]).alloc (.cells #[.int .i64 c.kind, .string c.text, .int .i64 c.n] 23)); simp only [World.size_alloc] at hh; exact hh)
     have Kc := Lib.hid (show Blk w1 (w.heap.size + 2) 23 #[.int .i64 c.kind, .string c.text, .int .i64 c.n] by rw [hw1]; have hh := (Blk.new ((w.alloc (.cells #[.int .i64 1, .string ta, .int .i64 na] 23)).alloc (.cells #[.int .i64 b.kind, .string b.text, .int .i64 b.n] 23)) 23 #[.int .i64 c.kind, .string c.text, .int .i64 c.n]); simp only [World.size_alloc] at hh; exact hh)
     clear hw1
     obtain ⟨a0, a1, a2⟩ := Ka.out.c3
     have az := Ka.out.lt
     obtain ⟨b0, b1, b2⟩ := Kb.out.c3
     have bz := Kb.out.lt
     obtain ⟨c0, c1, c2⟩ := Kc.out.c3
     have cz := Kc.out.lt
     cases hva : validB ⟨1, ta, na⟩
     · skip
       have hc := fun W => valid_is ⟨1, ta, na⟩ W
       simp only [hva] at hc
       have HC := Lib.hid hc
       clear hc
       go_wp2_with fail
       with_reducible refine (HC.out _).mono ?_
       rintro e w2 ⟨rfl, hb⟩
       have hbs := Below.trans (show Below w1.heap.size w1 _ from (by (repeat (first | exact Below.refl _ _ | refine Below.drew ?_ | refine Below.al ?_ _ | refine Below.sc ?_ _)))) (hb.mono (by simp <;> omega))
       have Ka := Lib.hid (Ka.out.new_ hbs)
       have Kb := Lib.hid (Kb.out.new_ hbs)
       have Kc := Lib.hid (Kc.out.new_ hbs)
       have HB := Lib.hid (HB.out.trans (hbs.mono HB.out.size))
       have hsz2 := hbs.size
       clear a0 a1 a2 az b0 b1 b2 bz c0 c1 c2 cz hb hbs
       obtain ⟨a0, a1, a2⟩ := Ka.out.c3
       have az := Ka.out.lt
       obtain ⟨b0, b1, b2⟩ := Kb.out.c3
       have bz := Kb.out.lt
       obtain ⟨c0, c1, c2⟩ := Kc.out.c3
       have cz := Kc.out.lt
       have HR := Lib.hid (show r = false by rw [HV.out]; simp [hb1, hva])
       go_wp2_with fail
       go_ret
       exact ⟨by rw [HR.out] <;> rfl, by (repeat (first | exact Below.refl _ _ | exact HB.out | refine Below.drew ?_ | refine Below.al ?_ _ | refine Below.sc ?_ _))⟩
     · skip
       have hc := fun W => valid_is ⟨1, ta, na⟩ W
       simp only [hva] at hc
       have HC := Lib.hid hc
       clear hc
       go_wp2_with fail
       with_reducible refine (HC.out _).mono ?_
       rintro e w2 ⟨rfl, hb⟩
       have hbs := Below.trans (show Below w1.heap.size w1 _ from (by (repeat (first | exact Below.refl _ _ | refine Below.drew ?_ | refine Below.al ?_ _ | refine Below.sc ?_ _)))) (hb.mono (by simp <;> omega))
       have Ka := Lib.hid (Ka.out.new_ hbs)
       have Kb := Lib.hid (Kb.out.new_ hbs)
       have Kc := Lib.hid (Kc.out.new_ hbs)
       have HB := Lib.hid (HB.out.trans (hbs.mono HB.out.size))
       have hsz2 := hbs.size
       clear a0 a1 a2 az b0 b1 b2 bz c0 c1 c2 cz hb hbs
       obtain ⟨a0, a1, a2⟩ := Ka.out.c3
       have az := Ka.out.lt
       obtain ⟨b0, b1, b2⟩ := Kb.out.c3
       have bz := Kb.out.lt
       obtain ⟨c0, c1, c2⟩ := Kc.out.c3
       have cz := Kc.out.lt
       cases hvb : validB b
       · skip
         have hc := fun W => valid_is b W
         simp only [hvb] at hc
         have HC := Lib.hid hc
         clear hc
         go_wp2_with fail
         with_reducible refine (HC.out _).mono ?_
         rintro e w3 ⟨rfl, hb⟩
         have hbs := Below.trans (show Below w2.heap.size w2 _ from (by (repeat (first | exact Below.refl _ _ | refine Below.drew ?_ | refine Below.al ?_ _ | refine Below.sc ?_ _)))) (hb.mono (by simp <;> omega))
         have Ka := Lib.hid (Ka.out.new_ hbs)
         have Kb := Lib.hid (Kb.out.new_ hbs)
         have Kc := Lib.hid (Kc.out.new_ hbs)
         have HB := Lib.hid (HB.out.trans (hbs.mono HB.out.size))
         have hsz3 := hbs.size
         clear a0 a1 a2 az b0 b1 b2 bz c0 c1 c2 cz hb hbs
         obtain ⟨a0, a1, a2⟩ := Ka.out.c3
         have az := Ka.out.lt
         obtain ⟨b0, b1, b2⟩ := Kb.out.c3
         have bz := Kb.out.lt
         obtain ⟨c0, c1, c2⟩ := Kc.out.c3
         have cz := Kc.out.lt
         have HR := Lib.hid (show r = false by rw [HV.out]; simp [hb1, hva, hvb])
         go_wp2_with fail
         go_ret
         exact ⟨by rw [HR.out] <;> rfl, by (repeat (first | exact Below.refl _ _ | exact HB.out | refine Below.drew ?_ | refine Below.al ?_ _ | refine Below.sc ?_ _))⟩
       · skip
         have hc := fun W => valid_is b W
         simp only [hvb] at hc
         have HC := Lib.hid hc
         clear hc
         go_wp2_with fail
         with_reducible refine (HC.out _).mono ?_
         rintro e w3 ⟨rfl, hb⟩
         have hbs := Below.trans (show Below w2.heap.size w2 _ from (by (repeat (first | exact Below.refl _ _ | refine Below.drew ?_ | refine Below.al ?_ _ | refine Below.sc ?_ _)))) (hb.mono (by simp <;> omega))
         have Ka := Lib.hid (Ka.out.new_ hbs)
         have Kb := Lib.hid (Kb.out.new_ hbs)
         have Kc := Lib.hid (Kc.out.new_ hbs)
         have HB := Lib.hid (HB.out.trans (hbs.mono HB.out.size))
         have hsz3 := hbs.size
         clear a0 a1 a2 az b0 b1 b2 bz c0 c1 c2 cz hb hbs
         obtain ⟨a0, a1, a2⟩ := Ka.out.c3
         have az := Ka.out.lt
         obtain ⟨b0, b1, b2⟩ := Kb.out.c3
         have bz := Kb.out.lt
         obtain ⟨c0, c1, c2⟩ := Kc.out.c3
         have cz := Kc.out.lt
         cases hvc : validB c
         · skip
           have hc := fun W => valid_is c W
           simp only [hvc] at hc
           have HC := Lib.hid hc
           clear hc
           go_wp2_with fail
           with_reducible refine (HC.out _).mono ?_
           rintro e w4 ⟨rfl, hb⟩
           have hbs := Below.trans (show Below w3.heap.size w3 _ from (by (repeat (first | exact Below.refl _ _ | refine Below.drew ?_ | refine Below.al ?_ _ | refine Below.sc ?_ _)))) (hb.mono (by simp <;> omega))
           have Ka := Lib.hid (Ka.out.new_ hbs)
           have Kb := Lib.hid (Kb.out.new_ hbs)
           have Kc := Lib.hid (Kc.out.new_ hbs)
           have HB := Lib.hid (HB.out.trans (hbs.mono HB.out.size))
           have hsz4 := hbs.size
           clear a0 a1 a2 az b0 b1 b2 bz c0 c1 c2 cz hb hbs
           obtain ⟨a0, a1, a2⟩ := Ka.out.c3
           have az := Ka.out.lt
           obtain ⟨b0, b1, b2⟩ := Kb.out.c3
           have bz := Kb.out.lt
           obtain ⟨c0, c1, c2⟩ := Kc.out.c3
           have cz := Kc.out.lt
           have HR := Lib.hid (show r = false by rw [HV.out]; simp [hb1, hva, hvb, hvc])
           go_wp2_with fail
           go_ret
           exact ⟨by rw [HR.out] <;> rfl, by (repeat (first | exact Below.refl _ _ | exact HB.out | refine Below.drew ?_ | refine Below.al ?_ _ | refine Below.sc ?_ _))⟩
         · skip
           have hc := fun W => valid_is c W
           simp only [hvc] at hc
           have HC := Lib.hid hc
           clear hc
           go_wp2_with fail
           with_reducible refine (HC.out _).mono ?_
           rintro e w4 ⟨rfl, hb⟩
           have hbs := Below.trans (show Below w3.heap.size w3 _ from (by (repeat (first | exact Below.refl _ _ | refine Below.drew ?_ | refine Below.al ?_ _ | refine Below.sc ?_ _)))) (hb.mono (by simp <;> omega))
           have Ka := Lib.hid (Ka.out.new_ hbs)
           have Kb := Lib.hid (Kb.out.new_ hbs)
           have Kc := Lib.hid (Kc.out.new_ hbs)
           have HB := Lib.hid (HB.out.trans (hbs.mono HB.out.size))
           have hsz4 := hbs.size
           clear a0 a1 a2 az b0 b1 b2 bz c0 c1 c2 cz hb hbs
           obtain ⟨a0, a1, a2⟩ := Ka.out.c3
           have az := Ka.out.lt
           obtain ⟨b0, b1, b2⟩ := Kb.out.c3
           have bz := Kb.out.lt
           obtain ⟨c0, c1, c2⟩ := Kc.out.c3
           have cz := Kc.out.lt
           have HR := Lib.hid (show r = true by rw [HV.out]; simp [hb1, hva, hvb, hvc])
           go_wp2_with fail
           go_ret
           exact ⟨by rw [HR.out] <;> rfl, by (repeat (first | exact Below.refl _ _ | exact HB.out | refine Below.drew ?_ | refine Below.al ?_ _ | refine Below.sc ?_ _))⟩
 · skip
   have qa : (a.kind == 1) = false := by simp [ha]
   have qb : decide (a.kind = 1) = false := by simp [ha]
   go_enter Tryz.func57, Tryz.ntmps57
   go_upto_region 1 with fail
   obtain ⟨w1, hw1⟩ : ∃ w1, w1 = (((w.alloc (.cells #[.int .i64 a.kind, .string a.text, .int .i64 a.n] 23)).alloc (.cells #[.int .i64 b.kind, .string b.text, .int .i64 b.n] 23)).alloc (.cells #[.int .i64 c.kind, .string c.text, .int .i64 c.n] 23)) := ⟨_, rfl⟩
   rw [← hw1]
   have HB := Lib.hid (show Below w.heap.size w w1 by rw [hw1]; exact (by repeat (first | exact Below.refl _ _ | refine Below.drew ?_ | refine Below.al ?_ _ | refine Below.sc ?_ _)))
   have Ka := Lib.hid (show Blk w1 (w.heap.size) 23 #[.int .i64 a.kind, .string a.text, .int .i64 a.n] by rw [hw1]; exact (((Blk.new w 23 #[.int .i64 a.kind, .string a.text, .int .i64 a.n]).alloc (.cells #[.int .i64 b.kind, .string b.text, .int .i64 b.n] 23)).alloc (.cells #[.int .i64 c.kind, .string c.text, .int .i64 c.n] 23)))
   have Kb := Lib.hid (show Blk w1 (w.heap.size + 1) 23 #[.int .i64 b.kind, .string b.text, .int .i64 b.n] by rw [hw1]; have hh := ((Blk.new (w.alloc (.cells #[.int .i64 a.kind, .string a.text, .int .i64 a.n] 23)) 23 #[.int .i64 b.kind, .string b.text, .int .i64 b.n]).alloc (.cells #[.int .i64 c.kind, .string c.text, .int .i64 c.n] 23)); simp only [World.size_alloc] at hh; exact hh)
   have Kc := Lib.hid (show Blk w1 (w.heap.size + 2) 23 #[.int .i64 c.kind, .string c.text, .int .i64 c.n] by rw [hw1]; have hh := (Blk.new ((w.alloc (.cells #[.int .i64 a.kind, .string a.text, .int .i64 a.n] 23)).alloc (.cells #[.int .i64 b.kind, .string b.text, .int .i64 b.n] 23)) 23 #[.int .i64 c.kind, .string c.text, .int .i64 c.n]); simp only [World.size_alloc] at hh; exact hh)
   clear hw1
   obtain ⟨a0, a1, a2⟩ := Ka.out.c3
   have az := Ka.out.lt
   obtain ⟨b0, b1, b2⟩ := Kb.out.c3
   have bz := Kb.out.lt
   obtain ⟨c0, c1, c2⟩ := Kc.out.c3
   have cz := Kc.out.lt
   have HR := Lib.hid (show r = false by rw [HV.out]; simp [ha])
   go_wp2_with fail
   go_ret
   exact ⟨by rw [HR.out] <;> rfl, by (repeat (first | exact Below.refl _ _ | exact HB.out | refine Below.drew ?_ | refine Below.al ?_ _ | refine Below.sc ?_ _))⟩
def greatV (v : ByteArray) : UInt8 := if h : 0 < v.size then v[0] - 32 else 65
theorem u8_sub32 (c : UInt8) (h1 : 97 ≤ c.toNat) (h2 : c.toNat ≤ 122) : ((c - 32).toNat : Int) = (c.toNat : Int) - 97 + 65 := by
 have : (c - 32).toNat = c.toNat - 32 := by
  rw [UInt8.toNat_sub_of_le _ _ (by rw [UInt8.le_iff_toNat_le]; show 32 ≤ c.toNat; omega)]; rfl
 rw [this]; omega
set_option maxHeartbeats 1000000 in
theorem actgreat_is (v : ByteArray) (w : World) (h : isWord v = true) : Calls Tryz.prog 56 #[.string v] w fun e w' => e = .returned (.int .u8 ((greatV v).toNat : Int)) ∧ w = w' := by
 obtain ⟨h0, _, hs, _⟩ := isWord_iff.1 h
 obtain ⟨c, hc⟩ : ∃ c, c = v[0] := ⟨_, rfl⟩
 have h1 : 97 ≤ c.toNat ∧ c.toNat ≤ 122 := by rw [← hc] at hs; simpa [smallB] using hs
 have HG := Lib.hid (show ((greatV v).toNat : Int) = (c.toNat : Int) - 97 + 65 by unfold greatV; rw [dif_pos h0, ← hc]; exact u8_sub32 c h1.1 h1.2)
 have HC := Lib.hid hc
 have b1 : (97 : Int) ≤ c.toNat := by omega
 have b2 : (c.toNat : Int) ≤ 122 := by omega
 have v1 : IntKind.u8.wrap ((c.toNat : Int) - 97) = (c.toNat : Int) - 97 := by rw [IntWalk.u8_in _ (by omega)]
 have v2 : IntKind.u8.wrap ((c.toNat : Int) - 97 + 65) = (c.toNat : Int) - 97 + 65 := by rw [IntWalk.u8_in _ (by omega)]
 have hi : ∀ W, (Instr.index 9 (.string v) (.int .i64 0)).run Tryz.prog W = .ok (.int .u8 (c.toNat : Int)) W := fun W => by
  rw [hc]; go_simp
 clear hs hc h h1
 go_enter Tryz.func56, Tryz.ntmps56
 go_wp2_with fail
 go_ret
 refine ⟨?_, rfl⟩
 rw [HG.out]
 rfl
def MadeNews (l : List BindT) (p : ProdT) (A1 A2 : Option Addr) (c1 c2 : Nat) (w : World) (e : Ending) (w' : World) : Prop :=
 ∃ kb kp A c, e = .returned (.func (.func 48) #[] #[.pointer (some ⟨kb, 0, none⟩), .pointer (some ⟨kp, 0, none⟩)]) ∧ Blk w' kb 28 #[.slice A l.length c] ∧ Blk w' kp 42 #[.string p.name, .slice A1 p.conds.length c1, .slice A2 p.acts.length c2] ∧
   RowR repBindT (fun k => w.heap.size ≤ k ∧ k < w'.heap.size) w' A c l ∧ w.heap.size ≤ kb ∧ w.heap.size ≤ kp ∧ Below w.heap.size w w'
set_option maxHeartbeats 2000000 in
theorem mknews {D : Nat → Prop} (l : List BindT) (p : ProdT) (Al A1 A2 : Option Addr) (cl c1 c2 : Nat) (w : World) (h1 : RowR repBindT D w Al cl l) (hl1 : l.length ≤ 1000) :
 Calls Tryz.prog 18 #[.agg #[.string p.name, .slice A1 p.conds.length c1, .slice A2 p.acts.length c2], .slice Al l.length cl] w (MadeNews l p A1 A2 c1 c2 w) := by
 obtain ⟨i0, hi0, hz0, hz1, hz2⟩ := info_parts info_Bind
 have HR := Lib.hid h1
 clear h1
 go_enter Tryz.func18, Tryz.ntmps18
 go_upto_region 1 with fail
 obtain ⟨W1, hW1⟩ : ∃ W1, W1 = w.alloc (.cells #[.string p.name, .slice A1 p.conds.length c1, .slice A2 p.acts.length c2] 42) := ⟨_, rfl⟩
 rw [← hW1]
 have HB1 := Lib.hid (show Below w.heap.size w W1 by rw [hW1]; exact (Below.refl _ _).alloc (Nat.le_refl _) _)
 have HP := Lib.hid (show Blk W1 w.heap.size 42 #[.string p.name, .slice A1 p.conds.length c1, .slice A2 p.acts.length c2] by rw [hW1]; exact Blk.new _ _ _)
 have HZ := Lib.hid (show W1.heap.size = w.heap.size + 1 by rw [hW1, World.size_alloc])
 clear hW1
 go_wp2_with (at_builtin; refine wpList_append_src W1 rfl (.const (.slice none 0 0)) (.tmp 6) 28 rfl 36 i0 _ 4 48 Tryz.underlying28 hi0 hz0 hz1 hz2 rfl (by decide) (.slice none 0 0) 0 [] rfl (owns_nil _ _ _ _) Al l.length cl (l.flatMap BindT.cells) rfl (flat_length BindT.cells_length l) ((HR.out.new_ HB1.out).rd.news BindT.cells_length (by decide)) (bind_one l) (by unfold maxLen; omega) (by omega) ?_; intro v' w4 hown hg hnil hat; obtain ⟨A0, c0, rfl, hF0, hA0, hO0⟩ := grown_own (E := fun _ => False) (AIn.none_ _) hown hg hat; rw [Nat.zero_add, List.nil_append] at hO0; simp only [Nat.zero_add]; have HO := Lib.hid hO0; have HA := Lib.hid hA0; have HF := Lib.hid hF0; clear hown hg hnil hat hF0 hA0 hO0)
 go_ret
 have hz := HF.out.size
 have hz1 := HZ.out
 have hn : Below w4.heap.size w4 (w4.alloc (.cells #[.slice A0 l.length c0] 28)) := (Below.refl _ _).alloc (Nat.le_refl _) _
 have hb4 : Below w.heap.size w w4 := HB1.out.trans ((HF.out.below (Nat.le_refl _) (fun _ _ h => h)).mono (by omega))
 refine ⟨w4.heap.size, w.heap.size, A0, c0, rfl, Blk.new _ _ _, (HP.out.fr HF.out (fun h => h)).new_ hn, RowR.of_rd ((ownsRow_rd BindT.cells_length HO.out).new_ hn) (HA.out.mono (fun k hk => ?_)), by omega, Nat.le_refl _, hb4.trans (hn.mono (by omega))⟩
 rcases hk with hk | hk
 · exact hk.elim
 · exact ⟨by omega, by simp; omega⟩
end Go.Proofs.YtpndmjabjjbefaaGreat
namespace Go.Proofs.YtpndmjabjjbefaaGreat
open Go.RowKit
structure Page where
 key : UInt8
 v : Int
 deriving DecidableEq
def Page.kk (p : Page) : Int := (p.key.toNat : Int)
theorem Page.kk_bd (p : Page) : 0 ≤ p.kk ∧ p.kk ≤ 255 := by
 unfold Page.kk
 have := p.key.toNat_lt
 omega
def Page.cells (p : Page) : List Value := [.int .u8 p.kk, .int .i64 p.v]
theorem Page.cells_length (p : Page) : p.cells.length = 2 := rfl
def cmpPage (a b : Page) : Int := a.kk - b.kk
theorem tc_page : TC cmpPage := ⟨fun x => by unfold cmpPage; omega, fun x y => by unfold cmpPage; omega, fun x y z => by unfold cmpPage; omega⟩
theorem cmpPage_eq {a b : Page} : cmpPage a b = 0 ↔ a.key = b.key := by
 unfold cmpPage Page.kk
 constructor
 · intro h
   exact UInt8.toNat_inj.1 (by omega)
 · intro h
   rw [h]; omega
set_option maxHeartbeats 400000 in
theorem cmp_letter (a b : Int) (ha : 0 ≤ a) (ha2 : a ≤ 255) (hb : 0 ≤ b) (hb2 : b ≤ 255) (w : World) : Calls Tryz.prog 161 #[.int .u8 a, .int .u8 b] w fun e w' => e = .returned (.int .i64 (a - b)) ∧ w = w' := by
 have v1 : IntKind.i64.wrap a = a := IntWalk.i64_in _ (by omega)
 have v2 : IntKind.i64.wrap b = b := IntWalk.i64_in _ (by omega)
 have v3 : IntKind.i64.wrap (a - b) = a - b := IntWalk.i64_in _ (by omega)
 go_enter Tryz.func161, Tryz.ntmps161
 go_wp2
 go_ret
 exact ⟨rfl, rfl⟩
theorem nilAhead_letter (k : Int) (w : World) : (nilAhead 310 109 (.int .u8 k) "Compare").run Tryz.prog w = .ok (some false) w := by kernel_rfl
theorem method_letter (k : Int) (w : World) : (method 310 109 (.int .u8 k) "Compare").run Tryz.prog w = .ok (161, .int .u8 k) w := by kernel_rfl
set_option maxHeartbeats 1000000 in
theorem cmp_page (a b : Page) (w : World) : Calls Tryz.prog 172 #[.agg #[.int .u8 a.kk, .int .i64 a.v], .agg #[.int .u8 b.kk, .int .i64 b.v]] w fun e w' => e = .returned (.int .i64 (cmpPage a b)) ∧ Below w.heap.size w w' := by
 have ha := a.kk_bd
 have hb := b.kk_bd
 have N := nilAhead_letter
 have M := method_letter
 go_enter Tryz.func172, Tryz.ntmps172
 go_wp2_with fail
 refine (cmp_letter a.kk b.kk ha.1 ha.2 hb.1 hb.2 _).mono ?_
 rintro e w' ⟨rfl, rfl⟩
 go_wp2_with fail
 go_ret
 exact ⟨rfl, ((Below.refl _ _).alloc (Nat.le_refl _) _).alloc (by simp) _⟩
end Go.Proofs.YtpndmjabjjbefaaGreat
