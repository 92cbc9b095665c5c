/-
  Texts put together: Shape4.
-/
import Derived.Test.YtpndmjabjjbefaaGreatVd
namespace Go.Proofs.YtpndmjabjjbefaaGreat
open Go.RowKit Go.Shelf
set_option maxRecDepth 100000 in
set_option maxHeartbeats 4000000 in
theorem tests_is {D : Nat → Prop} (A : Option Addr) (c : Nat) (l : List TestT) (w : World) (h : RowR repTestT D w A c l) : Calls Tryz.prog 113 #[.slice A l.length c] w fun e w' => e = .returned (.bool (l.all testB)) ∧ Below w.heap.size w w' := by
 have HR := Lib.hid h
 have hlc := h.cap
 clear h
 go_enter Tryz.func113, Tryz.ntmps113
 go_wp2_with fail
 go_loopw [7] (fun s wr => ∃ i : Nat, s = .int .i64 i ∧ i ≤ l.length ∧ (∀ k, (h : k < l.length) → k < i → testB l[k] = true) ∧ Below w.heap.size w wr) (fun s wr => l.length - (intOf s).toNat)
 case atStart => exact ⟨0, rfl, Nat.zero_le _, fun k _ h => absurd h (by omega), Below.refl _ _⟩
 case round =>
  obtain ⟨i, rfl, hi, hall, hB⟩ := hrel
  have HALL := Lib.hid hall
  have HB := Lib.hid hB
  clear hall hB
  by_cases hlt : i < l.length
  · obtain ⟨y, hy⟩ : ∃ y, y = l[i] := ⟨_, rfl⟩
    obtain ⟨g, off, A1, c1, rfl, _, hg, q0, q1, q2, q3, q4, q5, hrow⟩ := at_TestT (HR.out.new_ HB.out) hlt
    rw [← hy] at q0 q1 q2 q3 q4 q5 hrow
    have HROW := Lib.hid (show RowRd wr 3 Sym.cells A1 c1 y.list from RowR.rd (hs := Sym.cells_length) hrow)
    have HY := Lib.hid hy
    have b1 : (0 : Int) ≤ (i : Int) := by omega
    have b2 : (i : Int) < (l.length : Int) := by omega
    have hzr := HB.out.size
    clear hy hrow
    go_wp2_with fail
    refine (test_is y A1 c1 _ (HROW.out.new_ (by (repeat (first | exact Below.refl _ _ | (refine Below.drew ?_) | (refine Below.alloc ?_ (by simp <;> omega) _) | (refine Below.setCell ?_ (by simp <;> omega) _)))))).mono ?_
    rintro e w9 ⟨rfl, hb9⟩
    have HB9 := Lib.hid (HB.out.trans ((Below.trans (show Below wr.heap.size wr _ from (by (repeat (first | exact Below.refl _ _ | (refine Below.drew ?_) | (refine Below.alloc ?_ (by simp <;> omega) _) | (refine Below.setCell ?_ (by simp <;> omega) _))))) (hb9.mono (by simp)) : Below wr.heap.size wr w9).mono hzr))
    clear hb9 q0 q1 q2 q3 q4 q5
    cases hcb : testB y
    · have HRf := Lib.hid (show l.all testB = false from List.all_eq_false.2 ⟨y, by rw [HY.out]; exact List.getElem_mem hlt, by rw [hcb]; simp⟩)
      clear hcb
      go_wp2_with fail
      go_ret
      exact ⟨by rw [HRf.out] <;> rfl, HB9.out⟩
    · have HCB := Lib.hid hcb
      clear hcb
      go_wp2_with fail
      go_roundw
      case rel => exact ⟨i + 1, by go_num, by omega, fun k hk hki => by
       by_cases e : k = i
       · subst e; rw [← HY.out]; exact HCB.out
       · exact HALL.out k hk (by omega), HB9.out⟩
      case measure => simp [intOf] <;> omega
  · have hie : i = l.length := by omega
    subst hie
    have HRt := Lib.hid (show l.all testB = true from List.all_eq_true.2 (fun x hx => by
     obtain ⟨k, hk, rfl⟩ := List.getElem_of_mem hx
     exact HALL.out k hk hk))
    go_wp2_with fail
    go_ret
    exact ⟨by rw [HRt.out] <;> rfl, HB.out⟩
set_option maxRecDepth 100000 in
set_option maxHeartbeats 8000000 in
theorem cond_is {D : Nat → Prop} (x : CondT) (deep : Nat) (A1 A2 A3 : Option Addr) (c1 c2 c3 : Nat) (w : World) (h1 : RowR repTestT D w A1 c1 x.attr) (h2 : RowR repTestT D w A2 c2 x.value) (hn3 : (x.conds.length : Int) ≤ 9223372036854775807) :
 Calls Tryz.prog 95 #[.agg #[.int .i64 x.kind, .bool x.goal, .string x.id, .slice A1 x.attr.length c1, .slice A2 x.value.length c2, .bool x.acc, .slice A3 x.conds.length c3], .int .i64 deep] w fun e w' => e = .returned (.int .i64 (condE x deep)) ∧ Below w.heap.size w w' := by
 have H1 := Lib.hid h1
 have H2 := Lib.hid h2
 have hl1 := h1.cap
 have hl2 := h2.cap
 clear h1 h2
 by_cases hk3 : x.kind = 3
 · have hk3x := hk3
   by_cases hg : x.goal = true
   · have k3 : (x.kind == 3) = true := by simp [*]
     have k3b : decide (x.kind = 3) = true := by simp [*]
     have g1 := hg
     have HR := Lib.hid (show condE x deep = 9 by simp [condE, *])
     have H_k3 := Lib.hid k3
     have H_k3b := Lib.hid k3b
     have H_g1 := Lib.hid g1
     clear k3 k3b g1
     clear hk3 hk3x hg
     go_enter Tryz.func95, Tryz.ntmps95
     go_upto_region 1 with fail
     obtain ⟨W1, hW1⟩ : ∃ W1, W1 = w.alloc (.cells #[.int .i64 x.kind, .bool x.goal, .string x.id, .slice A1 x.attr.length c1, .slice A2 x.value.length c2, .bool x.acc, .slice A3 x.conds.length c3] 62) := ⟨_, rfl⟩
     rw [← hW1]
     have hBk : Blk W1 w.heap.size 62 #[.int .i64 x.kind, .bool x.goal, .string x.id, .slice A1 x.attr.length c1, .slice A2 x.value.length c2, .bool x.acc, .slice A3 x.conds.length c3] := by rw [hW1]; exact Blk.new _ _ _
     have HB := Lib.hid (show Below w.heap.size w W1 by rw [hW1]; exact (Below.refl _ _).alloc (Nat.le_refl _) _)
     have e0 : W1.cell? ⟨w.heap.size, 0, none⟩ = some (.int .i64 x.kind) := (hBk.cell 0).trans rfl
     have e1 : W1.cell? ⟨w.heap.size, 1, none⟩ = some (.bool x.goal) := (hBk.cell 1).trans rfl
     have e2 : W1.cell? ⟨w.heap.size, 2, none⟩ = some (.string x.id) := (hBk.cell 2).trans rfl
     have e3 : W1.cell? ⟨w.heap.size, 3, none⟩ = some (.slice A1 x.attr.length c1) := (hBk.cell 3).trans rfl
     have e4 : W1.cell? ⟨w.heap.size, 4, none⟩ = some (.slice A2 x.value.length c2) := (hBk.cell 4).trans rfl
     have e5 : W1.cell? ⟨w.heap.size, 5, none⟩ = some (.bool x.acc) := (hBk.cell 5).trans rfl
     have e6 : W1.cell? ⟨w.heap.size, 6, none⟩ = some (.slice A3 x.conds.length c3) := (hBk.cell 6).trans rfl
     have hbl := hBk.lt
     clear hW1 hBk
     have k3 := H_k3.out
     have k3b := H_k3b.out
     have g1 := H_g1.out
     go_wp2_with (first | (go_at_call 81; refine (word_is x.id _).mono ?_; rintro e w9 ⟨rfl, rfl⟩) | (go_at_call 113; (first | (with_reducible refine (tests_is A1 c1 x.attr _ (H1.out.new_ HB.out)).mono ?_) | (with_reducible refine (tests_is A2 c2 x.value _ (H2.out.new_ HB.out)).mono ?_)); rintro e w9 ⟨rfl, hb9⟩; have HB := Lib.hid (HB.out.trans (hb9.mono HB.out.size)); replace e0 := (hb9.cell (p := ⟨w.heap.size, 0, none⟩) hbl).trans e0; replace e1 := (hb9.cell (p := ⟨w.heap.size, 1, none⟩) hbl).trans e1; replace e2 := (hb9.cell (p := ⟨w.heap.size, 2, none⟩) hbl).trans e2; replace e3 := (hb9.cell (p := ⟨w.heap.size, 3, none⟩) hbl).trans e3; replace e4 := (hb9.cell (p := ⟨w.heap.size, 4, none⟩) hbl).trans e4; replace e5 := (hb9.cell (p := ⟨w.heap.size, 5, none⟩) hbl).trans e5; replace e6 := (hb9.cell (p := ⟨w.heap.size, 6, none⟩) hbl).trans e6; replace hbl := Nat.lt_of_lt_of_le hbl hb9.size; clear hb9))
     go_ret
     exact ⟨by rw [HR.out] <;> rfl, HB.out⟩
   by_cases hv : ¬ x.id.toList = []
   · have k3 : (x.kind == 3) = true := by simp [*]
     have k3b : decide (x.kind = 3) = true := by simp [*]
     have g1 : x.goal = false := by simpa using hg
     have v1 : (x.id.toList == []) = false := by simp [hv]
     have v2 : x.id.toList.isEmpty = false := by simp [hv]
     have v3 : decide (x.id.toList = []) = false := by simp [hv]
     have HR := Lib.hid (show condE x deep = 9 by simp [condE, *])
     have H_k3 := Lib.hid k3
     have H_k3b := Lib.hid k3b
     have H_g1 := Lib.hid g1
     have H_v1 := Lib.hid v1
     have H_v2 := Lib.hid v2
     have H_v3 := Lib.hid v3
     clear k3 k3b g1 v1 v2 v3
     clear hk3 hk3x hg hv
     go_enter Tryz.func95, Tryz.ntmps95
     go_upto_region 1 with fail
     obtain ⟨W1, hW1⟩ : ∃ W1, W1 = w.alloc (.cells #[.int .i64 x.kind, .bool x.goal, .string x.id, .slice A1 x.attr.length c1, .slice A2 x.value.length c2, .bool x.acc, .slice A3 x.conds.length c3] 62) := ⟨_, rfl⟩
     rw [← hW1]
     have hBk : Blk W1 w.heap.size 62 #[.int .i64 x.kind, .bool x.goal, .string x.id, .slice A1 x.attr.length c1, .slice A2 x.value.length c2, .bool x.acc, .slice A3 x.conds.length c3] := by rw [hW1]; exact Blk.new _ _ _
     have HB := Lib.hid (show Below w.heap.size w W1 by rw [hW1]; exact (Below.refl _ _).alloc (Nat.le_refl _) _)
     have e0 : W1.cell? ⟨w.heap.size, 0, none⟩ = some (.int .i64 x.kind) := (hBk.cell 0).trans rfl
     have e1 : W1.cell? ⟨w.heap.size, 1, none⟩ = some (.bool x.goal) := (hBk.cell 1).trans rfl
     have e2 : W1.cell? ⟨w.heap.size, 2, none⟩ = some (.string x.id) := (hBk.cell 2).trans rfl
     have e3 : W1.cell? ⟨w.heap.size, 3, none⟩ = some (.slice A1 x.attr.length c1) := (hBk.cell 3).trans rfl
     have e4 : W1.cell? ⟨w.heap.size, 4, none⟩ = some (.slice A2 x.value.length c2) := (hBk.cell 4).trans rfl
     have e5 : W1.cell? ⟨w.heap.size, 5, none⟩ = some (.bool x.acc) := (hBk.cell 5).trans rfl
     have e6 : W1.cell? ⟨w.heap.size, 6, none⟩ = some (.slice A3 x.conds.length c3) := (hBk.cell 6).trans rfl
     have hbl := hBk.lt
     clear hW1 hBk
     have k3 := H_k3.out
     have k3b := H_k3b.out
     have g1 := H_g1.out
     have v1 := H_v1.out
     have v2 := H_v2.out
     have v3 := H_v3.out
     go_wp2_with (first | (go_at_call 81; refine (word_is x.id _).mono ?_; rintro e w9 ⟨rfl, rfl⟩) | (go_at_call 113; (first | (with_reducible refine (tests_is A1 c1 x.attr _ (H1.out.new_ HB.out)).mono ?_) | (with_reducible refine (tests_is A2 c2 x.value _ (H2.out.new_ HB.out)).mono ?_)); rintro e w9 ⟨rfl, hb9⟩; have HB := Lib.hid (HB.out.trans (hb9.mono HB.out.size)); replace e0 := (hb9.cell (p := ⟨w.heap.size, 0, none⟩) hbl).trans e0; replace e1 := (hb9.cell (p := ⟨w.heap.size, 1, none⟩) hbl).trans e1; replace e2 := (hb9.cell (p := ⟨w.heap.size, 2, none⟩) hbl).trans e2; replace e3 := (hb9.cell (p := ⟨w.heap.size, 3, none⟩) hbl).trans e3; replace e4 := (hb9.cell (p := ⟨w.heap.size, 4, none⟩) hbl).trans e4; replace e5 := (hb9.cell (p := ⟨w.heap.size, 5, none⟩) hbl).trans e5; replace e6 := (hb9.cell (p := ⟨w.heap.size, 6, none⟩) hbl).trans e6; replace hbl := Nat.lt_of_lt_of_le hbl hb9.size; clear hb9))
     go_ret
     exact ⟨by rw [HR.out] <;> rfl, HB.out⟩
   by_cases ha : 0 < x.attr.length
   · have k3 : (x.kind == 3) = true := by simp [*]
     have k3b : decide (x.kind = 3) = true := by simp [*]
     have g1 : x.goal = false := by simpa using hg
     have hv2 : x.id.toList = [] := Classical.byContradiction hv
     have v1 : (x.id.toList == []) = true := by simp [hv2]
     have v2 : x.id.toList.isEmpty = true := by simp [hv2]
     have v3 : decide (x.id.toList = []) = true := by simp [hv2]
     have aa : decide ((0 : Int) < (x.attr.length : Int)) = true := decide_eq_true (by omega)
     have ab : decide (0 < x.attr.length) = true := decide_eq_true (by omega)
     have HR := Lib.hid (show condE x deep = 9 by simp [condE, *])
     have H_k3 := Lib.hid k3
     have H_k3b := Lib.hid k3b
     have H_g1 := Lib.hid g1
     have H_hv2 := Lib.hid hv2
     have H_v1 := Lib.hid v1
     have H_v2 := Lib.hid v2
     have H_v3 := Lib.hid v3
     have H_aa := Lib.hid aa
     have H_ab := Lib.hid ab
     clear k3 k3b g1 hv2 v1 v2 v3 aa ab
     clear hk3 hk3x hg hv ha
     go_enter Tryz.func95, Tryz.ntmps95
     go_upto_region 1 with fail
     obtain ⟨W1, hW1⟩ : ∃ W1, W1 = w.alloc (.cells #[.int .i64 x.kind, .bool x.goal, .string x.id, .slice A1 x.attr.length c1, .slice A2 x.value.length c2, .bool x.acc, .slice A3 x.conds.length c3] 62) := ⟨_, rfl⟩
     rw [← hW1]
     have hBk : Blk W1 w.heap.size 62 #[.int .i64 x.kind, .bool x.goal, .string x.id, .slice A1 x.attr.length c1, .slice A2 x.value.length c2, .bool x.acc, .slice A3 x.conds.length c3] := by rw [hW1]; exact Blk.new _ _ _
     have HB := Lib.hid (show Below w.heap.size w W1 by rw [hW1]; exact (Below.refl _ _).alloc (Nat.le_refl _) _)
     have e0 : W1.cell? ⟨w.heap.size, 0, none⟩ = some (.int .i64 x.kind) := (hBk.cell 0).trans rfl
     have e1 : W1.cell? ⟨w.heap.size, 1, none⟩ = some (.bool x.goal) := (hBk.cell 1).trans rfl
     have e2 : W1.cell? ⟨w.heap.size, 2, none⟩ = some (.string x.id) := (hBk.cell 2).trans rfl
     have e3 : W1.cell? ⟨w.heap.size, 3, none⟩ = some (.slice A1 x.attr.length c1) := (hBk.cell 3).trans rfl
     have e4 : W1.cell? ⟨w.heap.size, 4, none⟩ = some (.slice A2 x.value.length c2) := (hBk.cell 4).trans rfl
     have e5 : W1.cell? ⟨w.heap.size, 5, none⟩ = some (.bool x.acc) := (hBk.cell 5).trans rfl
     have e6 : W1.cell? ⟨w.heap.size, 6, none⟩ = some (.slice A3 x.conds.length c3) := (hBk.cell 6).trans rfl
     have hbl := hBk.lt
     clear hW1 hBk
     have k3 := H_k3.out
     have k3b := H_k3b.out
     have g1 := H_g1.out
     have v1 := H_v1.out
     have v2 := H_v2.out
     have v3 := H_v3.out
     have aa := H_aa.out
     have ab := H_ab.out
     go_wp2_with (first | (go_at_call 81; refine (word_is x.id _).mono ?_; rintro e w9 ⟨rfl, rfl⟩) | (go_at_call 113; (first | (with_reducible refine (tests_is A1 c1 x.attr _ (H1.out.new_ HB.out)).mono ?_) | (with_reducible refine (tests_is A2 c2 x.value _ (H2.out.new_ HB.out)).mono ?_)); rintro e w9 ⟨rfl, hb9⟩; have HB := Lib.hid (HB.out.trans (hb9.mono HB.out.size)); replace e0 := (hb9.cell (p := ⟨w.heap.size, 0, none⟩) hbl).trans e0; replace e1 := (hb9.cell (p := ⟨w.heap.size, 1, none⟩) hbl).trans e1; replace e2 := (hb9.cell (p := ⟨w.heap.size, 2, none⟩) hbl).trans e2; replace e3 := (hb9.cell (p := ⟨w.heap.size, 3, none⟩) hbl).trans e3; replace e4 := (hb9.cell (p := ⟨w.heap.size, 4, none⟩) hbl).trans e4; replace e5 := (hb9.cell (p := ⟨w.heap.size, 5, none⟩) hbl).trans e5; replace e6 := (hb9.cell (p := ⟨w.heap.size, 6, none⟩) hbl).trans e6; replace hbl := Nat.lt_of_lt_of_le hbl hb9.size; clear hb9))
     go_ret
     exact ⟨by rw [HR.out] <;> rfl, HB.out⟩
   by_cases hb : 0 < x.value.length
   · have k3 : (x.kind == 3) = true := by simp [*]
     have k3b : decide (x.kind = 3) = true := by simp [*]
     have g1 : x.goal = false := by simpa using hg
     have hv2 : x.id.toList = [] := Classical.byContradiction hv
     have v1 : (x.id.toList == []) = true := by simp [hv2]
     have v2 : x.id.toList.isEmpty = true := by simp [hv2]
     have v3 : decide (x.id.toList = []) = true := by simp [hv2]
     have aa : decide ((0 : Int) < (x.attr.length : Int)) = false := decide_eq_false (by omega)
     have ab : decide (0 < x.attr.length) = false := decide_eq_false (by omega)
     have ba : decide ((0 : Int) < (x.value.length : Int)) = true := decide_eq_true (by omega)
     have bb : decide (0 < x.value.length) = true := decide_eq_true (by omega)
     have HR := Lib.hid (show condE x deep = 9 by simp [condE, *])
     have H_k3 := Lib.hid k3
     have H_k3b := Lib.hid k3b
     have H_g1 := Lib.hid g1
     have H_hv2 := Lib.hid hv2
     have H_v1 := Lib.hid v1
     have H_v2 := Lib.hid v2
     have H_v3 := Lib.hid v3
     have H_aa := Lib.hid aa
     have H_ab := Lib.hid ab
     have H_ba := Lib.hid ba
     have H_bb := Lib.hid bb
     clear k3 k3b g1 hv2 v1 v2 v3 aa ab ba bb
     clear hk3 hk3x hg hv ha hb
     go_enter Tryz.func95, Tryz.ntmps95
     go_upto_region 1 with fail
     obtain ⟨W1, hW1⟩ : ∃ W1, W1 = w.alloc (.cells #[.int .i64 x.kind, .bool x.goal, .string x.id, .slice A1 x.attr.length c1, .slice A2 x.value.length c2, .bool x.acc, .slice A3 x.conds.length c3] 62) := ⟨_, rfl⟩
     rw [← hW1]
     have hBk : Blk W1 w.heap.size 62 #[.int .i64 x.kind, .bool x.goal, .string x.id, .slice A1 x.attr.length c1, .slice A2 x.value.length c2, .bool x.acc, .slice A3 x.conds.length c3] := by rw [hW1]; exact Blk.new _ _ _
     have HB := Lib.hid (show Below w.heap.size w W1 by rw [hW1]; exact (Below.refl _ _).alloc (Nat.le_refl _) _)
     have e0 : W1.cell? ⟨w.heap.size, 0, none⟩ = some (.int .i64 x.kind) := (hBk.cell 0).trans rfl
     have e1 : W1.cell? ⟨w.heap.size, 1, none⟩ = some (.bool x.goal) := (hBk.cell 1).trans rfl
     have e2 : W1.cell? ⟨w.heap.size, 2, none⟩ = some (.string x.id) := (hBk.cell 2).trans rfl
     have e3 : W1.cell? ⟨w.heap.size, 3, none⟩ = some (.slice A1 x.attr.length c1) := (hBk.cell 3).trans rfl
     have e4 : W1.cell? ⟨w.heap.size, 4, none⟩ = some (.slice A2 x.value.length c2) := (hBk.cell 4).trans rfl
     have e5 : W1.cell? ⟨w.heap.size, 5, none⟩ = some (.bool x.acc) := (hBk.cell 5).trans rfl
     have e6 : W1.cell? ⟨w.heap.size, 6, none⟩ = some (.slice A3 x.conds.length c3) := (hBk.cell 6).trans rfl
     have hbl := hBk.lt
     clear hW1 hBk
     have k3 := H_k3.out
     have k3b := H_k3b.out
     have g1 := H_g1.out
     have v1 := H_v1.out
     have v2 := H_v2.out
     have v3 := H_v3.out
     have aa := H_aa.out
     have ab := H_ab.out
     have ba := H_ba.out
     have bb := H_bb.out
     go_wp2_with (first | (go_at_call 81; refine (word_is x.id _).mono ?_; rintro e w9 ⟨rfl, rfl⟩) | (go_at_call 113; (first | (with_reducible refine (tests_is A1 c1 x.attr _ (H1.out.new_ HB.out)).mono ?_) | (with_reducible refine (tests_is A2 c2 x.value _ (H2.out.new_ HB.out)).mono ?_)); rintro e w9 ⟨rfl, hb9⟩; have HB := Lib.hid (HB.out.trans (hb9.mono HB.out.size)); replace e0 := (hb9.cell (p := ⟨w.heap.size, 0, none⟩) hbl).trans e0; replace e1 := (hb9.cell (p := ⟨w.heap.size, 1, none⟩) hbl).trans e1; replace e2 := (hb9.cell (p := ⟨w.heap.size, 2, none⟩) hbl).trans e2; replace e3 := (hb9.cell (p := ⟨w.heap.size, 3, none⟩) hbl).trans e3; replace e4 := (hb9.cell (p := ⟨w.heap.size, 4, none⟩) hbl).trans e4; replace e5 := (hb9.cell (p := ⟨w.heap.size, 5, none⟩) hbl).trans e5; replace e6 := (hb9.cell (p := ⟨w.heap.size, 6, none⟩) hbl).trans e6; replace hbl := Nat.lt_of_lt_of_le hbl hb9.size; clear hb9))
     go_ret
     exact ⟨by rw [HR.out] <;> rfl, HB.out⟩
   by_cases hc : x.acc = true
   · have k3 : (x.kind == 3) = true := by simp [*]
     have k3b : decide (x.kind = 3) = true := by simp [*]
     have g1 : x.goal = false := by simpa using hg
     have hv2 : x.id.toList = [] := Classical.byContradiction hv
     have v1 : (x.id.toList == []) = true := by simp [hv2]
     have v2 : x.id.toList.isEmpty = true := by simp [hv2]
     have v3 : decide (x.id.toList = []) = true := by simp [hv2]
     have aa : decide ((0 : Int) < (x.attr.length : Int)) = false := decide_eq_false (by omega)
     have ab : decide (0 < x.attr.length) = false := decide_eq_false (by omega)
     have ba : decide ((0 : Int) < (x.value.length : Int)) = false := decide_eq_false (by omega)
     have bb : decide (0 < x.value.length) = false := decide_eq_false (by omega)
     have g2 := hc
     have HR := Lib.hid (show condE x deep = 9 by simp [condE, *])
     have H_k3 := Lib.hid k3
     have H_k3b := Lib.hid k3b
     have H_g1 := Lib.hid g1
     have H_hv2 := Lib.hid hv2
     have H_v1 := Lib.hid v1
     have H_v2 := Lib.hid v2
     have H_v3 := Lib.hid v3
     have H_aa := Lib.hid aa
     have H_ab := Lib.hid ab
     have H_ba := Lib.hid ba
     have H_bb := Lib.hid bb
     have H_g2 := Lib.hid g2
     clear k3 k3b g1 hv2 v1 v2 v3 aa ab ba bb g2
     clear hk3 hk3x hg hv ha hb hc
     go_enter Tryz.func95, Tryz.ntmps95
     go_upto_region 1 with fail
     obtain ⟨W1, hW1⟩ : ∃ W1, W1 = w.alloc (.cells #[.int .i64 x.kind, .bool x.goal, .string x.id, .slice A1 x.attr.length c1, .slice A2 x.value.length c2, .bool x.acc, .slice A3 x.conds.length c3] 62) := ⟨_, rfl⟩
     rw [← hW1]
     have hBk : Blk W1 w.heap.size 62 #[.int .i64 x.kind, .bool x.goal, .string x.id, .slice A1 x.attr.length c1, .slice A2 x.value.length c2, .bool x.acc, .slice A3 x.conds.length c3] := by rw [hW1]; exact Blk.new _ _ _
     have HB := Lib.hid (show Below w.heap.size w W1 by rw [hW1]; exact (Below.refl _ _).alloc (Nat.le_refl _) _)
     have e0 : W1.cell? ⟨w.heap.size, 0, none⟩ = some (.int .i64 x.kind) := (hBk.cell 0).trans rfl
     have e1 : W1.cell? ⟨w.heap.size, 1, none⟩ = some (.bool x.goal) := (hBk.cell 1).trans rfl
     have e2 : W1.cell? ⟨w.heap.size, 2, none⟩ = some (.string x.id) := (hBk.cell 2).trans rfl
     have e3 : W1.cell? ⟨w.heap.size, 3, none⟩ = some (.slice A1 x.attr.length c1) := (hBk.cell 3).trans rfl
     have e4 : W1.cell? ⟨w.heap.size, 4, none⟩ = some (.slice A2 x.value.length c2) := (hBk.cell 4).trans rfl
     have e5 : W1.cell? ⟨w.heap.size, 5, none⟩ = some (.bool x.acc) := (hBk.cell 5).trans rfl
     have e6 : W1.cell? ⟨w.heap.size, 6, none⟩ = some (.slice A3 x.conds.length c3) := (hBk.cell 6).trans rfl
     have hbl := hBk.lt
     clear hW1 hBk
     have k3 := H_k3.out
     have k3b := H_k3b.out
     have g1 := H_g1.out
     have v1 := H_v1.out
     have v2 := H_v2.out
     have v3 := H_v3.out
     have aa := H_aa.out
     have ab := H_ab.out
     have ba := H_ba.out
     have bb := H_bb.out
     have g2 := H_g2.out
     go_wp2_with (first | (go_at_call 81; refine (word_is x.id _).mono ?_; rintro e w9 ⟨rfl, rfl⟩) | (go_at_call 113; (first | (with_reducible refine (tests_is A1 c1 x.attr _ (H1.out.new_ HB.out)).mono ?_) | (with_reducible refine (tests_is A2 c2 x.value _ (H2.out.new_ HB.out)).mono ?_)); rintro e w9 ⟨rfl, hb9⟩; have HB := Lib.hid (HB.out.trans (hb9.mono HB.out.size)); replace e0 := (hb9.cell (p := ⟨w.heap.size, 0, none⟩) hbl).trans e0; replace e1 := (hb9.cell (p := ⟨w.heap.size, 1, none⟩) hbl).trans e1; replace e2 := (hb9.cell (p := ⟨w.heap.size, 2, none⟩) hbl).trans e2; replace e3 := (hb9.cell (p := ⟨w.heap.size, 3, none⟩) hbl).trans e3; replace e4 := (hb9.cell (p := ⟨w.heap.size, 4, none⟩) hbl).trans e4; replace e5 := (hb9.cell (p := ⟨w.heap.size, 5, none⟩) hbl).trans e5; replace e6 := (hb9.cell (p := ⟨w.heap.size, 6, none⟩) hbl).trans e6; replace hbl := Nat.lt_of_lt_of_le hbl hb9.size; clear hb9))
     go_ret
     exact ⟨by rw [HR.out] <;> rfl, HB.out⟩
   by_cases hd : x.conds.length = 0
   · have k3 : (x.kind == 3) = true := by simp [*]
     have k3b : decide (x.kind = 3) = true := by simp [*]
     have g1 : x.goal = false := by simpa using hg
     have hv2 : x.id.toList = [] := Classical.byContradiction hv
     have v1 : (x.id.toList == []) = true := by simp [hv2]
     have v2 : x.id.toList.isEmpty = true := by simp [hv2]
     have v3 : decide (x.id.toList = []) = true := by simp [hv2]
     have aa : decide ((0 : Int) < (x.attr.length : Int)) = false := decide_eq_false (by omega)
     have ab : decide (0 < x.attr.length) = false := decide_eq_false (by omega)
     have ba : decide ((0 : Int) < (x.value.length : Int)) = false := decide_eq_false (by omega)
     have bb : decide (0 < x.value.length) = false := decide_eq_false (by omega)
     have g2 : x.acc = false := by simpa using hc
     have dz : ((x.conds.length : Int) == 0) = true := by rw [beq_iff_eq]; omega
     have dy : decide ((x.conds.length : Int) = 0) = true := decide_eq_true (by omega)
     have HR := Lib.hid (show condE x deep = 9 by simp [condE, *])
     have H_k3 := Lib.hid k3
     have H_k3b := Lib.hid k3b
     have H_g1 := Lib.hid g1
     have H_hv2 := Lib.hid hv2
     have H_v1 := Lib.hid v1
     have H_v2 := Lib.hid v2
     have H_v3 := Lib.hid v3
     have H_aa := Lib.hid aa
     have H_ab := Lib.hid ab
     have H_ba := Lib.hid ba
     have H_bb := Lib.hid bb
     have H_g2 := Lib.hid g2
     have H_dz := Lib.hid dz
     have H_dy := Lib.hid dy
     clear k3 k3b g1 hv2 v1 v2 v3 aa ab ba bb g2 dz dy
     clear hk3 hk3x hg hv ha hb hc hd
     go_enter Tryz.func95, Tryz.ntmps95
     go_upto_region 1 with fail
     obtain ⟨W1, hW1⟩ : ∃ W1, W1 = w.alloc (.cells #[.int .i64 x.kind, .bool x.goal, .string x.id, .slice A1 x.attr.length c1, .slice A2 x.value.length c2, .bool x.acc, .slice A3 x.conds.length c3] 62) := ⟨_, rfl⟩
     rw [← hW1]
     have hBk : Blk W1 w.heap.size 62 #[.int .i64 x.kind, .bool x.goal, .string x.id, .slice A1 x.attr.length c1, .slice A2 x.value.length c2, .bool x.acc, .slice A3 x.conds.length c3] := by rw [hW1]; exact Blk.new _ _ _
     have HB := Lib.hid (show Below w.heap.size w W1 by rw [hW1]; exact (Below.refl _ _).alloc (Nat.le_refl _) _)
     have e0 : W1.cell? ⟨w.heap.size, 0, none⟩ = some (.int .i64 x.kind) := (hBk.cell 0).trans rfl
     have e1 : W1.cell? ⟨w.heap.size, 1, none⟩ = some (.bool x.goal) := (hBk.cell 1).trans rfl
     have e2 : W1.cell? ⟨w.heap.size, 2, none⟩ = some (.string x.id) := (hBk.cell 2).trans rfl
     have e3 : W1.cell? ⟨w.heap.size, 3, none⟩ = some (.slice A1 x.attr.length c1) := (hBk.cell 3).trans rfl
     have e4 : W1.cell? ⟨w.heap.size, 4, none⟩ = some (.slice A2 x.value.length c2) := (hBk.cell 4).trans rfl
     have e5 : W1.cell? ⟨w.heap.size, 5, none⟩ = some (.bool x.acc) := (hBk.cell 5).trans rfl
     have e6 : W1.cell? ⟨w.heap.size, 6, none⟩ = some (.slice A3 x.conds.length c3) := (hBk.cell 6).trans rfl
     have hbl := hBk.lt
     clear hW1 hBk
     have k3 := H_k3.out
     have k3b := H_k3b.out
     have g1 := H_g1.out
     have v1 := H_v1.out
     have v2 := H_v2.out
     have v3 := H_v3.out
     have aa := H_aa.out
     have ab := H_ab.out
     have ba := H_ba.out
     have bb := H_bb.out
     have g2 := H_g2.out
     have dz := H_dz.out
     have dy := H_dy.out
     go_wp2_with (first | (go_at_call 81; refine (word_is x.id _).mono ?_; rintro e w9 ⟨rfl, rfl⟩) | (go_at_call 113; (first | (with_reducible refine (tests_is A1 c1 x.attr _ (H1.out.new_ HB.out)).mono ?_) | (with_reducible refine (tests_is A2 c2 x.value _ (H2.out.new_ HB.out)).mono ?_)); rintro e w9 ⟨rfl, hb9⟩; have HB := Lib.hid (HB.out.trans (hb9.mono HB.out.size)); replace e0 := (hb9.cell (p := ⟨w.heap.size, 0, none⟩) hbl).trans e0; replace e1 := (hb9.cell (p := ⟨w.heap.size, 1, none⟩) hbl).trans e1; replace e2 := (hb9.cell (p := ⟨w.heap.size, 2, none⟩) hbl).trans e2; replace e3 := (hb9.cell (p := ⟨w.heap.size, 3, none⟩) hbl).trans e3; replace e4 := (hb9.cell (p := ⟨w.heap.size, 4, none⟩) hbl).trans e4; replace e5 := (hb9.cell (p := ⟨w.heap.size, 5, none⟩) hbl).trans e5; replace e6 := (hb9.cell (p := ⟨w.heap.size, 6, none⟩) hbl).trans e6; replace hbl := Nat.lt_of_lt_of_le hbl hb9.size; clear hb9))
     go_ret
     exact ⟨by rw [HR.out] <;> rfl, HB.out⟩
   by_cases he : 3 ≤ deep
   · have k3 : (x.kind == 3) = true := by simp [*]
     have k3b : decide (x.kind = 3) = true := by simp [*]
     have g1 : x.goal = false := by simpa using hg
     have hv2 : x.id.toList = [] := Classical.byContradiction hv
     have v1 : (x.id.toList == []) = true := by simp [hv2]
     have v2 : x.id.toList.isEmpty = true := by simp [hv2]
     have v3 : decide (x.id.toList = []) = true := by simp [hv2]
     have aa : decide ((0 : Int) < (x.attr.length : Int)) = false := decide_eq_false (by omega)
     have ab : decide (0 < x.attr.length) = false := decide_eq_false (by omega)
     have ba : decide ((0 : Int) < (x.value.length : Int)) = false := decide_eq_false (by omega)
     have bb : decide (0 < x.value.length) = false := decide_eq_false (by omega)
     have g2 : x.acc = false := by simpa using hc
     have dz : ((x.conds.length : Int) == 0) = false := by rw [beq_eq_false_iff_ne]; omega
     have dy : decide ((x.conds.length : Int) = 0) = false := decide_eq_false (by omega)
     have p1 : decide ((3 : Int) ≤ (deep : Int)) = true := decide_eq_true (by omega)
     have p2 : decide (3 ≤ deep) = true := decide_eq_true (by omega)
     have HR := Lib.hid (show condE x deep = 8 by simp [condE, *])
     have H_k3 := Lib.hid k3
     have H_k3b := Lib.hid k3b
     have H_g1 := Lib.hid g1
     have H_hv2 := Lib.hid hv2
     have H_v1 := Lib.hid v1
     have H_v2 := Lib.hid v2
     have H_v3 := Lib.hid v3
     have H_aa := Lib.hid aa
     have H_ab := Lib.hid ab
     have H_ba := Lib.hid ba
     have H_bb := Lib.hid bb
     have H_g2 := Lib.hid g2
     have H_dz := Lib.hid dz
     have H_dy := Lib.hid dy
     have H_p1 := Lib.hid p1
     have H_p2 := Lib.hid p2
     clear k3 k3b g1 hv2 v1 v2 v3 aa ab ba bb g2 dz dy p1 p2
     clear hk3 hk3x hg hv ha hb hc hd he
     go_enter Tryz.func95, Tryz.ntmps95
     go_upto_region 1 with fail
     obtain ⟨W1, hW1⟩ : ∃ W1, W1 = w.alloc (.cells #[.int .i64 x.kind, .bool x.goal, .string x.id, .slice A1 x.attr.length c1, .slice A2 x.value.length c2, .bool x.acc, .slice A3 x.conds.length c3] 62) := ⟨_, rfl⟩
     rw [← hW1]
     have hBk : Blk W1 w.heap.size 62 #[.int .i64 x.kind, .bool x.goal, .string x.id, .slice A1 x.attr.length c1, .slice A2 x.value.length c2, .bool x.acc, .slice A3 x.conds.length c3] := by rw [hW1]; exact Blk.new _ _ _
     have HB := Lib.hid (show Below w.heap.size w W1 by rw [hW1]; exact (Below.refl _ _).alloc (Nat.le_refl _) _)
     have e0 : W1.cell? ⟨w.heap.size, 0, none⟩ = some (.int .i64 x.kind) := (hBk.cell 0).trans rfl
     have e1 : W1.cell? ⟨w.heap.size, 1, none⟩ = some (.bool x.goal) := (hBk.cell 1).trans rfl
     have e2 : W1.cell? ⟨w.heap.size, 2, none⟩ = some (.string x.id) := (hBk.cell 2).trans rfl
     have e3 : W1.cell? ⟨w.heap.size, 3, none⟩ = some (.slice A1 x.attr.length c1) := (hBk.cell 3).trans rfl
     have e4 : W1.cell? ⟨w.heap.size, 4, none⟩ = some (.slice A2 x.value.length c2) := (hBk.cell 4).trans rfl
     have e5 : W1.cell? ⟨w.heap.size, 5, none⟩ = some (.bool x.acc) := (hBk.cell 5).trans rfl
     have e6 : W1.cell? ⟨w.heap.size, 6, none⟩ = some (.slice A3 x.conds.length c3) := (hBk.cell 6).trans rfl
     have hbl := hBk.lt
     clear hW1 hBk
     have k3 := H_k3.out
     have k3b := H_k3b.out
     have g1 := H_g1.out
     have v1 := H_v1.out
     have v2 := H_v2.out
     have v3 := H_v3.out
     have aa := H_aa.out
     have ab := H_ab.out
     have ba := H_ba.out
     have bb := H_bb.out
     have g2 := H_g2.out
     have dz := H_dz.out
     have dy := H_dy.out
     have p1 := H_p1.out
     have p2 := H_p2.out
     go_wp2_with (first | (go_at_call 81; refine (word_is x.id _).mono ?_; rintro e w9 ⟨rfl, rfl⟩) | (go_at_call 113; (first | (with_reducible refine (tests_is A1 c1 x.attr _ (H1.out.new_ HB.out)).mono ?_) | (with_reducible refine (tests_is A2 c2 x.value _ (H2.out.new_ HB.out)).mono ?_)); rintro e w9 ⟨rfl, hb9⟩; have HB := Lib.hid (HB.out.trans (hb9.mono HB.out.size)); replace e0 := (hb9.cell (p := ⟨w.heap.size, 0, none⟩) hbl).trans e0; replace e1 := (hb9.cell (p := ⟨w.heap.size, 1, none⟩) hbl).trans e1; replace e2 := (hb9.cell (p := ⟨w.heap.size, 2, none⟩) hbl).trans e2; replace e3 := (hb9.cell (p := ⟨w.heap.size, 3, none⟩) hbl).trans e3; replace e4 := (hb9.cell (p := ⟨w.heap.size, 4, none⟩) hbl).trans e4; replace e5 := (hb9.cell (p := ⟨w.heap.size, 5, none⟩) hbl).trans e5; replace e6 := (hb9.cell (p := ⟨w.heap.size, 6, none⟩) hbl).trans e6; replace hbl := Nat.lt_of_lt_of_le hbl hb9.size; clear hb9))
     go_ret
     exact ⟨by rw [HR.out] <;> rfl, HB.out⟩
   have k3 : (x.kind == 3) = true := by simp [*]
   have k3b : decide (x.kind = 3) = true := by simp [*]
   have g1 : x.goal = false := by simpa using hg
   have hv2 : x.id.toList = [] := Classical.byContradiction hv
   have v1 : (x.id.toList == []) = true := by simp [hv2]
   have v2 : x.id.toList.isEmpty = true := by simp [hv2]
   have v3 : decide (x.id.toList = []) = true := by simp [hv2]
   have aa : decide ((0 : Int) < (x.attr.length : Int)) = false := decide_eq_false (by omega)
   have ab : decide (0 < x.attr.length) = false := decide_eq_false (by omega)
   have ba : decide ((0 : Int) < (x.value.length : Int)) = false := decide_eq_false (by omega)
   have bb : decide (0 < x.value.length) = false := decide_eq_false (by omega)
   have g2 : x.acc = false := by simpa using hc
   have dz : ((x.conds.length : Int) == 0) = false := by rw [beq_eq_false_iff_ne]; omega
   have dy : decide ((x.conds.length : Int) = 0) = false := decide_eq_false (by omega)
   have p1 : decide ((3 : Int) ≤ (deep : Int)) = false := decide_eq_false (by omega)
   have p2 : decide (3 ≤ deep) = false := decide_eq_false (by omega)
   have HR := Lib.hid (show condE x deep = 0 by simp [condE, *])
   have H_k3 := Lib.hid k3
   have H_k3b := Lib.hid k3b
   have H_g1 := Lib.hid g1
   have H_hv2 := Lib.hid hv2
   have H_v1 := Lib.hid v1
   have H_v2 := Lib.hid v2
   have H_v3 := Lib.hid v3
   have H_aa := Lib.hid aa
   have H_ab := Lib.hid ab
   have H_ba := Lib.hid ba
   have H_bb := Lib.hid bb
   have H_g2 := Lib.hid g2
   have H_dz := Lib.hid dz
   have H_dy := Lib.hid dy
   have H_p1 := Lib.hid p1
   have H_p2 := Lib.hid p2
   clear k3 k3b g1 hv2 v1 v2 v3 aa ab ba bb g2 dz dy p1 p2
   clear hk3 hk3x hg hv ha hb hc hd he
   go_enter Tryz.func95, Tryz.ntmps95
   go_upto_region 1 with fail
   obtain ⟨W1, hW1⟩ : ∃ W1, W1 = w.alloc (.cells #[.int .i64 x.kind, .bool x.goal, .string x.id, .slice A1 x.attr.length c1, .slice A2 x.value.length c2, .bool x.acc, .slice A3 x.conds.length c3] 62) := ⟨_, rfl⟩
   rw [← hW1]
   have hBk : Blk W1 w.heap.size 62 #[.int .i64 x.kind, .bool x.goal, .string x.id, .slice A1 x.attr.length c1, .slice A2 x.value.length c2, .bool x.acc, .slice A3 x.conds.length c3] := by rw [hW1]; exact Blk.new _ _ _
   have HB := Lib.hid (show Below w.heap.size w W1 by rw [hW1]; exact (Below.refl _ _).alloc (Nat.le_refl _) _)
   have e0 : W1.cell? ⟨w.heap.size, 0, none⟩ = some (.int .i64 x.kind) := (hBk.cell 0).trans rfl
   have e1 : W1.cell? ⟨w.heap.size, 1, none⟩ = some (.bool x.goal) := (hBk.cell 1).trans rfl
   have e2 : W1.cell? ⟨w.heap.size, 2, none⟩ = some (.string x.id) := (hBk.cell 2).trans rfl
   have e3 : W1.cell? ⟨w.heap.size, 3, none⟩ = some (.slice A1 x.attr.length c1) := (hBk.cell 3).trans rfl
   have e4 : W1.cell? ⟨w.heap.size, 4, none⟩ = some (.slice A2 x.value.length c2) := (hBk.cell 4).trans rfl
   have e5 : W1.cell? ⟨w.heap.size, 5, none⟩ = some (.bool x.acc) := (hBk.cell 5).trans rfl
   have e6 : W1.cell? ⟨w.heap.size, 6, none⟩ = some (.slice A3 x.conds.length c3) := (hBk.cell 6).trans rfl
   have hbl := hBk.lt
   clear hW1 hBk
   have k3 := H_k3.out
   have k3b := H_k3b.out
   have g1 := H_g1.out
   have v1 := H_v1.out
   have v2 := H_v2.out
   have v3 := H_v3.out
   have aa := H_aa.out
   have ab := H_ab.out
   have ba := H_ba.out
   have bb := H_bb.out
   have g2 := H_g2.out
   have dz := H_dz.out
   have dy := H_dy.out
   have p1 := H_p1.out
   have p2 := H_p2.out
   go_wp2_with (first | (go_at_call 81; refine (word_is x.id _).mono ?_; rintro e w9 ⟨rfl, rfl⟩) | (go_at_call 113; (first | (with_reducible refine (tests_is A1 c1 x.attr _ (H1.out.new_ HB.out)).mono ?_) | (with_reducible refine (tests_is A2 c2 x.value _ (H2.out.new_ HB.out)).mono ?_)); rintro e w9 ⟨rfl, hb9⟩; have HB := Lib.hid (HB.out.trans (hb9.mono HB.out.size)); replace e0 := (hb9.cell (p := ⟨w.heap.size, 0, none⟩) hbl).trans e0; replace e1 := (hb9.cell (p := ⟨w.heap.size, 1, none⟩) hbl).trans e1; replace e2 := (hb9.cell (p := ⟨w.heap.size, 2, none⟩) hbl).trans e2; replace e3 := (hb9.cell (p := ⟨w.heap.size, 3, none⟩) hbl).trans e3; replace e4 := (hb9.cell (p := ⟨w.heap.size, 4, none⟩) hbl).trans e4; replace e5 := (hb9.cell (p := ⟨w.heap.size, 5, none⟩) hbl).trans e5; replace e6 := (hb9.cell (p := ⟨w.heap.size, 6, none⟩) hbl).trans e6; replace hbl := Nat.lt_of_lt_of_le hbl hb9.size; clear hb9))
   go_ret
   exact ⟨by rw [HR.out] <;> rfl, HB.out⟩
 by_cases hk1 : x.kind = 1
 · have hk1x := hk1
   by_cases ha : 0 < x.conds.length
   · have k3 : (x.kind == 3) = false := by simp [*]
     have k3b : decide (x.kind = 3) = false := by simp [*]
     have k1 : (x.kind == 1) = true := by simp [*]
     have k1b : decide (x.kind = 1) = true := by simp [*]
     have aa : decide ((0 : Int) < (x.conds.length : Int)) = true := decide_eq_true (by omega)
     have ab : decide (0 < x.conds.length) = true := decide_eq_true (by omega)
     have HR := Lib.hid (show condE x deep = 9 by simp [condE, *])
     have H_k3 := Lib.hid k3
     have H_k3b := Lib.hid k3b
     have H_k1 := Lib.hid k1
     have H_k1b := Lib.hid k1b
     have H_aa := Lib.hid aa
     have H_ab := Lib.hid ab
     clear k3 k3b k1 k1b aa ab
     clear hk3 hk1 hk1x ha
     go_enter Tryz.func95, Tryz.ntmps95
     go_upto_region 1 with fail
     obtain ⟨W1, hW1⟩ : ∃ W1, W1 = w.alloc (.cells #[.int .i64 x.kind, .bool x.goal, .string x.id, .slice A1 x.attr.length c1, .slice A2 x.value.length c2, .bool x.acc, .slice A3 x.conds.length c3] 62) := ⟨_, rfl⟩
     rw [← hW1]
     have hBk : Blk W1 w.heap.size 62 #[.int .i64 x.kind, .bool x.goal, .string x.id, .slice A1 x.attr.length c1, .slice A2 x.value.length c2, .bool x.acc, .slice A3 x.conds.length c3] := by rw [hW1]; exact Blk.new _ _ _
     have HB := Lib.hid (show Below w.heap.size w W1 by rw [hW1]; exact (Below.refl _ _).alloc (Nat.le_refl _) _)
     have e0 : W1.cell? ⟨w.heap.size, 0, none⟩ = some (.int .i64 x.kind) := (hBk.cell 0).trans rfl
     have e1 : W1.cell? ⟨w.heap.size, 1, none⟩ = some (.bool x.goal) := (hBk.cell 1).trans rfl
     have e2 : W1.cell? ⟨w.heap.size, 2, none⟩ = some (.string x.id) := (hBk.cell 2).trans rfl
     have e3 : W1.cell? ⟨w.heap.size, 3, none⟩ = some (.slice A1 x.attr.length c1) := (hBk.cell 3).trans rfl
     have e4 : W1.cell? ⟨w.heap.size, 4, none⟩ = some (.slice A2 x.value.length c2) := (hBk.cell 4).trans rfl
     have e5 : W1.cell? ⟨w.heap.size, 5, none⟩ = some (.bool x.acc) := (hBk.cell 5).trans rfl
     have e6 : W1.cell? ⟨w.heap.size, 6, none⟩ = some (.slice A3 x.conds.length c3) := (hBk.cell 6).trans rfl
     have hbl := hBk.lt
     clear hW1 hBk
     have k3 := H_k3.out
     have k3b := H_k3b.out
     have k1 := H_k1.out
     have k1b := H_k1b.out
     have aa := H_aa.out
     have ab := H_ab.out
     go_wp2_with (first | (go_at_call 81; refine (word_is x.id _).mono ?_; rintro e w9 ⟨rfl, rfl⟩) | (go_at_call 113; (first | (with_reducible refine (tests_is A1 c1 x.attr _ (H1.out.new_ HB.out)).mono ?_) | (with_reducible refine (tests_is A2 c2 x.value _ (H2.out.new_ HB.out)).mono ?_)); rintro e w9 ⟨rfl, hb9⟩; have HB := Lib.hid (HB.out.trans (hb9.mono HB.out.size)); replace e0 := (hb9.cell (p := ⟨w.heap.size, 0, none⟩) hbl).trans e0; replace e1 := (hb9.cell (p := ⟨w.heap.size, 1, none⟩) hbl).trans e1; replace e2 := (hb9.cell (p := ⟨w.heap.size, 2, none⟩) hbl).trans e2; replace e3 := (hb9.cell (p := ⟨w.heap.size, 3, none⟩) hbl).trans e3; replace e4 := (hb9.cell (p := ⟨w.heap.size, 4, none⟩) hbl).trans e4; replace e5 := (hb9.cell (p := ⟨w.heap.size, 5, none⟩) hbl).trans e5; replace e6 := (hb9.cell (p := ⟨w.heap.size, 6, none⟩) hbl).trans e6; replace hbl := Nat.lt_of_lt_of_le hbl hb9.size; clear hb9))
     go_ret
     exact ⟨by rw [HR.out] <;> rfl, HB.out⟩
   by_cases hb : isWord x.id = false
   · have k3 : (x.kind == 3) = false := by simp [*]
     have k3b : decide (x.kind = 3) = false := by simp [*]
     have k1 : (x.kind == 1) = true := by simp [*]
     have k1b : decide (x.kind = 1) = true := by simp [*]
     have aa : decide ((0 : Int) < (x.conds.length : Int)) = false := decide_eq_false (by omega)
     have ab : decide (0 < x.conds.length) = false := decide_eq_false (by omega)
     have w1 := hb
     have HR := Lib.hid (show condE x deep = 9 by simp [condE, *])
     have H_k3 := Lib.hid k3
     have H_k3b := Lib.hid k3b
     have H_k1 := Lib.hid k1
     have H_k1b := Lib.hid k1b
     have H_aa := Lib.hid aa
     have H_ab := Lib.hid ab
     have H_w1 := Lib.hid w1
     clear k3 k3b k1 k1b aa ab w1
     clear hk3 hk1 hk1x ha hb
     go_enter Tryz.func95, Tryz.ntmps95
     go_upto_region 1 with fail
     obtain ⟨W1, hW1⟩ : ∃ W1, W1 = w.alloc (.cells #[.int .i64 x.kind, .bool x.goal, .string x.id, .slice A1 x.attr.length c1, .slice A2 x.value.length c2, .bool x.acc, .slice A3 x.conds.length c3] 62) := ⟨_, rfl⟩
     rw [← hW1]
     have hBk : Blk W1 w.heap.size 62 #[.int .i64 x.kind, .bool x.goal, .string x.id, .slice A1 x.attr.length c1, .slice A2 x.value.length c2, .bool x.acc, .slice A3 x.conds.length c3] := by rw [hW1]; exact Blk.new _ _ _
     have HB := Lib.hid (show Below w.heap.size w W1 by rw [hW1]; exact (Below.refl _ _).alloc (Nat.le_refl _) _)
     have e0 : W1.cell? ⟨w.heap.size, 0, none⟩ = some (.int .i64 x.kind) := (hBk.cell 0).trans rfl
     have e1 : W1.cell? ⟨w.heap.size, 1, none⟩ = some (.bool x.goal) := (hBk.cell 1).trans rfl
     have e2 : W1.cell? ⟨w.heap.size, 2, none⟩ = some (.string x.id) := (hBk.cell 2).trans rfl
     have e3 : W1.cell? ⟨w.heap.size, 3, none⟩ = some (.slice A1 x.attr.length c1) := (hBk.cell 3).trans rfl
     have e4 : W1.cell? ⟨w.heap.size, 4, none⟩ = some (.slice A2 x.value.length c2) := (hBk.cell 4).trans rfl
     have e5 : W1.cell? ⟨w.heap.size, 5, none⟩ = some (.bool x.acc) := (hBk.cell 5).trans rfl
     have e6 : W1.cell? ⟨w.heap.size, 6, none⟩ = some (.slice A3 x.conds.length c3) := (hBk.cell 6).trans rfl
     have hbl := hBk.lt
     clear hW1 hBk
     have k3 := H_k3.out
     have k3b := H_k3b.out
     have k1 := H_k1.out
     have k1b := H_k1b.out
     have aa := H_aa.out
     have ab := H_ab.out
     have w1 := H_w1.out
     go_wp2_with (first | (go_at_call 81; refine (word_is x.id _).mono ?_; rintro e w9 ⟨rfl, rfl⟩) | (go_at_call 113; (first | (with_reducible refine (tests_is A1 c1 x.attr _ (H1.out.new_ HB.out)).mono ?_) | (with_reducible refine (tests_is A2 c2 x.value _ (H2.out.new_ HB.out)).mono ?_)); rintro e w9 ⟨rfl, hb9⟩; have HB := Lib.hid (HB.out.trans (hb9.mono HB.out.size)); replace e0 := (hb9.cell (p := ⟨w.heap.size, 0, none⟩) hbl).trans e0; replace e1 := (hb9.cell (p := ⟨w.heap.size, 1, none⟩) hbl).trans e1; replace e2 := (hb9.cell (p := ⟨w.heap.size, 2, none⟩) hbl).trans e2; replace e3 := (hb9.cell (p := ⟨w.heap.size, 3, none⟩) hbl).trans e3; replace e4 := (hb9.cell (p := ⟨w.heap.size, 4, none⟩) hbl).trans e4; replace e5 := (hb9.cell (p := ⟨w.heap.size, 5, none⟩) hbl).trans e5; replace e6 := (hb9.cell (p := ⟨w.heap.size, 6, none⟩) hbl).trans e6; replace hbl := Nat.lt_of_lt_of_le hbl hb9.size; clear hb9))
     go_ret
     exact ⟨by rw [HR.out] <;> rfl, HB.out⟩
   by_cases hc : x.attr.length = 0
   · have k3 : (x.kind == 3) = false := by simp [*]
     have k3b : decide (x.kind = 3) = false := by simp [*]
     have k1 : (x.kind == 1) = true := by simp [*]
     have k1b : decide (x.kind = 1) = true := by simp [*]
     have aa : decide ((0 : Int) < (x.conds.length : Int)) = false := decide_eq_false (by omega)
     have ab : decide (0 < x.conds.length) = false := decide_eq_false (by omega)
     have w1 : isWord x.id = true := by simpa using hb
     have dz : ((x.attr.length : Int) == 0) = true := by rw [beq_iff_eq]; omega
     have dy : decide ((x.attr.length : Int) = 0) = true := decide_eq_true (by omega)
     have l1 : x.attr = [] := List.length_eq_zero_iff.1 hc
     have HR := Lib.hid (show condE x deep = 9 by simp [condE, *])
     have H_k3 := Lib.hid k3
     have H_k3b := Lib.hid k3b
     have H_k1 := Lib.hid k1
     have H_k1b := Lib.hid k1b
     have H_aa := Lib.hid aa
     have H_ab := Lib.hid ab
     have H_w1 := Lib.hid w1
     have H_dz := Lib.hid dz
     have H_dy := Lib.hid dy
     have H_l1 := Lib.hid l1
     clear k3 k3b k1 k1b aa ab w1 dz dy l1
     clear hk3 hk1 hk1x ha hb hc
     go_enter Tryz.func95, Tryz.ntmps95
     go_upto_region 1 with fail
     obtain ⟨W1, hW1⟩ : ∃ W1, W1 = w.alloc (.cells #[.int .i64 x.kind, .bool x.goal, .string x.id, .slice A1 x.attr.length c1, .slice A2 x.value.length c2, .bool x.acc, .slice A3 x.conds.length c3] 62) := ⟨_, rfl⟩
     rw [← hW1]
     have hBk : Blk W1 w.heap.size 62 #[.int .i64 x.kind, .bool x.goal, .string x.id, .slice A1 x.attr.length c1, .slice A2 x.value.length c2, .bool x.acc, .slice A3 x.conds.length c3] := by rw [hW1]; exact Blk.new _ _ _
     have HB := Lib.hid (show Below w.heap.size w W1 by rw [hW1]; exact (Below.refl _ _).alloc (Nat.le_refl _) _)
     have e0 : W1.cell? ⟨w.heap.size, 0, none⟩ = some (.int .i64 x.kind) := (hBk.cell 0).trans rfl
     have e1 : W1.cell? ⟨w.heap.size, 1, none⟩ = some (.bool x.goal) := (hBk.cell 1).trans rfl
     have e2 : W1.cell? ⟨w.heap.size, 2, none⟩ = some (.string x.id) := (hBk.cell 2).trans rfl
     have e3 : W1.cell? ⟨w.heap.size, 3, none⟩ = some (.slice A1 x.attr.length c1) := (hBk.cell 3).trans rfl
     have e4 : W1.cell? ⟨w.heap.size, 4, none⟩ = some (.slice A2 x.value.length c2) := (hBk.cell 4).trans rfl
     have e5 : W1.cell? ⟨w.heap.size, 5, none⟩ = some (.bool x.acc) := (hBk.cell 5).trans rfl
     have e6 : W1.cell? ⟨w.heap.size, 6, none⟩ = some (.slice A3 x.conds.length c3) := (hBk.cell 6).trans rfl
     have hbl := hBk.lt
     clear hW1 hBk
     have k3 := H_k3.out
     have k3b := H_k3b.out
     have k1 := H_k1.out
     have k1b := H_k1b.out
     have aa := H_aa.out
     have ab := H_ab.out
     have w1 := H_w1.out
     have dz := H_dz.out
     have dy := H_dy.out
     go_wp2_with (first | (go_at_call 81; refine (word_is x.id _).mono ?_; rintro e w9 ⟨rfl, rfl⟩) | (go_at_call 113; (first | (with_reducible refine (tests_is A1 c1 x.attr _ (H1.out.new_ HB.out)).mono ?_) | (with_reducible refine (tests_is A2 c2 x.value _ (H2.out.new_ HB.out)).mono ?_)); rintro e w9 ⟨rfl, hb9⟩; have HB := Lib.hid (HB.out.trans (hb9.mono HB.out.size)); replace e0 := (hb9.cell (p := ⟨w.heap.size, 0, none⟩) hbl).trans e0; replace e1 := (hb9.cell (p := ⟨w.heap.size, 1, none⟩) hbl).trans e1; replace e2 := (hb9.cell (p := ⟨w.heap.size, 2, none⟩) hbl).trans e2; replace e3 := (hb9.cell (p := ⟨w.heap.size, 3, none⟩) hbl).trans e3; replace e4 := (hb9.cell (p := ⟨w.heap.size, 4, none⟩) hbl).trans e4; replace e5 := (hb9.cell (p := ⟨w.heap.size, 5, none⟩) hbl).trans e5; replace e6 := (hb9.cell (p := ⟨w.heap.size, 6, none⟩) hbl).trans e6; replace hbl := Nat.lt_of_lt_of_le hbl hb9.size; clear hb9))
     go_ret
     exact ⟨by rw [HR.out] <;> rfl, HB.out⟩
   by_cases hd : 4 < x.attr.length
   · have k3 : (x.kind == 3) = false := by simp [*]
     have k3b : decide (x.kind = 3) = false := by simp [*]
     have k1 : (x.kind == 1) = true := by simp [*]
     have k1b : decide (x.kind = 1) = true := by simp [*]
     have aa : decide ((0 : Int) < (x.conds.length : Int)) = false := decide_eq_false (by omega)
     have ab : decide (0 < x.conds.length) = false := decide_eq_false (by omega)
     have w1 : isWord x.id = true := by simpa using hb
     have dz : ((x.attr.length : Int) == 0) = false := by rw [beq_eq_false_iff_ne]; omega
     have dy : decide ((x.attr.length : Int) = 0) = false := decide_eq_false (by omega)
     have fa : decide ((4 : Int) < (x.attr.length : Int)) = true := decide_eq_true (by omega)
     have fb : decide (4 < x.attr.length) = true := decide_eq_true (by omega)
     have HR := Lib.hid (show condE x deep = 7 by simp [condE, *])
     have H_k3 := Lib.hid k3
     have H_k3b := Lib.hid k3b
     have H_k1 := Lib.hid k1
     have H_k1b := Lib.hid k1b
     have H_aa := Lib.hid aa
     have H_ab := Lib.hid ab
     have H_w1 := Lib.hid w1
     have H_dz := Lib.hid dz
     have H_dy := Lib.hid dy
     have H_fa := Lib.hid fa
     have H_fb := Lib.hid fb
     clear k3 k3b k1 k1b aa ab w1 dz dy fa fb
     clear hk3 hk1 hk1x ha hb hc hd
     go_enter Tryz.func95, Tryz.ntmps95
     go_upto_region 1 with fail
     obtain ⟨W1, hW1⟩ : ∃ W1, W1 = w.alloc (.cells #[.int .i64 x.kind, .bool x.goal, .string x.id, .slice A1 x.attr.length c1, .slice A2 x.value.length c2, .bool x.acc, .slice A3 x.conds.length c3] 62) := ⟨_, rfl⟩
     rw [← hW1]
     have hBk : Blk W1 w.heap.size 62 #[.int .i64 x.kind, .bool x.goal, .string x.id, .slice A1 x.attr.length c1, .slice A2 x.value.length c2, .bool x.acc, .slice A3 x.conds.length c3] := by rw [hW1]; exact Blk.new _ _ _
     have HB := Lib.hid (show Below w.heap.size w W1 by rw [hW1]; exact (Below.refl _ _).alloc (Nat.le_refl _) _)
     have e0 : W1.cell? ⟨w.heap.size, 0, none⟩ = some (.int .i64 x.kind) := (hBk.cell 0).trans rfl
     have e1 : W1.cell? ⟨w.heap.size, 1, none⟩ = some (.bool x.goal) := (hBk.cell 1).trans rfl
     have e2 : W1.cell? ⟨w.heap.size, 2, none⟩ = some (.string x.id) := (hBk.cell 2).trans rfl
     have e3 : W1.cell? ⟨w.heap.size, 3, none⟩ = some (.slice A1 x.attr.length c1) := (hBk.cell 3).trans rfl
     have e4 : W1.cell? ⟨w.heap.size, 4, none⟩ = some (.slice A2 x.value.length c2) := (hBk.cell 4).trans rfl
     have e5 : W1.cell? ⟨w.heap.size, 5, none⟩ = some (.bool x.acc) := (hBk.cell 5).trans rfl
     have e6 : W1.cell? ⟨w.heap.size, 6, none⟩ = some (.slice A3 x.conds.length c3) := (hBk.cell 6).trans rfl
     have hbl := hBk.lt
     clear hW1 hBk
     have k3 := H_k3.out
     have k3b := H_k3b.out
     have k1 := H_k1.out
     have k1b := H_k1b.out
     have aa := H_aa.out
     have ab := H_ab.out
     have w1 := H_w1.out
     have dz := H_dz.out
     have dy := H_dy.out
     have fa := H_fa.out
     have fb := H_fb.out
     go_wp2_with (first | (go_at_call 81; refine (word_is x.id _).mono ?_; rintro e w9 ⟨rfl, rfl⟩) | (go_at_call 113; (first | (with_reducible refine (tests_is A1 c1 x.attr _ (H1.out.new_ HB.out)).mono ?_) | (with_reducible refine (tests_is A2 c2 x.value _ (H2.out.new_ HB.out)).mono ?_)); rintro e w9 ⟨rfl, hb9⟩; have HB := Lib.hid (HB.out.trans (hb9.mono HB.out.size)); replace e0 := (hb9.cell (p := ⟨w.heap.size, 0, none⟩) hbl).trans e0; replace e1 := (hb9.cell (p := ⟨w.heap.size, 1, none⟩) hbl).trans e1; replace e2 := (hb9.cell (p := ⟨w.heap.size, 2, none⟩) hbl).trans e2; replace e3 := (hb9.cell (p := ⟨w.heap.size, 3, none⟩) hbl).trans e3; replace e4 := (hb9.cell (p := ⟨w.heap.size, 4, none⟩) hbl).trans e4; replace e5 := (hb9.cell (p := ⟨w.heap.size, 5, none⟩) hbl).trans e5; replace e6 := (hb9.cell (p := ⟨w.heap.size, 6, none⟩) hbl).trans e6; replace hbl := Nat.lt_of_lt_of_le hbl hb9.size; clear hb9))
     go_ret
     exact ⟨by rw [HR.out] <;> rfl, HB.out⟩
   by_cases he : 4 < x.value.length
   · have k3 : (x.kind == 3) = false := by simp [*]
     have k3b : decide (x.kind = 3) = false := by simp [*]
     have k1 : (x.kind == 1) = true := by simp [*]
     have k1b : decide (x.kind = 1) = true := by simp [*]
     have aa : decide ((0 : Int) < (x.conds.length : Int)) = false := decide_eq_false (by omega)
     have ab : decide (0 < x.conds.length) = false := decide_eq_false (by omega)
     have w1 : isWord x.id = true := by simpa using hb
     have dz : ((x.attr.length : Int) == 0) = false := by rw [beq_eq_false_iff_ne]; omega
     have dy : decide ((x.attr.length : Int) = 0) = false := decide_eq_false (by omega)
     have fa : decide ((4 : Int) < (x.attr.length : Int)) = false := decide_eq_false (by omega)
     have fb : decide (4 < x.attr.length) = false := decide_eq_false (by omega)
     have ga : decide ((4 : Int) < (x.value.length : Int)) = true := decide_eq_true (by omega)
     have gb : decide (4 < x.value.length) = true := decide_eq_true (by omega)
     have HR := Lib.hid (show condE x deep = 7 by simp [condE, *])
     have H_k3 := Lib.hid k3
     have H_k3b := Lib.hid k3b
     have H_k1 := Lib.hid k1
     have H_k1b := Lib.hid k1b
     have H_aa := Lib.hid aa
     have H_ab := Lib.hid ab
     have H_w1 := Lib.hid w1
     have H_dz := Lib.hid dz
     have H_dy := Lib.hid dy
     have H_fa := Lib.hid fa
     have H_fb := Lib.hid fb
     have H_ga := Lib.hid ga
     have H_gb := Lib.hid gb
     clear k3 k3b k1 k1b aa ab w1 dz dy fa fb ga gb
     clear hk3 hk1 hk1x ha hb hc hd he
     go_enter Tryz.func95, Tryz.ntmps95
     go_upto_region 1 with fail
     obtain ⟨W1, hW1⟩ : ∃ W1, W1 = w.alloc (.cells #[.int .i64 x.kind, .bool x.goal, .string x.id, .slice A1 x.attr.length c1, .slice A2 x.value.length c2, .bool x.acc, .slice A3 x.conds.length c3] 62) := ⟨_, rfl⟩
     rw [← hW1]
     have hBk : Blk W1 w.heap.size 62 #[.int .i64 x.kind, .bool x.goal, .string x.id, .slice A1 x.attr.length c1, .slice A2 x.value.length c2, .bool x.acc, .slice A3 x.conds.length c3] := by rw [hW1]; exact Blk.new _ _ _
     have HB := Lib.hid (show Below w.heap.size w W1 by rw [hW1]; exact (Below.refl _ _).alloc (Nat.le_refl _) _)
     have e0 : W1.cell? ⟨w.heap.size, 0, none⟩ = some (.int .i64 x.kind) := (hBk.cell 0).trans rfl
     have e1 : W1.cell? ⟨w.heap.size, 1, none⟩ = some (.bool x.goal) := (hBk.cell 1).trans rfl
     have e2 : W1.cell? ⟨w.heap.size, 2, none⟩ = some (.string x.id) := (hBk.cell 2).trans rfl
     have e3 : W1.cell? ⟨w.heap.size, 3, none⟩ = some (.slice A1 x.attr.length c1) := (hBk.cell 3).trans rfl
     have e4 : W1.cell? ⟨w.heap.size, 4, none⟩ = some (.slice A2 x.value.length c2) := (hBk.cell 4).trans rfl
     have e5 : W1.cell? ⟨w.heap.size, 5, none⟩ = some (.bool x.acc) := (hBk.cell 5).trans rfl
     have e6 : W1.cell? ⟨w.heap.size, 6, none⟩ = some (.slice A3 x.conds.length c3) := (hBk.cell 6).trans rfl
     have hbl := hBk.lt
     clear hW1 hBk
     have k3 := H_k3.out
     have k3b := H_k3b.out
     have k1 := H_k1.out
     have k1b := H_k1b.out
     have aa := H_aa.out
     have ab := H_ab.out
     have w1 := H_w1.out
     have dz := H_dz.out
     have dy := H_dy.out
     have fa := H_fa.out
     have fb := H_fb.out
     have ga := H_ga.out
     have gb := H_gb.out
     go_wp2_with (first | (go_at_call 81; refine (word_is x.id _).mono ?_; rintro e w9 ⟨rfl, rfl⟩) | (go_at_call 113; (first | (with_reducible refine (tests_is A1 c1 x.attr _ (H1.out.new_ HB.out)).mono ?_) | (with_reducible refine (tests_is A2 c2 x.value _ (H2.out.new_ HB.out)).mono ?_)); rintro e w9 ⟨rfl, hb9⟩; have HB := Lib.hid (HB.out.trans (hb9.mono HB.out.size)); replace e0 := (hb9.cell (p := ⟨w.heap.size, 0, none⟩) hbl).trans e0; replace e1 := (hb9.cell (p := ⟨w.heap.size, 1, none⟩) hbl).trans e1; replace e2 := (hb9.cell (p := ⟨w.heap.size, 2, none⟩) hbl).trans e2; replace e3 := (hb9.cell (p := ⟨w.heap.size, 3, none⟩) hbl).trans e3; replace e4 := (hb9.cell (p := ⟨w.heap.size, 4, none⟩) hbl).trans e4; replace e5 := (hb9.cell (p := ⟨w.heap.size, 5, none⟩) hbl).trans e5; replace e6 := (hb9.cell (p := ⟨w.heap.size, 6, none⟩) hbl).trans e6; replace hbl := Nat.lt_of_lt_of_le hbl hb9.size; clear hb9))
     go_ret
     exact ⟨by rw [HR.out] <;> rfl, HB.out⟩
   by_cases hf : x.attr.all testB = false
   · have k3 : (x.kind == 3) = false := by simp [*]
     have k3b : decide (x.kind = 3) = false := by simp [*]
     have k1 : (x.kind == 1) = true := by simp [*]
     have k1b : decide (x.kind = 1) = true := by simp [*]
     have aa : decide ((0 : Int) < (x.conds.length : Int)) = false := decide_eq_false (by omega)
     have ab : decide (0 < x.conds.length) = false := decide_eq_false (by omega)
     have w1 : isWord x.id = true := by simpa using hb
     have dz : ((x.attr.length : Int) == 0) = false := by rw [beq_eq_false_iff_ne]; omega
     have dy : decide ((x.attr.length : Int) = 0) = false := decide_eq_false (by omega)
     have fa : decide ((4 : Int) < (x.attr.length : Int)) = false := decide_eq_false (by omega)
     have fb : decide (4 < x.attr.length) = false := decide_eq_false (by omega)
     have ga : decide ((4 : Int) < (x.value.length : Int)) = false := decide_eq_false (by omega)
     have gb : decide (4 < x.value.length) = false := decide_eq_false (by omega)
     have t1 := hf
     have HR := Lib.hid (show condE x deep = 9 by simp [condE, *])
     have H_k3 := Lib.hid k3
     have H_k3b := Lib.hid k3b
     have H_k1 := Lib.hid k1
     have H_k1b := Lib.hid k1b
     have H_aa := Lib.hid aa
     have H_ab := Lib.hid ab
     have H_w1 := Lib.hid w1
     have H_dz := Lib.hid dz
     have H_dy := Lib.hid dy
     have H_fa := Lib.hid fa
     have H_fb := Lib.hid fb
     have H_ga := Lib.hid ga
     have H_gb := Lib.hid gb
     have H_t1 := Lib.hid t1
     clear k3 k3b k1 k1b aa ab w1 dz dy fa fb ga gb t1
     clear hk3 hk1 hk1x ha hb hc hd he hf
     go_enter Tryz.func95, Tryz.ntmps95
     go_upto_region 1 with fail
     obtain ⟨W1, hW1⟩ : ∃ W1, W1 = w.alloc (.cells #[.int .i64 x.kind, .bool x.goal, .string x.id, .slice A1 x.attr.length c1, .slice A2 x.value.length c2, .bool x.acc, .slice A3 x.conds.length c3] 62) := ⟨_, rfl⟩
     rw [← hW1]
     have hBk : Blk W1 w.heap.size 62 #[.int .i64 x.kind, .bool x.goal, .string x.id, .slice A1 x.attr.length c1, .slice A2 x.value.length c2, .bool x.acc, .slice A3 x.conds.length c3] := by rw [hW1]; exact Blk.new _ _ _
     have HB := Lib.hid (show Below w.heap.size w W1 by rw [hW1]; exact (Below.refl _ _).alloc (Nat.le_refl _) _)
     have e0 : W1.cell? ⟨w.heap.size, 0, none⟩ = some (.int .i64 x.kind) := (hBk.cell 0).trans rfl
     have e1 : W1.cell? ⟨w.heap.size, 1, none⟩ = some (.bool x.goal) := (hBk.cell 1).trans rfl
     have e2 : W1.cell? ⟨w.heap.size, 2, none⟩ = some (.string x.id) := (hBk.cell 2).trans rfl
     have e3 : W1.cell? ⟨w.heap.size, 3, none⟩ = some (.slice A1 x.attr.length c1) := (hBk.cell 3).trans rfl
     have e4 : W1.cell? ⟨w.heap.size, 4, none⟩ = some (.slice A2 x.value.length c2) := (hBk.cell 4).trans rfl
     have e5 : W1.cell? ⟨w.heap.size, 5, none⟩ = some (.bool x.acc) := (hBk.cell 5).trans rfl
     have e6 : W1.cell? ⟨w.heap.size, 6, none⟩ = some (.slice A3 x.conds.length c3) := (hBk.cell 6).trans rfl
     have hbl := hBk.lt
     clear hW1 hBk
     have k3 := H_k3.out
     have k3b := H_k3b.out
     have k1 := H_k1.out
     have k1b := H_k1b.out
     have aa := H_aa.out
     have ab := H_ab.out
     have w1 := H_w1.out
     have dz := H_dz.out
     have dy := H_dy.out
     have fa := H_fa.out
     have fb := H_fb.out
     have ga := H_ga.out
     have gb := H_gb.out
     have t1 := H_t1.out
     go_wp2_with (first | (go_at_call 81; refine (word_is x.id _).mono ?_; rintro e w9 ⟨rfl, rfl⟩) | (go_at_call 113; (first | (with_reducible refine (tests_is A1 c1 x.attr _ (H1.out.new_ HB.out)).mono ?_) | (with_reducible refine (tests_is A2 c2 x.value _ (H2.out.new_ HB.out)).mono ?_)); rintro e w9 ⟨rfl, hb9⟩; have HB := Lib.hid (HB.out.trans (hb9.mono HB.out.size)); replace e0 := (hb9.cell (p := ⟨w.heap.size, 0, none⟩) hbl).trans e0; replace e1 := (hb9.cell (p := ⟨w.heap.size, 1, none⟩) hbl).trans e1; replace e2 := (hb9.cell (p := ⟨w.heap.size, 2, none⟩) hbl).trans e2; replace e3 := (hb9.cell (p := ⟨w.heap.size, 3, none⟩) hbl).trans e3; replace e4 := (hb9.cell (p := ⟨w.heap.size, 4, none⟩) hbl).trans e4; replace e5 := (hb9.cell (p := ⟨w.heap.size, 5, none⟩) hbl).trans e5; replace e6 := (hb9.cell (p := ⟨w.heap.size, 6, none⟩) hbl).trans e6; replace hbl := Nat.lt_of_lt_of_le hbl hb9.size; clear hb9))
     go_ret
     exact ⟨by rw [HR.out] <;> rfl, HB.out⟩
   by_cases hg : x.value.all testB = false
   · have k3 : (x.kind == 3) = false := by simp [*]
     have k3b : decide (x.kind = 3) = false := by simp [*]
     have k1 : (x.kind == 1) = true := by simp [*]
     have k1b : decide (x.kind = 1) = true := by simp [*]
     have aa : decide ((0 : Int) < (x.conds.length : Int)) = false := decide_eq_false (by omega)
     have ab : decide (0 < x.conds.length) = false := decide_eq_false (by omega)
     have w1 : isWord x.id = true := by simpa using hb
     have dz : ((x.attr.length : Int) == 0) = false := by rw [beq_eq_false_iff_ne]; omega
     have dy : decide ((x.attr.length : Int) = 0) = false := decide_eq_false (by omega)
     have fa : decide ((4 : Int) < (x.attr.length : Int)) = false := decide_eq_false (by omega)
     have fb : decide (4 < x.attr.length) = false := decide_eq_false (by omega)
     have ga : decide ((4 : Int) < (x.value.length : Int)) = false := decide_eq_false (by omega)
     have gb : decide (4 < x.value.length) = false := decide_eq_false (by omega)
     have t1 : x.attr.all testB = true := by simpa using hf
     have t2 := hg
     have HR := Lib.hid (show condE x deep = 9 by simp [condE, *])
     have H_k3 := Lib.hid k3
     have H_k3b := Lib.hid k3b
     have H_k1 := Lib.hid k1
     have H_k1b := Lib.hid k1b
     have H_aa := Lib.hid aa
     have H_ab := Lib.hid ab
     have H_w1 := Lib.hid w1
     have H_dz := Lib.hid dz
     have H_dy := Lib.hid dy
     have H_fa := Lib.hid fa
     have H_fb := Lib.hid fb
     have H_ga := Lib.hid ga
     have H_gb := Lib.hid gb
     have H_t1 := Lib.hid t1
     have H_t2 := Lib.hid t2
     clear k3 k3b k1 k1b aa ab w1 dz dy fa fb ga gb t1 t2
     clear hk3 hk1 hk1x ha hb hc hd he hf hg
     go_enter Tryz.func95, Tryz.ntmps95
     go_upto_region 1 with fail
     obtain ⟨W1, hW1⟩ : ∃ W1, W1 = w.alloc (.cells #[.int .i64 x.kind, .bool x.goal, .string x.id, .slice A1 x.attr.length c1, .slice A2 x.value.length c2, .bool x.acc, .slice A3 x.conds.length c3] 62) := ⟨_, rfl⟩
     rw [← hW1]
     have hBk : Blk W1 w.heap.size 62 #[.int .i64 x.kind, .bool x.goal, .string x.id, .slice A1 x.attr.length c1, .slice A2 x.value.length c2, .bool x.acc, .slice A3 x.conds.length c3] := by rw [hW1]; exact Blk.new _ _ _
     have HB := Lib.hid (show Below w.heap.size w W1 by rw [hW1]; exact (Below.refl _ _).alloc (Nat.le_refl _) _)
     have e0 : W1.cell? ⟨w.heap.size, 0, none⟩ = some (.int .i64 x.kind) := (hBk.cell 0).trans rfl
     have e1 : W1.cell? ⟨w.heap.size, 1, none⟩ = some (.bool x.goal) := (hBk.cell 1).trans rfl
     have e2 : W1.cell? ⟨w.heap.size, 2, none⟩ = some (.string x.id) := (hBk.cell 2).trans rfl
     have e3 : W1.cell? ⟨w.heap.size, 3, none⟩ = some (.slice A1 x.attr.length c1) := (hBk.cell 3).trans rfl
     have e4 : W1.cell? ⟨w.heap.size, 4, none⟩ = some (.slice A2 x.value.length c2) := (hBk.cell 4).trans rfl
     have e5 : W1.cell? ⟨w.heap.size, 5, none⟩ = some (.bool x.acc) := (hBk.cell 5).trans rfl
     have e6 : W1.cell? ⟨w.heap.size, 6, none⟩ = some (.slice A3 x.conds.length c3) := (hBk.cell 6).trans rfl
     have hbl := hBk.lt
     clear hW1 hBk
     have k3 := H_k3.out
     have k3b := H_k3b.out
     have k1 := H_k1.out
     have k1b := H_k1b.out
     have aa := H_aa.out
     have ab := H_ab.out
     have w1 := H_w1.out
     have dz := H_dz.out
     have dy := H_dy.out
     have fa := H_fa.out
     have fb := H_fb.out
     have ga := H_ga.out
     have gb := H_gb.out
     have t1 := H_t1.out
     have t2 := H_t2.out
     go_wp2_with (first | (go_at_call 81; refine (word_is x.id _).mono ?_; rintro e w9 ⟨rfl, rfl⟩) | (go_at_call 113; (first | (with_reducible refine (tests_is A1 c1 x.attr _ (H1.out.new_ HB.out)).mono ?_) | (with_reducible refine (tests_is A2 c2 x.value _ (H2.out.new_ HB.out)).mono ?_)); rintro e w9 ⟨rfl, hb9⟩; have HB := Lib.hid (HB.out.trans (hb9.mono HB.out.size)); replace e0 := (hb9.cell (p := ⟨w.heap.size, 0, none⟩) hbl).trans e0; replace e1 := (hb9.cell (p := ⟨w.heap.size, 1, none⟩) hbl).trans e1; replace e2 := (hb9.cell (p := ⟨w.heap.size, 2, none⟩) hbl).trans e2; replace e3 := (hb9.cell (p := ⟨w.heap.size, 3, none⟩) hbl).trans e3; replace e4 := (hb9.cell (p := ⟨w.heap.size, 4, none⟩) hbl).trans e4; replace e5 := (hb9.cell (p := ⟨w.heap.size, 5, none⟩) hbl).trans e5; replace e6 := (hb9.cell (p := ⟨w.heap.size, 6, none⟩) hbl).trans e6; replace hbl := Nat.lt_of_lt_of_le hbl hb9.size; clear hb9))
     go_ret
     exact ⟨by rw [HR.out] <;> rfl, HB.out⟩
   have k3 : (x.kind == 3) = false := by simp [*]
   have k3b : decide (x.kind = 3) = false := by simp [*]
   have k1 : (x.kind == 1) = true := by simp [*]
   have k1b : decide (x.kind = 1) = true := by simp [*]
   have aa : decide ((0 : Int) < (x.conds.length : Int)) = false := decide_eq_false (by omega)
   have ab : decide (0 < x.conds.length) = false := decide_eq_false (by omega)
   have w1 : isWord x.id = true := by simpa using hb
   have dz : ((x.attr.length : Int) == 0) = false := by rw [beq_eq_false_iff_ne]; omega
   have dy : decide ((x.attr.length : Int) = 0) = false := decide_eq_false (by omega)
   have fa : decide ((4 : Int) < (x.attr.length : Int)) = false := decide_eq_false (by omega)
   have fb : decide (4 < x.attr.length) = false := decide_eq_false (by omega)
   have ga : decide ((4 : Int) < (x.value.length : Int)) = false := decide_eq_false (by omega)
   have gb : decide (4 < x.value.length) = false := decide_eq_false (by omega)
   have t1 : x.attr.all testB = true := by simpa using hf
   have t2 : x.value.all testB = true := by simpa using hg
   have HR := Lib.hid (show condE x deep = 0 by simp [condE, *])
   have H_k3 := Lib.hid k3
   have H_k3b := Lib.hid k3b
   have H_k1 := Lib.hid k1
   have H_k1b := Lib.hid k1b
   have H_aa := Lib.hid aa
   have H_ab := Lib.hid ab
   have H_w1 := Lib.hid w1
   have H_dz := Lib.hid dz
   have H_dy := Lib.hid dy
   have H_fa := Lib.hid fa
   have H_fb := Lib.hid fb
   have H_ga := Lib.hid ga
   have H_gb := Lib.hid gb
   have H_t1 := Lib.hid t1
   have H_t2 := Lib.hid t2
   clear k3 k3b k1 k1b aa ab w1 dz dy fa fb ga gb t1 t2
   clear hk3 hk1 hk1x ha hb hc hd he hf hg
   go_enter Tryz.func95, Tryz.ntmps95
   go_upto_region 1 with fail
   obtain ⟨W1, hW1⟩ : ∃ W1, W1 = w.alloc (.cells #[.int .i64 x.kind, .bool x.goal, .string x.id, .slice A1 x.attr.length c1, .slice A2 x.value.length c2, .bool x.acc, .slice A3 x.conds.length c3] 62) := ⟨_, rfl⟩
   rw [← hW1]
   have hBk : Blk W1 w.heap.size 62 #[.int .i64 x.kind, .bool x.goal, .string x.id, .slice A1 x.attr.length c1, .slice A2 x.value.length c2, .bool x.acc, .slice A3 x.conds.length c3] := by rw [hW1]; exact Blk.new _ _ _
   have HB := Lib.hid (show Below w.heap.size w W1 by rw [hW1]; exact (Below.refl _ _).alloc (Nat.le_refl _) _)
   have e0 : W1.cell? ⟨w.heap.size, 0, none⟩ = some (.int .i64 x.kind) := (hBk.cell 0).trans rfl
   have e1 : W1.cell? ⟨w.heap.size, 1, none⟩ = some (.bool x.goal) := (hBk.cell 1).trans rfl
   have e2 : W1.cell? ⟨w.heap.size, 2, none⟩ = some (.string x.id) := (hBk.cell 2).trans rfl
   have e3 : W1.cell? ⟨w.heap.size, 3, none⟩ = some (.slice A1 x.attr.length c1) := (hBk.cell 3).trans rfl
   have e4 : W1.cell? ⟨w.heap.size, 4, none⟩ = some (.slice A2 x.value.length c2) := (hBk.cell 4).trans rfl
   have e5 : W1.cell? ⟨w.heap.size, 5, none⟩ = some (.bool x.acc) := (hBk.cell 5).trans rfl
   have e6 : W1.cell? ⟨w.heap.size, 6, none⟩ = some (.slice A3 x.conds.length c3) := (hBk.cell 6).trans rfl
   have hbl := hBk.lt
   clear hW1 hBk
   have k3 := H_k3.out
   have k3b := H_k3b.out
   have k1 := H_k1.out
   have k1b := H_k1b.out
   have aa := H_aa.out
   have ab := H_ab.out
   have w1 := H_w1.out
   have dz := H_dz.out
   have dy := H_dy.out
   have fa := H_fa.out
   have fb := H_fb.out
   have ga := H_ga.out
   have gb := H_gb.out
   have t1 := H_t1.out
   have t2 := H_t2.out
   go_wp2_with (first | (go_at_call 81; refine (word_is x.id _).mono ?_; rintro e w9 ⟨rfl, rfl⟩) | (go_at_call 113; (first | (with_reducible refine (tests_is A1 c1 x.attr _ (H1.out.new_ HB.out)).mono ?_) | (with_reducible refine (tests_is A2 c2 x.value _ (H2.out.new_ HB.out)).mono ?_)); rintro e w9 ⟨rfl, hb9⟩; have HB := Lib.hid (HB.out.trans (hb9.mono HB.out.size)); replace e0 := (hb9.cell (p := ⟨w.heap.size, 0, none⟩) hbl).trans e0; replace e1 := (hb9.cell (p := ⟨w.heap.size, 1, none⟩) hbl).trans e1; replace e2 := (hb9.cell (p := ⟨w.heap.size, 2, none⟩) hbl).trans e2; replace e3 := (hb9.cell (p := ⟨w.heap.size, 3, none⟩) hbl).trans e3; replace e4 := (hb9.cell (p := ⟨w.heap.size, 4, none⟩) hbl).trans e4; replace e5 := (hb9.cell (p := ⟨w.heap.size, 5, none⟩) hbl).trans e5; replace e6 := (hb9.cell (p := ⟨w.heap.size, 6, none⟩) hbl).trans e6; replace hbl := Nat.lt_of_lt_of_le hbl hb9.size; clear hb9))
   go_ret
   exact ⟨by rw [HR.out] <;> rfl, HB.out⟩
 by_cases hk2 : x.kind = 2
 · have hk2x := hk2
   by_cases ha : 0 < x.conds.length
   · have k3 : (x.kind == 3) = false := by simp [*]
     have k3b : decide (x.kind = 3) = false := by simp [*]
     have k1 : (x.kind == 1) = false := by simp [*]
     have k1b : decide (x.kind = 1) = false := by simp [*]
     have k2 : (x.kind == 2) = true := by simp [*]
     have k2b : decide (x.kind = 2) = true := by simp [*]
     have aa : decide ((0 : Int) < (x.conds.length : Int)) = true := decide_eq_true (by omega)
     have ab : decide (0 < x.conds.length) = true := decide_eq_true (by omega)
     have HR := Lib.hid (show condE x deep = 9 by simp [condE, *])
     have H_k3 := Lib.hid k3
     have H_k3b := Lib.hid k3b
     have H_k1 := Lib.hid k1
     have H_k1b := Lib.hid k1b
     have H_k2 := Lib.hid k2
     have H_k2b := Lib.hid k2b
     have H_aa := Lib.hid aa
     have H_ab := Lib.hid ab
     clear k3 k3b k1 k1b k2 k2b aa ab
     clear hk3 hk1 hk2 hk2x ha
     go_enter Tryz.func95, Tryz.ntmps95
     go_upto_region 1 with fail
     obtain ⟨W1, hW1⟩ : ∃ W1, W1 = w.alloc (.cells #[.int .i64 x.kind, .bool x.goal, .string x.id, .slice A1 x.attr.length c1, .slice A2 x.value.length c2, .bool x.acc, .slice A3 x.conds.length c3] 62) := ⟨_, rfl⟩
     rw [← hW1]
     have hBk : Blk W1 w.heap.size 62 #[.int .i64 x.kind, .bool x.goal, .string x.id, .slice A1 x.attr.length c1, .slice A2 x.value.length c2, .bool x.acc, .slice A3 x.conds.length c3] := by rw [hW1]; exact Blk.new _ _ _
     have HB := Lib.hid (show Below w.heap.size w W1 by rw [hW1]; exact (Below.refl _ _).alloc (Nat.le_refl _) _)
     have e0 : W1.cell? ⟨w.heap.size, 0, none⟩ = some (.int .i64 x.kind) := (hBk.cell 0).trans rfl
     have e1 : W1.cell? ⟨w.heap.size, 1, none⟩ = some (.bool x.goal) := (hBk.cell 1).trans rfl
     have e2 : W1.cell? ⟨w.heap.size, 2, none⟩ = some (.string x.id) := (hBk.cell 2).trans rfl
     have e3 : W1.cell? ⟨w.heap.size, 3, none⟩ = some (.slice A1 x.attr.length c1) := (hBk.cell 3).trans rfl
     have e4 : W1.cell? ⟨w.heap.size, 4, none⟩ = some (.slice A2 x.value.length c2) := (hBk.cell 4).trans rfl
     have e5 : W1.cell? ⟨w.heap.size, 5, none⟩ = some (.bool x.acc) := (hBk.cell 5).trans rfl
     have e6 : W1.cell? ⟨w.heap.size, 6, none⟩ = some (.slice A3 x.conds.length c3) := (hBk.cell 6).trans rfl
     have hbl := hBk.lt
     clear hW1 hBk
     have k3 := H_k3.out
     have k3b := H_k3b.out
     have k1 := H_k1.out
     have k1b := H_k1b.out
     have k2 := H_k2.out
     have k2b := H_k2b.out
     have aa := H_aa.out
     have ab := H_ab.out
     go_wp2_with (first | (go_at_call 81; refine (word_is x.id _).mono ?_; rintro e w9 ⟨rfl, rfl⟩) | (go_at_call 113; (first | (with_reducible refine (tests_is A1 c1 x.attr _ (H1.out.new_ HB.out)).mono ?_) | (with_reducible refine (tests_is A2 c2 x.value _ (H2.out.new_ HB.out)).mono ?_)); rintro e w9 ⟨rfl, hb9⟩; have HB := Lib.hid (HB.out.trans (hb9.mono HB.out.size)); replace e0 := (hb9.cell (p := ⟨w.heap.size, 0, none⟩) hbl).trans e0; replace e1 := (hb9.cell (p := ⟨w.heap.size, 1, none⟩) hbl).trans e1; replace e2 := (hb9.cell (p := ⟨w.heap.size, 2, none⟩) hbl).trans e2; replace e3 := (hb9.cell (p := ⟨w.heap.size, 3, none⟩) hbl).trans e3; replace e4 := (hb9.cell (p := ⟨w.heap.size, 4, none⟩) hbl).trans e4; replace e5 := (hb9.cell (p := ⟨w.heap.size, 5, none⟩) hbl).trans e5; replace e6 := (hb9.cell (p := ⟨w.heap.size, 6, none⟩) hbl).trans e6; replace hbl := Nat.lt_of_lt_of_le hbl hb9.size; clear hb9))
     go_ret
     exact ⟨by rw [HR.out] <;> rfl, HB.out⟩
   by_cases hb : isWord x.id = false
   · have k3 : (x.kind == 3) = false := by simp [*]
     have k3b : decide (x.kind = 3) = false := by simp [*]
     have k1 : (x.kind == 1) = false := by simp [*]
     have k1b : decide (x.kind = 1) = false := by simp [*]
     have k2 : (x.kind == 2) = true := by simp [*]
     have k2b : decide (x.kind = 2) = true := by simp [*]
     have aa : decide ((0 : Int) < (x.conds.length : Int)) = false := decide_eq_false (by omega)
     have ab : decide (0 < x.conds.length) = false := decide_eq_false (by omega)
     have w1 := hb
     have HR := Lib.hid (show condE x deep = 9 by simp [condE, *])
     have H_k3 := Lib.hid k3
     have H_k3b := Lib.hid k3b
     have H_k1 := Lib.hid k1
     have H_k1b := Lib.hid k1b
     have H_k2 := Lib.hid k2
     have H_k2b := Lib.hid k2b
     have H_aa := Lib.hid aa
     have H_ab := Lib.hid ab
     have H_w1 := Lib.hid w1
     clear k3 k3b k1 k1b k2 k2b aa ab w1
     clear hk3 hk1 hk2 hk2x ha hb
     go_enter Tryz.func95, Tryz.ntmps95
     go_upto_region 1 with fail
     obtain ⟨W1, hW1⟩ : ∃ W1, W1 = w.alloc (.cells #[.int .i64 x.kind, .bool x.goal, .string x.id, .slice A1 x.attr.length c1, .slice A2 x.value.length c2, .bool x.acc, .slice A3 x.conds.length c3] 62) := ⟨_, rfl⟩
     rw [← hW1]
     have hBk : Blk W1 w.heap.size 62 #[.int .i64 x.kind, .bool x.goal, .string x.id, .slice A1 x.attr.length c1, .slice A2 x.value.length c2, .bool x.acc, .slice A3 x.conds.length c3] := by rw [hW1]; exact Blk.new _ _ _
     have HB := Lib.hid (show Below w.heap.size w W1 by rw [hW1]; exact (Below.refl _ _).alloc (Nat.le_refl _) _)
     have e0 : W1.cell? ⟨w.heap.size, 0, none⟩ = some (.int .i64 x.kind) := (hBk.cell 0).trans rfl
     have e1 : W1.cell? ⟨w.heap.size, 1, none⟩ = some (.bool x.goal) := (hBk.cell 1).trans rfl
     have e2 : W1.cell? ⟨w.heap.size, 2, none⟩ = some (.string x.id) := (hBk.cell 2).trans rfl
     have e3 : W1.cell? ⟨w.heap.size, 3, none⟩ = some (.slice A1 x.attr.length c1) := (hBk.cell 3).trans rfl
     have e4 : W1.cell? ⟨w.heap.size, 4, none⟩ = some (.slice A2 x.value.length c2) := (hBk.cell 4).trans rfl
     have e5 : W1.cell? ⟨w.heap.size, 5, none⟩ = some (.bool x.acc) := (hBk.cell 5).trans rfl
     have e6 : W1.cell? ⟨w.heap.size, 6, none⟩ = some (.slice A3 x.conds.length c3) := (hBk.cell 6).trans rfl
     have hbl := hBk.lt
     clear hW1 hBk
     have k3 := H_k3.out
     have k3b := H_k3b.out
     have k1 := H_k1.out
     have k1b := H_k1b.out
     have k2 := H_k2.out
     have k2b := H_k2b.out
     have aa := H_aa.out
     have ab := H_ab.out
     have w1 := H_w1.out
     go_wp2_with (first | (go_at_call 81; refine (word_is x.id _).mono ?_; rintro e w9 ⟨rfl, rfl⟩) | (go_at_call 113; (first | (with_reducible refine (tests_is A1 c1 x.attr _ (H1.out.new_ HB.out)).mono ?_) | (with_reducible refine (tests_is A2 c2 x.value _ (H2.out.new_ HB.out)).mono ?_)); rintro e w9 ⟨rfl, hb9⟩; have HB := Lib.hid (HB.out.trans (hb9.mono HB.out.size)); replace e0 := (hb9.cell (p := ⟨w.heap.size, 0, none⟩) hbl).trans e0; replace e1 := (hb9.cell (p := ⟨w.heap.size, 1, none⟩) hbl).trans e1; replace e2 := (hb9.cell (p := ⟨w.heap.size, 2, none⟩) hbl).trans e2; replace e3 := (hb9.cell (p := ⟨w.heap.size, 3, none⟩) hbl).trans e3; replace e4 := (hb9.cell (p := ⟨w.heap.size, 4, none⟩) hbl).trans e4; replace e5 := (hb9.cell (p := ⟨w.heap.size, 5, none⟩) hbl).trans e5; replace e6 := (hb9.cell (p := ⟨w.heap.size, 6, none⟩) hbl).trans e6; replace hbl := Nat.lt_of_lt_of_le hbl hb9.size; clear hb9))
     go_ret
     exact ⟨by rw [HR.out] <;> rfl, HB.out⟩
   by_cases hc : x.attr.length = 0
   · have k3 : (x.kind == 3) = false := by simp [*]
     have k3b : decide (x.kind = 3) = false := by simp [*]
     have k1 : (x.kind == 1) = false := by simp [*]
     have k1b : decide (x.kind = 1) = false := by simp [*]
     have k2 : (x.kind == 2) = true := by simp [*]
     have k2b : decide (x.kind = 2) = true := by simp [*]
     have aa : decide ((0 : Int) < (x.conds.length : Int)) = false := decide_eq_false (by omega)
     have ab : decide (0 < x.conds.length) = false := decide_eq_false (by omega)
     have w1 : isWord x.id = true := by simpa using hb
     have dz : ((x.attr.length : Int) == 0) = true := by rw [beq_iff_eq]; omega
     have dy : decide ((x.attr.length : Int) = 0) = true := decide_eq_true (by omega)
     have l1 : x.attr = [] := List.length_eq_zero_iff.1 hc
     have HR := Lib.hid (show condE x deep = 9 by simp [condE, *])
     have H_k3 := Lib.hid k3
     have H_k3b := Lib.hid k3b
     have H_k1 := Lib.hid k1
     have H_k1b := Lib.hid k1b
     have H_k2 := Lib.hid k2
     have H_k2b := Lib.hid k2b
     have H_aa := Lib.hid aa
     have H_ab := Lib.hid ab
     have H_w1 := Lib.hid w1
     have H_dz := Lib.hid dz
     have H_dy := Lib.hid dy
     have H_l1 := Lib.hid l1
     clear k3 k3b k1 k1b k2 k2b aa ab w1 dz dy l1
     clear hk3 hk1 hk2 hk2x ha hb hc
     go_enter Tryz.func95, Tryz.ntmps95
     go_upto_region 1 with fail
     obtain ⟨W1, hW1⟩ : ∃ W1, W1 = w.alloc (.cells #[.int .i64 x.kind, .bool x.goal, .string x.id, .slice A1 x.attr.length c1, .slice A2 x.value.length c2, .bool x.acc, .slice A3 x.conds.length c3] 62) := ⟨_, rfl⟩
     rw [← hW1]
     have hBk : Blk W1 w.heap.size 62 #[.int .i64 x.kind, .bool x.goal, .string x.id, .slice A1 x.attr.length c1, .slice A2 x.value.length c2, .bool x.acc, .slice A3 x.conds.length c3] := by rw [hW1]; exact Blk.new _ _ _
     have HB := Lib.hid (show Below w.heap.size w W1 by rw [hW1]; exact (Below.refl _ _).alloc (Nat.le_refl _) _)
     have e0 : W1.cell? ⟨w.heap.size, 0, none⟩ = some (.int .i64 x.kind) := (hBk.cell 0).trans rfl
     have e1 : W1.cell? ⟨w.heap.size, 1, none⟩ = some (.bool x.goal) := (hBk.cell 1).trans rfl
     have e2 : W1.cell? ⟨w.heap.size, 2, none⟩ = some (.string x.id) := (hBk.cell 2).trans rfl
     have e3 : W1.cell? ⟨w.heap.size, 3, none⟩ = some (.slice A1 x.attr.length c1) := (hBk.cell 3).trans rfl
     have e4 : W1.cell? ⟨w.heap.size, 4, none⟩ = some (.slice A2 x.value.length c2) := (hBk.cell 4).trans rfl
     have e5 : W1.cell? ⟨w.heap.size, 5, none⟩ = some (.bool x.acc) := (hBk.cell 5).trans rfl
     have e6 : W1.cell? ⟨w.heap.size, 6, none⟩ = some (.slice A3 x.conds.length c3) := (hBk.cell 6).trans rfl
     have hbl := hBk.lt
     clear hW1 hBk
     have k3 := H_k3.out
     have k3b := H_k3b.out
     have k1 := H_k1.out
     have k1b := H_k1b.out
     have k2 := H_k2.out
     have k2b := H_k2b.out
     have aa := H_aa.out
     have ab := H_ab.out
     have w1 := H_w1.out
     have dz := H_dz.out
     have dy := H_dy.out
     go_wp2_with (first | (go_at_call 81; refine (word_is x.id _).mono ?_; rintro e w9 ⟨rfl, rfl⟩) | (go_at_call 113; (first | (with_reducible refine (tests_is A1 c1 x.attr _ (H1.out.new_ HB.out)).mono ?_) | (with_reducible refine (tests_is A2 c2 x.value _ (H2.out.new_ HB.out)).mono ?_)); rintro e w9 ⟨rfl, hb9⟩; have HB := Lib.hid (HB.out.trans (hb9.mono HB.out.size)); replace e0 := (hb9.cell (p := ⟨w.heap.size, 0, none⟩) hbl).trans e0; replace e1 := (hb9.cell (p := ⟨w.heap.size, 1, none⟩) hbl).trans e1; replace e2 := (hb9.cell (p := ⟨w.heap.size, 2, none⟩) hbl).trans e2; replace e3 := (hb9.cell (p := ⟨w.heap.size, 3, none⟩) hbl).trans e3; replace e4 := (hb9.cell (p := ⟨w.heap.size, 4, none⟩) hbl).trans e4; replace e5 := (hb9.cell (p := ⟨w.heap.size, 5, none⟩) hbl).trans e5; replace e6 := (hb9.cell (p := ⟨w.heap.size, 6, none⟩) hbl).trans e6; replace hbl := Nat.lt_of_lt_of_le hbl hb9.size; clear hb9))
     go_ret
     exact ⟨by rw [HR.out] <;> rfl, HB.out⟩
   by_cases hd : 4 < x.attr.length
   · have k3 : (x.kind == 3) = false := by simp [*]
     have k3b : decide (x.kind = 3) = false := by simp [*]
     have k1 : (x.kind == 1) = false := by simp [*]
     have k1b : decide (x.kind = 1) = false := by simp [*]
     have k2 : (x.kind == 2) = true := by simp [*]
     have k2b : decide (x.kind = 2) = true := by simp [*]
     have aa : decide ((0 : Int) < (x.conds.length : Int)) = false := decide_eq_false (by omega)
     have ab : decide (0 < x.conds.length) = false := decide_eq_false (by omega)
     have w1 : isWord x.id = true := by simpa using hb
     have dz : ((x.attr.length : Int) == 0) = false := by rw [beq_eq_false_iff_ne]; omega
     have dy : decide ((x.attr.length : Int) = 0) = false := decide_eq_false (by omega)
     have fa : decide ((4 : Int) < (x.attr.length : Int)) = true := decide_eq_true (by omega)
     have fb : decide (4 < x.attr.length) = true := decide_eq_true (by omega)
     have HR := Lib.hid (show condE x deep = 7 by simp [condE, *])
     have H_k3 := Lib.hid k3
     have H_k3b := Lib.hid k3b
     have H_k1 := Lib.hid k1
     have H_k1b := Lib.hid k1b
     have H_k2 := Lib.hid k2
     have H_k2b := Lib.hid k2b
     have H_aa := Lib.hid aa
     have H_ab := Lib.hid ab
     have H_w1 := Lib.hid w1
     have H_dz := Lib.hid dz
     have H_dy := Lib.hid dy
     have H_fa := Lib.hid fa
     have H_fb := Lib.hid fb
     clear k3 k3b k1 k1b k2 k2b aa ab w1 dz dy fa fb
     clear hk3 hk1 hk2 hk2x ha hb hc hd
     go_enter Tryz.func95, Tryz.ntmps95
     go_upto_region 1 with fail
     obtain ⟨W1, hW1⟩ : ∃ W1, W1 = w.alloc (.cells #[.int .i64 x.kind, .bool x.goal, .string x.id, .slice A1 x.attr.length c1, .slice A2 x.value.length c2, .bool x.acc, .slice A3 x.conds.length c3] 62) := ⟨_, rfl⟩
     rw [← hW1]
     have hBk : Blk W1 w.heap.size 62 #[.int .i64 x.kind, .bool x.goal, .string x.id, .slice A1 x.attr.length c1, .slice A2 x.value.length c2, .bool x.acc, .slice A3 x.conds.length c3] := by rw [hW1]; exact Blk.new _ _ _
     have HB := Lib.hid (show Below w.heap.size w W1 by rw [hW1]; exact (Below.refl _ _).alloc (Nat.le_refl _) _)
     have e0 : W1.cell? ⟨w.heap.size, 0, none⟩ = some (.int .i64 x.kind) := (hBk.cell 0).trans rfl
     have e1 : W1.cell? ⟨w.heap.size, 1, none⟩ = some (.bool x.goal) := (hBk.cell 1).trans rfl
     have e2 : W1.cell? ⟨w.heap.size, 2, none⟩ = some (.string x.id) := (hBk.cell 2).trans rfl
     have e3 : W1.cell? ⟨w.heap.size, 3, none⟩ = some (.slice A1 x.attr.length c1) := (hBk.cell 3).trans rfl
     have e4 : W1.cell? ⟨w.heap.size, 4, none⟩ = some (.slice A2 x.value.length c2) := (hBk.cell 4).trans rfl
     have e5 : W1.cell? ⟨w.heap.size, 5, none⟩ = some (.bool x.acc) := (hBk.cell 5).trans rfl
     have e6 : W1.cell? ⟨w.heap.size, 6, none⟩ = some (.slice A3 x.conds.length c3) := (hBk.cell 6).trans rfl
     have hbl := hBk.lt
     clear hW1 hBk
     have k3 := H_k3.out
     have k3b := H_k3b.out
     have k1 := H_k1.out
     have k1b := H_k1b.out
     have k2 := H_k2.out
     have k2b := H_k2b.out
     have aa := H_aa.out
     have ab := H_ab.out
     have w1 := H_w1.out
     have dz := H_dz.out
     have dy := H_dy.out
     have fa := H_fa.out
     have fb := H_fb.out
     go_wp2_with (first | (go_at_call 81; refine (word_is x.id _).mono ?_; rintro e w9 ⟨rfl, rfl⟩) | (go_at_call 113; (first | (with_reducible refine (tests_is A1 c1 x.attr _ (H1.out.new_ HB.out)).mono ?_) | (with_reducible refine (tests_is A2 c2 x.value _ (H2.out.new_ HB.out)).mono ?_)); rintro e w9 ⟨rfl, hb9⟩; have HB := Lib.hid (HB.out.trans (hb9.mono HB.out.size)); replace e0 := (hb9.cell (p := ⟨w.heap.size, 0, none⟩) hbl).trans e0; replace e1 := (hb9.cell (p := ⟨w.heap.size, 1, none⟩) hbl).trans e1; replace e2 := (hb9.cell (p := ⟨w.heap.size, 2, none⟩) hbl).trans e2; replace e3 := (hb9.cell (p := ⟨w.heap.size, 3, none⟩) hbl).trans e3; replace e4 := (hb9.cell (p := ⟨w.heap.size, 4, none⟩) hbl).trans e4; replace e5 := (hb9.cell (p := ⟨w.heap.size, 5, none⟩) hbl).trans e5; replace e6 := (hb9.cell (p := ⟨w.heap.size, 6, none⟩) hbl).trans e6; replace hbl := Nat.lt_of_lt_of_le hbl hb9.size; clear hb9))
     go_ret
     exact ⟨by rw [HR.out] <;> rfl, HB.out⟩
   by_cases he : 4 < x.value.length
   · have k3 : (x.kind == 3) = false := by simp [*]
     have k3b : decide (x.kind = 3) = false := by simp [*]
     have k1 : (x.kind == 1) = false := by simp [*]
     have k1b : decide (x.kind = 1) = false := by simp [*]
     have k2 : (x.kind == 2) = true := by simp [*]
     have k2b : decide (x.kind = 2) = true := by simp [*]
     have aa : decide ((0 : Int) < (x.conds.length : Int)) = false := decide_eq_false (by omega)
     have ab : decide (0 < x.conds.length) = false := decide_eq_false (by omega)
     have w1 : isWord x.id = true := by simpa using hb
     have dz : ((x.attr.length : Int) == 0) = false := by rw [beq_eq_false_iff_ne]; omega
     have dy : decide ((x.attr.length : Int) = 0) = false := decide_eq_false (by omega)
     have fa : decide ((4 : Int) < (x.attr.length : Int)) = false := decide_eq_false (by omega)
     have fb : decide (4 < x.attr.length) = false := decide_eq_false (by omega)
     have ga : decide ((4 : Int) < (x.value.length : Int)) = true := decide_eq_true (by omega)
     have gb : decide (4 < x.value.length) = true := decide_eq_true (by omega)
     have HR := Lib.hid (show condE x deep = 7 by simp [condE, *])
     have H_k3 := Lib.hid k3
     have H_k3b := Lib.hid k3b
     have H_k1 := Lib.hid k1
     have H_k1b := Lib.hid k1b
     have H_k2 := Lib.hid k2
     have H_k2b := Lib.hid k2b
     have H_aa := Lib.hid aa
     have H_ab := Lib.hid ab
     have H_w1 := Lib.hid w1
     have H_dz := Lib.hid dz
     have H_dy := Lib.hid dy
     have H_fa := Lib.hid fa
     have H_fb := Lib.hid fb
     have H_ga := Lib.hid ga
     have H_gb := Lib.hid gb
     clear k3 k3b k1 k1b k2 k2b aa ab w1 dz dy fa fb ga gb
     clear hk3 hk1 hk2 hk2x ha hb hc hd he
     go_enter Tryz.func95, Tryz.ntmps95
     go_upto_region 1 with fail
     obtain ⟨W1, hW1⟩ : ∃ W1, W1 = w.alloc (.cells #[.int .i64 x.kind, .bool x.goal, .string x.id, .slice A1 x.attr.length c1, .slice A2 x.value.length c2, .bool x.acc, .slice A3 x.conds.length c3] 62) := ⟨_, rfl⟩
     rw [← hW1]
     have hBk : Blk W1 w.heap.size 62 #[.int .i64 x.kind, .bool x.goal, .string x.id, .slice A1 x.attr.length c1, .slice A2 x.value.length c2, .bool x.acc, .slice A3 x.conds.length c3] := by rw [hW1]; exact Blk.new _ _ _
     have HB := Lib.hid (show Below w.heap.size w W1 by rw [hW1]; exact (Below.refl _ _).alloc (Nat.le_refl _) _)
     have e0 : W1.cell? ⟨w.heap.size, 0, none⟩ = some (.int .i64 x.kind) := (hBk.cell 0).trans rfl
     have e1 : W1.cell? ⟨w.heap.size, 1, none⟩ = some (.bool x.goal) := (hBk.cell 1).trans rfl
     have e2 : W1.cell? ⟨w.heap.size, 2, none⟩ = some (.string x.id) := (hBk.cell 2).trans rfl
     have e3 : W1.cell? ⟨w.heap.size, 3, none⟩ = some (.slice A1 x.attr.length c1) := (hBk.cell 3).trans rfl
     have e4 : W1.cell? ⟨w.heap.size, 4, none⟩ = some (.slice A2 x.value.length c2) := (hBk.cell 4).trans rfl
     have e5 : W1.cell? ⟨w.heap.size, 5, none⟩ = some (.bool x.acc) := (hBk.cell 5).trans rfl
     have e6 : W1.cell? ⟨w.heap.size, 6, none⟩ = some (.slice A3 x.conds.length c3) := (hBk.cell 6).trans rfl
     have hbl := hBk.lt
     clear hW1 hBk
     have k3 := H_k3.out
     have k3b := H_k3b.out
     have k1 := H_k1.out
     have k1b := H_k1b.out
     have k2 := H_k2.out
     have k2b := H_k2b.out
     have aa := H_aa.out
     have ab := H_ab.out
     have w1 := H_w1.out
     have dz := H_dz.out
     have dy := H_dy.out
     have fa := H_fa.out
     have fb := H_fb.out
     have ga := H_ga.out
     have gb := H_gb.out
     go_wp2_with (first | (go_at_call 81; refine (word_is x.id _).mono ?_; rintro e w9 ⟨rfl, rfl⟩) | (go_at_call 113; (first | (with_reducible refine (tests_is A1 c1 x.attr _ (H1.out.new_ HB.out)).mono ?_) | (with_reducible refine (tests_is A2 c2 x.value _ (H2.out.new_ HB.out)).mono ?_)); rintro e w9 ⟨rfl, hb9⟩; have HB := Lib.hid (HB.out.trans (hb9.mono HB.out.size)); replace e0 := (hb9.cell (p := ⟨w.heap.size, 0, none⟩) hbl).trans e0; replace e1 := (hb9.cell (p := ⟨w.heap.size, 1, none⟩) hbl).trans e1; replace e2 := (hb9.cell (p := ⟨w.heap.size, 2, none⟩) hbl).trans e2; replace e3 := (hb9.cell (p := ⟨w.heap.size, 3, none⟩) hbl).trans e3; replace e4 := (hb9.cell (p := ⟨w.heap.size, 4, none⟩) hbl).trans e4; replace e5 := (hb9.cell (p := ⟨w.heap.size, 5, none⟩) hbl).trans e5; replace e6 := (hb9.cell (p := ⟨w.heap.size, 6, none⟩) hbl).trans e6; replace hbl := Nat.lt_of_lt_of_le hbl hb9.size; clear hb9))
     go_ret
     exact ⟨by rw [HR.out] <;> rfl, HB.out⟩
   by_cases hf : x.attr.all testB = false
   · have k3 : (x.kind == 3) = false := by simp [*]
     have k3b : decide (x.kind = 3) = false := by simp [*]
     have k1 : (x.kind == 1) = false := by simp [*]
     have k1b : decide (x.kind = 1) = false := by simp [*]
     have k2 : (x.kind == 2) = true := by simp [*]
     have k2b : decide (x.kind = 2) = true := by simp [*]
     have aa : decide ((0 : Int) < (x.conds.length : Int)) = false := decide_eq_false (by omega)
     have ab : decide (0 < x.conds.length) = false := decide_eq_false (by omega)
     have w1 : isWord x.id = true := by simpa using hb
     have dz : ((x.attr.length : Int) == 0) = false := by rw [beq_eq_false_iff_ne]; omega
     have dy : decide ((x.attr.length : Int) = 0) = false := decide_eq_false (by omega)
     have fa : decide ((4 : Int) < (x.attr.length : Int)) = false := decide_eq_false (by omega)
     have fb : decide (4 < x.attr.length) = false := decide_eq_false (by omega)
     have ga : decide ((4 : Int) < (x.value.length : Int)) = false := decide_eq_false (by omega)
     have gb : decide (4 < x.value.length) = false := decide_eq_false (by omega)
     have t1 := hf
     have HR := Lib.hid (show condE x deep = 9 by simp [condE, *])
     have H_k3 := Lib.hid k3
     have H_k3b := Lib.hid k3b
     have H_k1 := Lib.hid k1
     have H_k1b := Lib.hid k1b
     have H_k2 := Lib.hid k2
     have H_k2b := Lib.hid k2b
     have H_aa := Lib.hid aa
     have H_ab := Lib.hid ab
     have H_w1 := Lib.hid w1
     have H_dz := Lib.hid dz
     have H_dy := Lib.hid dy
     have H_fa := Lib.hid fa
     have H_fb := Lib.hid fb
     have H_ga := Lib.hid ga
     have H_gb := Lib.hid gb
     have H_t1 := Lib.hid t1
     clear k3 k3b k1 k1b k2 k2b aa ab w1 dz dy fa fb ga gb t1
     clear hk3 hk1 hk2 hk2x ha hb hc hd he hf
     go_enter Tryz.func95, Tryz.ntmps95
     go_upto_region 1 with fail
     obtain ⟨W1, hW1⟩ : ∃ W1, W1 = w.alloc (.cells #[.int .i64 x.kind, .bool x.goal, .string x.id, .slice A1 x.attr.length c1, .slice A2 x.value.length c2, .bool x.acc, .slice A3 x.conds.length c3] 62) := ⟨_, rfl⟩
     rw [← hW1]
     have hBk : Blk W1 w.heap.size 62 #[.int .i64 x.kind, .bool x.goal, .string x.id, .slice A1 x.attr.length c1, .slice A2 x.value.length c2, .bool x.acc, .slice A3 x.conds.length c3] := by rw [hW1]; exact Blk.new _ _ _
     have HB := Lib.hid (show Below w.heap.size w W1 by rw [hW1]; exact (Below.refl _ _).alloc (Nat.le_refl _) _)
     have e0 : W1.cell? ⟨w.heap.size, 0, none⟩ = some (.int .i64 x.kind) := (hBk.cell 0).trans rfl
     have e1 : W1.cell? ⟨w.heap.size, 1, none⟩ = some (.bool x.goal) := (hBk.cell 1).trans rfl
     have e2 : W1.cell? ⟨w.heap.size, 2, none⟩ = some (.string x.id) := (hBk.cell 2).trans rfl
     have e3 : W1.cell? ⟨w.heap.size, 3, none⟩ = some (.slice A1 x.attr.length c1) := (hBk.cell 3).trans rfl
     have e4 : W1.cell? ⟨w.heap.size, 4, none⟩ = some (.slice A2 x.value.length c2) := (hBk.cell 4).trans rfl
     have e5 : W1.cell? ⟨w.heap.size, 5, none⟩ = some (.bool x.acc) := (hBk.cell 5).trans rfl
     have e6 : W1.cell? ⟨w.heap.size, 6, none⟩ = some (.slice A3 x.conds.length c3) := (hBk.cell 6).trans rfl
     have hbl := hBk.lt
     clear hW1 hBk
     have k3 := H_k3.out
     have k3b := H_k3b.out
     have k1 := H_k1.out
     have k1b := H_k1b.out
     have k2 := H_k2.out
     have k2b := H_k2b.out
     have aa := H_aa.out
     have ab := H_ab.out
     have w1 := H_w1.out
     have dz := H_dz.out
     have dy := H_dy.out
     have fa := H_fa.out
     have fb := H_fb.out
     have ga := H_ga.out
     have gb := H_gb.out
     have t1 := H_t1.out
     go_wp2_with (first | (go_at_call 81; refine (word_is x.id _).mono ?_; rintro e w9 ⟨rfl, rfl⟩) | (go_at_call 113; (first | (with_reducible refine (tests_is A1 c1 x.attr _ (H1.out.new_ HB.out)).mono ?_) | (with_reducible refine (tests_is A2 c2 x.value _ (H2.out.new_ HB.out)).mono ?_)); rintro e w9 ⟨rfl, hb9⟩; have HB := Lib.hid (HB.out.trans (hb9.mono HB.out.size)); replace e0 := (hb9.cell (p := ⟨w.heap.size, 0, none⟩) hbl).trans e0; replace e1 := (hb9.cell (p := ⟨w.heap.size, 1, none⟩) hbl).trans e1; replace e2 := (hb9.cell (p := ⟨w.heap.size, 2, none⟩) hbl).trans e2; replace e3 := (hb9.cell (p := ⟨w.heap.size, 3, none⟩) hbl).trans e3; replace e4 := (hb9.cell (p := ⟨w.heap.size, 4, none⟩) hbl).trans e4; replace e5 := (hb9.cell (p := ⟨w.heap.size, 5, none⟩) hbl).trans e5; replace e6 := (hb9.cell (p := ⟨w.heap.size, 6, none⟩) hbl).trans e6; replace hbl := Nat.lt_of_lt_of_le hbl hb9.size; clear hb9))
     go_ret
     exact ⟨by rw [HR.out] <;> rfl, HB.out⟩
   by_cases hg : x.value.all testB = false
   · have k3 : (x.kind == 3) = false := by simp [*]
     have k3b : decide (x.kind = 3) = false := by simp [*]
     have k1 : (x.kind == 1) = false := by simp [*]
     have k1b : decide (x.kind = 1) = false := by simp [*]
     have k2 : (x.kind == 2) = true := by simp [*]
     have k2b : decide (x.kind = 2) = true := by simp [*]
     have aa : decide ((0 : Int) < (x.conds.length : Int)) = false := decide_eq_false (by omega)
     have ab : decide (0 < x.conds.length) = false := decide_eq_false (by omega)
     have w1 : isWord x.id = true := by simpa using hb
     have dz : ((x.attr.length : Int) == 0) = false := by rw [beq_eq_false_iff_ne]; omega
     have dy : decide ((x.attr.length : Int) = 0) = false := decide_eq_false (by omega)
     have fa : decide ((4 : Int) < (x.attr.length : Int)) = false := decide_eq_false (by omega)
     have fb : decide (4 < x.attr.length) = false := decide_eq_false (by omega)
     have ga : decide ((4 : Int) < (x.value.length : Int)) = false := decide_eq_false (by omega)
     have gb : decide (4 < x.value.length) = false := decide_eq_false (by omega)
     have t1 : x.attr.all testB = true := by simpa using hf
     have t2 := hg
     have HR := Lib.hid (show condE x deep = 9 by simp [condE, *])
     have H_k3 := Lib.hid k3
     have H_k3b := Lib.hid k3b
     have H_k1 := Lib.hid k1
     have H_k1b := Lib.hid k1b
     have H_k2 := Lib.hid k2
     have H_k2b := Lib.hid k2b
     have H_aa := Lib.hid aa
     have H_ab := Lib.hid ab
     have H_w1 := Lib.hid w1
     have H_dz := Lib.hid dz
     have H_dy := Lib.hid dy
     have H_fa := Lib.hid fa
     have H_fb := Lib.hid fb
     have H_ga := Lib.hid ga
     have H_gb := Lib.hid gb
     have H_t1 := Lib.hid t1
     have H_t2 := Lib.hid t2
     clear k3 k3b k1 k1b k2 k2b aa ab w1 dz dy fa fb ga gb t1 t2
     clear hk3 hk1 hk2 hk2x ha hb hc hd he hf hg
     go_enter Tryz.func95, Tryz.ntmps95
     go_upto_region 1 with fail
     obtain ⟨W1, hW1⟩ : ∃ W1, W1 = w.alloc (.cells #[.int .i64 x.kind, .bool x.goal, .string x.id, .slice A1 x.attr.length c1, .slice A2 x.value.length c2, .bool x.acc, .slice A3 x.conds.length c3] 62) := ⟨_, rfl⟩
     rw [← hW1]
     have hBk : Blk W1 w.heap.size 62 #[.int .i64 x.kind, .bool x.goal, .string x.id, .slice A1 x.attr.length c1, .slice A2 x.value.length c2, .bool x.acc, .slice A3 x.conds.length c3] := by rw [hW1]; exact Blk.new _ _ _
     have HB := Lib.hid (show Below w.heap.size w W1 by rw [hW1]; exact (Below.refl _ _).alloc (Nat.le_refl _) _)
     have e0 : W1.cell? ⟨w.heap.size, 0, none⟩ = some (.int .i64 x.kind) := (hBk.cell 0).trans rfl
     have e1 : W1.cell? ⟨w.heap.size, 1, none⟩ = some (.bool x.goal) := (hBk.cell 1).trans rfl
     have e2 : W1.cell? ⟨w.heap.size, 2, none⟩ = some (.string x.id) := (hBk.cell 2).trans rfl
     have e3 : W1.cell? ⟨w.heap.size, 3, none⟩ = some (.slice A1 x.attr.length c1) := (hBk.cell 3).trans rfl
     have e4 : W1.cell? ⟨w.heap.size, 4, none⟩ = some (.slice A2 x.value.length c2) := (hBk.cell 4).trans rfl
     have e5 : W1.cell? ⟨w.heap.size, 5, none⟩ = some (.bool x.acc) := (hBk.cell 5).trans rfl
     have e6 : W1.cell? ⟨w.heap.size, 6, none⟩ = some (.slice A3 x.conds.length c3) := (hBk.cell 6).trans rfl
     have hbl := hBk.lt
     clear hW1 hBk
     have k3 := H_k3.out
     have k3b := H_k3b.out
     have k1 := H_k1.out
     have k1b := H_k1b.out
     have k2 := H_k2.out
     have k2b := H_k2b.out
     have aa := H_aa.out
     have ab := H_ab.out
     have w1 := H_w1.out
     have dz := H_dz.out
     have dy := H_dy.out
     have fa := H_fa.out
     have fb := H_fb.out
     have ga := H_ga.out
     have gb := H_gb.out
     have t1 := H_t1.out
     have t2 := H_t2.out
     go_wp2_with (first | (go_at_call 81; refine (word_is x.id _).mono ?_; rintro e w9 ⟨rfl, rfl⟩) | (go_at_call 113; (first | (with_reducible refine (tests_is A1 c1 x.attr _ (H1.out.new_ HB.out)).mono ?_) | (with_reducible refine (tests_is A2 c2 x.value _ (H2.out.new_ HB.out)).mono ?_)); rintro e w9 ⟨rfl, hb9⟩; have HB := Lib.hid (HB.out.trans (hb9.mono HB.out.size)); replace e0 := (hb9.cell (p := ⟨w.heap.size, 0, none⟩) hbl).trans e0; replace e1 := (hb9.cell (p := ⟨w.heap.size, 1, none⟩) hbl).trans e1; replace e2 := (hb9.cell (p := ⟨w.heap.size, 2, none⟩) hbl).trans e2; replace e3 := (hb9.cell (p := ⟨w.heap.size, 3, none⟩) hbl).trans e3; replace e4 := (hb9.cell (p := ⟨w.heap.size, 4, none⟩) hbl).trans e4; replace e5 := (hb9.cell (p := ⟨w.heap.size, 5, none⟩) hbl).trans e5; replace e6 := (hb9.cell (p := ⟨w.heap.size, 6, none⟩) hbl).trans e6; replace hbl := Nat.lt_of_lt_of_le hbl hb9.size; clear hb9))
     go_ret
     exact ⟨by rw [HR.out] <;> rfl, HB.out⟩
   have k3 : (x.kind == 3) = false := by simp [*]
   have k3b : decide (x.kind = 3) = false := by simp [*]
   have k1 : (x.kind == 1) = false := by simp [*]
   have k1b : decide (x.kind = 1) = false := by simp [*]
   have k2 : (x.kind == 2) = true := by simp [*]
   have k2b : decide (x.kind = 2) = true := by simp [*]
   have aa : decide ((0 : Int) < (x.conds.length : Int)) = false := decide_eq_false (by omega)
   have ab : decide (0 < x.conds.length) = false := decide_eq_false (by omega)
   have w1 : isWord x.id = true := by simpa using hb
   have dz : ((x.attr.length : Int) == 0) = false := by rw [beq_eq_false_iff_ne]; omega
   have dy : decide ((x.attr.length : Int) = 0) = false := decide_eq_false (by omega)
   have fa : decide ((4 : Int) < (x.attr.length : Int)) = false := decide_eq_false (by omega)
   have fb : decide (4 < x.attr.length) = false := decide_eq_false (by omega)
   have ga : decide ((4 : Int) < (x.value.length : Int)) = false := decide_eq_false (by omega)
   have gb : decide (4 < x.value.length) = false := decide_eq_false (by omega)
   have t1 : x.attr.all testB = true := by simpa using hf
   have t2 : x.value.all testB = true := by simpa using hg
   have HR := Lib.hid (show condE x deep = 0 by simp [condE, *])
   have H_k3 := Lib.hid k3
   have H_k3b := Lib.hid k3b
   have H_k1 := Lib.hid k1
   have H_k1b := Lib.hid k1b
   have H_k2 := Lib.hid k2
   have H_k2b := Lib.hid k2b
   have H_aa := Lib.hid aa
   have H_ab := Lib.hid ab
   have H_w1 := Lib.hid w1
   have H_dz := Lib.hid dz
   have H_dy := Lib.hid dy
   have H_fa := Lib.hid fa
   have H_fb := Lib.hid fb
   have H_ga := Lib.hid ga
   have H_gb := Lib.hid gb
   have H_t1 := Lib.hid t1
   have H_t2 := Lib.hid t2
   clear k3 k3b k1 k1b k2 k2b aa ab w1 dz dy fa fb ga gb t1 t2
   clear hk3 hk1 hk2 hk2x ha hb hc hd he hf hg
   go_enter Tryz.func95, Tryz.ntmps95
   go_upto_region 1 with fail
   obtain ⟨W1, hW1⟩ : ∃ W1, W1 = w.alloc (.cells #[.int .i64 x.kind, .bool x.goal, .string x.id, .slice A1 x.attr.length c1, .slice A2 x.value.length c2, .bool x.acc, .slice A3 x.conds.length c3] 62) := ⟨_, rfl⟩
   rw [← hW1]
   have hBk : Blk W1 w.heap.size 62 #[.int .i64 x.kind, .bool x.goal, .string x.id, .slice A1 x.attr.length c1, .slice A2 x.value.length c2, .bool x.acc, .slice A3 x.conds.length c3] := by rw [hW1]; exact Blk.new _ _ _
   have HB := Lib.hid (show Below w.heap.size w W1 by rw [hW1]; exact (Below.refl _ _).alloc (Nat.le_refl _) _)
   have e0 : W1.cell? ⟨w.heap.size, 0, none⟩ = some (.int .i64 x.kind) := (hBk.cell 0).trans rfl
   have e1 : W1.cell? ⟨w.heap.size, 1, none⟩ = some (.bool x.goal) := (hBk.cell 1).trans rfl
   have e2 : W1.cell? ⟨w.heap.size, 2, none⟩ = some (.string x.id) := (hBk.cell 2).trans rfl
   have e3 : W1.cell? ⟨w.heap.size, 3, none⟩ = some (.slice A1 x.attr.length c1) := (hBk.cell 3).trans rfl
   have e4 : W1.cell? ⟨w.heap.size, 4, none⟩ = some (.slice A2 x.value.length c2) := (hBk.cell 4).trans rfl
   have e5 : W1.cell? ⟨w.heap.size, 5, none⟩ = some (.bool x.acc) := (hBk.cell 5).trans rfl
   have e6 : W1.cell? ⟨w.heap.size, 6, none⟩ = some (.slice A3 x.conds.length c3) := (hBk.cell 6).trans rfl
   have hbl := hBk.lt
   clear hW1 hBk
   have k3 := H_k3.out
   have k3b := H_k3b.out
   have k1 := H_k1.out
   have k1b := H_k1b.out
   have k2 := H_k2.out
   have k2b := H_k2b.out
   have aa := H_aa.out
   have ab := H_ab.out
   have w1 := H_w1.out
   have dz := H_dz.out
   have dy := H_dy.out
   have fa := H_fa.out
   have fb := H_fb.out
   have ga := H_ga.out
   have gb := H_gb.out
   have t1 := H_t1.out
   have t2 := H_t2.out
   go_wp2_with (first | (go_at_call 81; refine (word_is x.id _).mono ?_; rintro e w9 ⟨rfl, rfl⟩) | (go_at_call 113; (first | (with_reducible refine (tests_is A1 c1 x.attr _ (H1.out.new_ HB.out)).mono ?_) | (with_reducible refine (tests_is A2 c2 x.value _ (H2.out.new_ HB.out)).mono ?_)); rintro e w9 ⟨rfl, hb9⟩; have HB := Lib.hid (HB.out.trans (hb9.mono HB.out.size)); replace e0 := (hb9.cell (p := ⟨w.heap.size, 0, none⟩) hbl).trans e0; replace e1 := (hb9.cell (p := ⟨w.heap.size, 1, none⟩) hbl).trans e1; replace e2 := (hb9.cell (p := ⟨w.heap.size, 2, none⟩) hbl).trans e2; replace e3 := (hb9.cell (p := ⟨w.heap.size, 3, none⟩) hbl).trans e3; replace e4 := (hb9.cell (p := ⟨w.heap.size, 4, none⟩) hbl).trans e4; replace e5 := (hb9.cell (p := ⟨w.heap.size, 5, none⟩) hbl).trans e5; replace e6 := (hb9.cell (p := ⟨w.heap.size, 6, none⟩) hbl).trans e6; replace hbl := Nat.lt_of_lt_of_le hbl hb9.size; clear hb9))
   go_ret
   exact ⟨by rw [HR.out] <;> rfl, HB.out⟩
 have k3 : (x.kind == 3) = false := by simp [*]
 have k3b : decide (x.kind = 3) = false := by simp [*]
 have k1 : (x.kind == 1) = false := by simp [*]
 have k1b : decide (x.kind = 1) = false := by simp [*]
 have k2 : (x.kind == 2) = false := by simp [*]
 have k2b : decide (x.kind = 2) = false := by simp [*]
 have HR := Lib.hid (show condE x deep = 9 by simp [condE, *])
 have H_k3 := Lib.hid k3
 have H_k3b := Lib.hid k3b
 have H_k1 := Lib.hid k1
 have H_k1b := Lib.hid k1b
 have H_k2 := Lib.hid k2
 have H_k2b := Lib.hid k2b
 clear k3 k3b k1 k1b k2 k2b
 clear hk3 hk1 hk2
 go_enter Tryz.func95, Tryz.ntmps95
 go_upto_region 1 with fail
 obtain ⟨W1, hW1⟩ : ∃ W1, W1 = w.alloc (.cells #[.int .i64 x.kind, .bool x.goal, .string x.id, .slice A1 x.attr.length c1, .slice A2 x.value.length c2, .bool x.acc, .slice A3 x.conds.length c3] 62) := ⟨_, rfl⟩
 rw [← hW1]
 have hBk : Blk W1 w.heap.size 62 #[.int .i64 x.kind, .bool x.goal, .string x.id, .slice A1 x.attr.length c1, .slice A2 x.value.length c2, .bool x.acc, .slice A3 x.conds.length c3] := by rw [hW1]; exact Blk.new _ _ _
 have HB := Lib.hid (show Below w.heap.size w W1 by rw [hW1]; exact (Below.refl _ _).alloc (Nat.le_refl _) _)
 have e0 : W1.cell? ⟨w.heap.size, 0, none⟩ = some (.int .i64 x.kind) := (hBk.cell 0).trans rfl
 have e1 : W1.cell? ⟨w.heap.size, 1, none⟩ = some (.bool x.goal) := (hBk.cell 1).trans rfl
 have e2 : W1.cell? ⟨w.heap.size, 2, none⟩ = some (.string x.id) := (hBk.cell 2).trans rfl
 have e3 : W1.cell? ⟨w.heap.size, 3, none⟩ = some (.slice A1 x.attr.length c1) := (hBk.cell 3).trans rfl
 have e4 : W1.cell? ⟨w.heap.size, 4, none⟩ = some (.slice A2 x.value.length c2) := (hBk.cell 4).trans rfl
 have e5 : W1.cell? ⟨w.heap.size, 5, none⟩ = some (.bool x.acc) := (hBk.cell 5).trans rfl
 have e6 : W1.cell? ⟨w.heap.size, 6, none⟩ = some (.slice A3 x.conds.length c3) := (hBk.cell 6).trans rfl
 have hbl := hBk.lt
 clear hW1 hBk
 have k3 := H_k3.out
 have k3b := H_k3b.out
 have k1 := H_k1.out
 have k1b := H_k1b.out
 have k2 := H_k2.out
 have k2b := H_k2b.out
 go_wp2_with (first | (go_at_call 81; refine (word_is x.id _).mono ?_; rintro e w9 ⟨rfl, rfl⟩) | (go_at_call 113; (first | (with_reducible refine (tests_is A1 c1 x.attr _ (H1.out.new_ HB.out)).mono ?_) | (with_reducible refine (tests_is A2 c2 x.value _ (H2.out.new_ HB.out)).mono ?_)); rintro e w9 ⟨rfl, hb9⟩; have HB := Lib.hid (HB.out.trans (hb9.mono HB.out.size)); replace e0 := (hb9.cell (p := ⟨w.heap.size, 0, none⟩) hbl).trans e0; replace e1 := (hb9.cell (p := ⟨w.heap.size, 1, none⟩) hbl).trans e1; replace e2 := (hb9.cell (p := ⟨w.heap.size, 2, none⟩) hbl).trans e2; replace e3 := (hb9.cell (p := ⟨w.heap.size, 3, none⟩) hbl).trans e3; replace e4 := (hb9.cell (p := ⟨w.heap.size, 4, none⟩) hbl).trans e4; replace e5 := (hb9.cell (p := ⟨w.heap.size, 5, none⟩) hbl).trans e5; replace e6 := (hb9.cell (p := ⟨w.heap.size, 6, none⟩) hbl).trans e6; replace hbl := Nat.lt_of_lt_of_le hbl hb9.size; clear hb9))
 go_ret
 exact ⟨by rw [HR.out] <;> rfl, HB.out⟩
end Go.Proofs.YtpndmjabjjbefaaGreat
