/-
  Texts put together: BkSame1, BkSame2, BkSame3, BkNames, BkNames2, RangeM, SymValid, ShapePlain.
-/
import Derived.Test.YtffemfglngikbaaBb
import Derived.Test.YtffemfglngikbaaBc
import Derived.Laws.EntriesVeiled
import Derived.Maps.RangeWalk
namespace Go.Proofs.Ytffemfglngikbaa
open Go.RowKit Go.Shelf
theorem neqs_Sym (x : Sym) (W : World) : (binOp .neq 52 (.agg #[.int .i64 x.kind, .string x.text, .int .i64 x.n]) (.agg #[.int .i64 x.kind, .string x.text, .int .i64 x.n])).run Try.prog W = .ok (.bool false) W := by
 rw [run_neq_struct]
 go_simp
set_option maxRecDepth 100000 in
set_option maxHeartbeats 4000000 in
theorem syms_same {D D' : Nat → Prop} {A B : Option Addr} {c d : Nat} (l : List Sym) (w : World) (hl : RowR repSym D w A c l) (hm : RowR repSym D' w B d l) :
 Calls Try.prog 83 #[.slice A l.length c, .slice B l.length d] w fun e w' => e = .returned (.bool true) ∧ Below w.heap.size w w' := by
 have HL := Lib.hid hl
 have HM := Lib.hid hm
 have hlc := hl.cap
 clear hl hm
 go_enter Try.func83, Try.ntmps83
 go_wp2_with fail
 go_loopw [5] (fun s wr => ∃ i : Nat, s = .int .i64 i ∧ i ≤ l.length ∧ Below w.heap.size w wr) (fun s wr => l.length - (intOf s).toNat)
 case atStart => exact ⟨0, rfl, Nat.zero_le _, Below.refl _ _⟩
 case round =>
  obtain ⟨i, rfl, hi, hB⟩ := hrel
  have HB := Lib.hid hB
  clear hB
  by_cases hlt : i < l.length
  · obtain ⟨x, hx⟩ : ∃ x, x = l[i] := ⟨_, rfl⟩
    obtain ⟨g, off, rfl, _, hgs, q0, q1, q2⟩ := at_Sym (HL.out.new_ HB.out) hlt
    obtain ⟨g2, off2, rfl, _, hgs2, p0, p1, p2⟩ := at_Sym (HM.out.new_ HB.out) hlt
    rw [← hx] at q0 q1 q2 p0 p1 p2
    have b1 : (0 : Int) ≤ (i : Int) := by omega
    have b2 : (i : Int) < (l.length : Int) := by omega
    have hbe := fun W => neqs_Sym x W
    clear hx
    go_wp2_with fail
    go_quiet (fail)
    have HB2 := Lib.hid (Below.drewN' HB.out nq)
    clear q0 q1 q2 p0 p1 p2
    go_wp2_with fail
    go_roundw
    case rel => exact ⟨i + 1, by go_num, by omega, HB2.out⟩
    case measure => simp [intOf] <;> omega
  · obtain rfl : i = l.length := by omega
    go_wp2_with fail
    go_ret
    exact ⟨rfl, HB.out⟩
end Go.Proofs.Ytffemfglngikbaa
namespace Go.Proofs.Ytffemfglngikbaa
open Go.RowKit Go.Shelf
set_option maxRecDepth 100000 in
set_option maxHeartbeats 16000000 in
theorem tests_same {D D' : Nat → Prop} {A B : Option Addr} {c d : Nat} (l : List TestT) (w : World) (hl : RowR repTestT D w A c l) (hm : RowR repTestT D' w B d l) :
 Calls Try.prog 74 #[.slice A l.length c, .slice B l.length d] w fun e w' => e = .returned (.bool true) ∧ Below w.heap.size w w' := by
 have HL := Lib.hid hl
 have HM := Lib.hid hm
 have hlc := hl.cap
 clear hl hm
 go_enter Try.func74, Try.ntmps74
 go_wp2_with fail
 go_loopw [5] (fun s wr => ∃ i : Nat, s = .int .i64 i ∧ i ≤ l.length ∧ Below w.heap.size w wr) (fun s wr => l.length - (intOf s).toNat)
 case atStart => exact ⟨0, rfl, Nat.zero_le _, Below.refl _ _⟩
 case round =>
  obtain ⟨i, rfl, hi, hB⟩ := hrel
  have HB := Lib.hid hB
  clear hB
  by_cases hlt : i < l.length
  · obtain ⟨y, hy⟩ : ∃ y, y = l[i] := ⟨_, rfl⟩
    have b1 : (0 : Int) ≤ (i : Int) := by omega
    have b2 : (i : Int) < (l.length : Int) := by omega
    obtain ⟨g, off, A3, c3, rfl, _, hgs, q0, q1, q2, q3, q4, q5, h3⟩ := at_TestT (HL.out.new_ HB.out) hlt
    obtain ⟨g2, off2, B3, d3, rfl, _, hgs2, p0, p1, p2, p3, p4, p5, k3⟩ := at_TestT (HM.out.new_ HB.out) hlt
    rw [← hy] at q0 q1 q2 q3 q4 q5 p0 p1 p2 p3 p4 p5 h3 k3
    have H3 := Lib.hid h3
    have K3 := Lib.hid k3
    have hbe := fun W => neqs_Sym y.sym W
    clear hy h3 k3
    go_wp2_with fail
    refine wp_region_E (fun w9 => Below wr.heap.size wr w9) [(0, 0), (1, 0), (2, 0), (3, 0), (4, 1), (5, 0), (6, 0), (7, 0), (8, 0), (9, 1), (10, 0), (11, 0), (12, 0), (13, 0), (14, 0), (15, 0), (16, 1), (17, 0), (18, 0), (19, 0), (20, 0), (21, 1), (22, 0), (23, 0), (24, 0), (25, 0), (26, 0), (27, 0), (28, 0), (29, 1), (30, 0), (31, 0), (32, 0), (33, 0), (34, 1), (35, 0), (36, 0), (37, 0), (38, 0), (39, 0), (40, 0), (41, 0), (42, 1), (43, 0), (44, 0), (45, 0), (46, 0), (47, 1), (48, 2), (49, 0), (50, 0)] (by kernel_rfl) (by kernel_rfl) (fun KK hKK => ?_)
    simp only [beside, List.filterMap_cons, List.filterMap_nil, List.getElem?_toArray, List.getElem?_cons_zero, List.getElem?_cons_succ, Option.map_some]
    repeat ((first | (refine wpX_w ?_ (Or.inl ⟨by rfl, fun w9 => ?_⟩) ?_; rotate_left 1; go_simp; with_reducible rfl) | (refine wpX_l ?_ (((Below.refl _ _).drew)) (Or.inl ⟨by rfl, fun w9 hw9 => ?_⟩) ?_; rotate_left 1; obtain ⟨hc9, hf9⟩ := bcell hw9; go_simp; with_reducible rfl) | refine wpX_w undef (Or.inr ⟨by rfl, rfl⟩) ?_ | refine wpX_l undef (((Below.refl _ _).drew)) (Or.inr ⟨by rfl, rfl⟩) ?_); go_frame)
    refine wpX_e (by kernel_rfl) (fun K9 hK9 => ?_)
    go_simp
    refine (syms_same y.list _ (H3.out.new_ ((Below.refl _ _).drew)) (K3.out.new_ ((Below.refl _ _).drew))).mono ?_
    rintro e w5 ⟨rfl, hb5⟩
    have HB2 := Lib.hid ((HB.out.drew).trans (hb5.mono HB.out.size))
    clear hb5
    refine hK9 _ _ ?_
    clear hK9 K9
    repeat ((first | (refine wpX_w ?_ (Or.inl ⟨by rfl, fun w9 => ?_⟩) ?_; rotate_left 1; go_simp; with_reducible rfl) | (refine wpX_l ?_ (((Below.refl _ _).drew)) (Or.inl ⟨by rfl, fun w9 hw9 => ?_⟩) ?_; rotate_left 1; obtain ⟨hc9, hf9⟩ := bcell hw9; go_simp; with_reducible rfl) | refine wpX_w undef (Or.inr ⟨by rfl, rfl⟩) ?_ | refine wpX_l undef (((Below.refl _ _).drew)) (Or.inr ⟨by rfl, rfl⟩) ?_); go_frame)
    refine wpX_nil ?_
    simp only [OnlyN_normal]
    refine hKK _ _ ?_
    clear hKK KK
    clear q0 q1 q2 q3 q4 q5 p0 p1 p2 p3 p4 p5
    go_wp2_with fail
    go_roundw
    case rel => exact ⟨i + 1, by go_num, by omega, HB2.out⟩
    case measure => simp [intOf] <;> omega
  · obtain rfl : i = l.length := by omega
    go_wp2_with fail
    go_ret
    exact ⟨rfl, HB.out⟩
end Go.Proofs.Ytffemfglngikbaa
namespace Go.Proofs.Ytffemfglngikbaa
open Go.RowKit Go.Shelf
abbrev CondsSame (n : Nat) : Prop := ∀ (D D' : Nat → Prop) (A B : Option Addr) (c d : Nat) (l : List CondT) (w : World), RowR (repCondT n) D w A c l → RowR (repCondT n) D' w B d l →
 Calls Try.prog 36 #[.slice A l.length c, .slice B l.length d] w fun e w' => e = .returned (.bool true) ∧ Below w.heap.size w w'
set_option maxRecDepth 100000 in
set_option maxHeartbeats 4000000 in
theorem cond_same (n : Nat) (ih : CondsSame n) {D D' : Nat → Prop} (y : CondT) (A1 : Option Addr) (a1 : Nat) (A2 : Option Addr) (a2 : Nat) (A3 : Option Addr) (a3 : Nat) (B1 : Option Addr) (b1 : Nat) (B2 : Option Addr) (b2 : Nat) (B3 : Option Addr) (b3 : Nat) (w : World)
 (g1 : RowR repTestT D w A1 a1 y.attr) (g2 : RowR repTestT D w A2 a2 y.value) (g3 : RowR (repCondT n) D w A3 a3 y.conds) (k1 : RowR repTestT D' w B1 b1 y.attr) (k2 : RowR repTestT D' w B2 b2 y.value) (k3 : RowR (repCondT n) D' w B3 b3 y.conds) :
 Calls Try.prog 59 #[.agg #[.int .i64 y.kind, .bool y.goal, .string y.id, .slice A1 y.attr.length a1, .slice A2 y.value.length a2, .bool y.acc, .slice A3 y.conds.length a3], .agg #[.int .i64 y.kind, .bool y.goal, .string y.id, .slice B1 y.attr.length b1, .slice B2 y.value.length b2, .bool y.acc, .slice B3 y.conds.length b3]] w fun e w' => e = .returned (.bool true) ∧ Below w.heap.size w w' := by
 have G1 := Lib.hid g1
 have G2 := Lib.hid g2
 have G3 := Lib.hid g3
 have K1 := Lib.hid k1
 have K2 := Lib.hid k2
 have K3 := Lib.hid k3
 have IH := Lib.hid ih
 clear g1 g2 g3 k1 k2 k3 ih
 go_enter Try.func59, Try.ntmps59
 go_upto_region 1 with fail
 obtain ⟨w1, hw1⟩ : ∃ w1, w1 = ((w.alloc (.cells #[.int .i64 y.kind, .bool y.goal, .string y.id, .slice A1 y.attr.length a1, .slice A2 y.value.length a2, .bool y.acc, .slice A3 y.conds.length a3] 50)).alloc (.cells #[.int .i64 y.kind, .bool y.goal, .string y.id, .slice B1 y.attr.length b1, .slice B2 y.value.length b2, .bool y.acc, .slice B3 y.conds.length b3] 50)) := ⟨_, rfl⟩
 rw [← hw1]
 have HB := Lib.hid (show Below w.heap.size w w1 by rw [hw1]; exact (by repeat (first | exact Below.refl _ _ | refine Below.drew ?_ | refine Below.al ?_ _ | refine Below.sc ?_ _)))
 have Ka := Lib.hid (show Blk w1 (w.heap.size) 50 #[.int .i64 y.kind, .bool y.goal, .string y.id, .slice A1 y.attr.length a1, .slice A2 y.value.length a2, .bool y.acc, .slice A3 y.conds.length a3] by rw [hw1]; exact ((Blk.new w 50 #[.int .i64 y.kind, .bool y.goal, .string y.id, .slice A1 y.attr.length a1, .slice A2 y.value.length a2, .bool y.acc, .slice A3 y.conds.length a3]).alloc (.cells #[.int .i64 y.kind, .bool y.goal, .string y.id, .slice B1 y.attr.length b1, .slice B2 y.value.length b2, .bool y.acc, .slice B3 y.conds.length b3] 50)))
 have Kb := Lib.hid (show Blk w1 (w.heap.size + 1) 50 #[.int .i64 y.kind, .bool y.goal, .string y.id, .slice B1 y.attr.length b1, .slice B2 y.value.length b2, .bool y.acc, .slice B3 y.conds.length b3] by rw [hw1]; have hh := (Blk.new (w.alloc (.cells #[.int .i64 y.kind, .bool y.goal, .string y.id, .slice A1 y.attr.length a1, .slice A2 y.value.length a2, .bool y.acc, .slice A3 y.conds.length a3] 50)) 50 #[.int .i64 y.kind, .bool y.goal, .string y.id, .slice B1 y.attr.length b1, .slice B2 y.value.length b2, .bool y.acc, .slice B3 y.conds.length b3]); simp only [World.size_alloc] at hh; exact hh)
 clear hw1
 obtain ⟨a0, a1, a2, a3, a4, a5, a6⟩ := Ka.out.c7
 have az := Ka.out.lt
 obtain ⟨b0, b1, b2, b3, b4, b5, b6⟩ := Kb.out.c7
 have bz := Kb.out.lt
 go_wp2_with fail
 with_reducible refine (tests_same y.attr _ (G1.out.new_ (by (repeat (first | exact Below.refl _ _ | exact HB.out | refine Below.drew ?_ | refine Below.al ?_ _ | refine Below.sc ?_ _)))) (K1.out.new_ (by (repeat (first | exact Below.refl _ _ | exact HB.out | refine Below.drew ?_ | refine Below.al ?_ _ | refine Below.sc ?_ _))))).mono ?_
 rintro e w2 ⟨rfl, hb⟩
 have hbs := Below.trans (show Below w1.heap.size w1 _ from (by (repeat (first | exact Below.refl _ _ | refine Below.drew ?_ | refine Below.al ?_ _ | refine Below.sc ?_ _)))) (hb.mono (by simp <;> omega))
 have Ka := Lib.hid (Ka.out.new_ hbs)
 have Kb := Lib.hid (Kb.out.new_ hbs)
 have HB := Lib.hid (HB.out.trans (hbs.mono HB.out.size))
 have hsz2 := hbs.size
 clear a0 a1 a2 a3 a4 a5 a6 az b0 b1 b2 b3 b4 b5 b6 bz hb hbs
 obtain ⟨a0, a1, a2, a3, a4, a5, a6⟩ := Ka.out.c7
 have az := Ka.out.lt
 obtain ⟨b0, b1, b2, b3, b4, b5, b6⟩ := Kb.out.c7
 have bz := Kb.out.lt
 go_wp2_with fail
 with_reducible refine (tests_same y.value _ (G2.out.new_ (by (repeat (first | exact Below.refl _ _ | exact HB.out | refine Below.drew ?_ | refine Below.al ?_ _ | refine Below.sc ?_ _)))) (K2.out.new_ (by (repeat (first | exact Below.refl _ _ | exact HB.out | refine Below.drew ?_ | refine Below.al ?_ _ | refine Below.sc ?_ _))))).mono ?_
 rintro e w3 ⟨rfl, hb⟩
 have hbs := Below.trans (show Below w2.heap.size w2 _ from (by (repeat (first | exact Below.refl _ _ | refine Below.drew ?_ | refine Below.al ?_ _ | refine Below.sc ?_ _)))) (hb.mono (by simp <;> omega))
 have Ka := Lib.hid (Ka.out.new_ hbs)
 have Kb := Lib.hid (Kb.out.new_ hbs)
 have HB := Lib.hid (HB.out.trans (hbs.mono HB.out.size))
 have hsz3 := hbs.size
 clear a0 a1 a2 a3 a4 a5 a6 az b0 b1 b2 b3 b4 b5 b6 bz hb hbs
 obtain ⟨a0, a1, a2, a3, a4, a5, a6⟩ := Ka.out.c7
 have az := Ka.out.lt
 obtain ⟨b0, b1, b2, b3, b4, b5, b6⟩ := Kb.out.c7
 have bz := Kb.out.lt
 go_wp2_with fail
 with_reducible refine (IH.out _ _ _ _ _ _ y.conds _ (G3.out.new_ (by (repeat (first | exact Below.refl _ _ | exact HB.out | refine Below.drew ?_ | refine Below.al ?_ _ | refine Below.sc ?_ _)))) (K3.out.new_ (by (repeat (first | exact Below.refl _ _ | exact HB.out | refine Below.drew ?_ | refine Below.al ?_ _ | refine Below.sc ?_ _))))).mono ?_
 rintro e w4 ⟨rfl, hb⟩
 have hbs := Below.trans (show Below w3.heap.size w3 _ from (by (repeat (first | exact Below.refl _ _ | refine Below.drew ?_ | refine Below.al ?_ _ | refine Below.sc ?_ _)))) (hb.mono (by simp <;> omega))
 have Ka := Lib.hid (Ka.out.new_ hbs)
 have Kb := Lib.hid (Kb.out.new_ hbs)
 have HB := Lib.hid (HB.out.trans (hbs.mono HB.out.size))
 have hsz4 := hbs.size
 clear a0 a1 a2 a3 a4 a5 a6 az b0 b1 b2 b3 b4 b5 b6 bz hb hbs
 obtain ⟨a0, a1, a2, a3, a4, a5, a6⟩ := Ka.out.c7
 have az := Ka.out.lt
 obtain ⟨b0, b1, b2, b3, b4, b5, b6⟩ := Kb.out.c7
 have bz := Kb.out.lt
 go_wp2_with fail
 go_ret
 exact ⟨rfl, by (repeat (first | exact Below.refl _ _ | exact HB.out | refine Below.drew ?_ | refine Below.al ?_ _ | refine Below.sc ?_ _))⟩
theorem row_zero {D : Nat → Prop} {w : World} {A : Option Addr} {c : Nat} {l : List CondT} (h : RowR (repCondT 0) D w A c l) : l = [] := by
 cases l with
 | nil => rfl
 | cons y l =>
   obtain ⟨b, off, cs, _, _, _, hr, _⟩ := h.at_ (k := 0) (by simp)
   exact hr.elim
set_option maxRecDepth 100000 in
set_option maxHeartbeats 4000000 in
theorem conds_nil {A B : Option Addr} {c d : Nat} (w : World) :
 Calls Try.prog 36 #[.slice A 0 c, .slice B 0 d] w fun e w' => e = .returned (.bool true) ∧ Below w.heap.size w w' := by
 go_enter Try.func36, Try.ntmps36
 go_wp2_with fail
 go_loopw [5] (fun s wr => s = .int .i64 0 ∧ wr = w) (fun s wr => 0)
 case atStart => exact ⟨rfl, rfl⟩
 case round =>
  obtain ⟨rfl, rfl⟩ := hrel
  go_wp2_with fail
  go_ret
  exact ⟨rfl, Below.refl _ _⟩
set_option maxRecDepth 100000 in
set_option maxHeartbeats 4000000 in
theorem conds_same_succ (n : Nat) (ih : CondsSame n) : CondsSame (n + 1) := by
 intro D D' A B c d l w hl hm
 have HL := Lib.hid hl
 have HM := Lib.hid hm
 have IH := Lib.hid ih
 have hlc := hl.cap
 clear hl hm ih
 go_enter Try.func36, Try.ntmps36
 go_wp2_with fail
 go_loopw [5] (fun s wr => ∃ i : Nat, s = .int .i64 i ∧ i ≤ l.length ∧ Below w.heap.size w wr) (fun s wr => l.length - (intOf s).toNat)
 case atStart => exact ⟨0, rfl, Nat.zero_le _, Below.refl _ _⟩
 case round =>
  obtain ⟨i, rfl, hi, hB⟩ := hrel
  have HB := Lib.hid hB
  clear hB
  by_cases hlt : i < l.length
  · obtain ⟨y, hy⟩ : ∃ y, y = l[i] := ⟨_, rfl⟩
    have b1 : (0 : Int) ≤ (i : Int) := by omega
    have b2 : (i : Int) < (l.length : Int) := by omega
    obtain ⟨g, off, A1, a1, A2, a2, A3, a3, rfl, _, hgs, q0, q1, q2, q3, q4, q5, q6, h1, h2, h3⟩ := at_CondT (HL.out.new_ HB.out) hlt
    obtain ⟨g2, off2, B1, b1_, B2, b2_, B3, b3_, rfl, _, hgs2, p0, p1, p2, p3, p4, p5, p6, k1, k2, k3⟩ := at_CondT (HM.out.new_ HB.out) hlt
    rw [← hy] at q0 q1 q2 q3 q4 q5 q6 p0 p1 p2 p3 p4 p5 p6 h1 h2 h3 k1 k2 k3
    have H1 := Lib.hid h1
    have H2 := Lib.hid h2
    have H3 := Lib.hid h3
    have L1 := Lib.hid k1
    have L2 := Lib.hid k2
    have L3 := Lib.hid k3
    clear hy h1 h2 h3 k1 k2 k3
    go_wp2_with fail
    refine wp_region_E (fun w9 => Below wr.heap.size wr w9) [(0, 0), (1, 0), (2, 0), (3, 1), (4, 0), (5, 0), (6, 0), (7, 1), (8, 2), (9, 0)] (by kernel_rfl) (by kernel_rfl) (fun KK hKK => ?_)
    simp only [beside, List.filterMap_cons, List.filterMap_nil, List.getElem?_toArray, List.getElem?_cons_zero, List.getElem?_cons_succ, Option.map_some]
    repeat ((first | (refine wpX_w ?_ (Or.inl ⟨by rfl, fun w9 => ?_⟩) ?_; rotate_left 1; go_simp; with_reducible rfl) | (refine wpX_l ?_ (((Below.refl _ _).drew)) (Or.inl ⟨by rfl, fun w9 hw9 => ?_⟩) ?_; rotate_left 1; obtain ⟨hc9, hf9⟩ := bcell hw9; go_simp; with_reducible rfl) | refine wpX_w undef (Or.inr ⟨by rfl, rfl⟩) ?_ | refine wpX_l undef (((Below.refl _ _).drew)) (Or.inr ⟨by rfl, rfl⟩) ?_); go_frame)
    refine wpX_e (by kernel_rfl) (fun K9 hK9 => ?_)
    go_simp
    refine (cond_same n IH.out y A1 a1 A2 a2 A3 a3 B1 b1_ B2 b2_ B3 b3_ _ (H1.out.new_ ((Below.refl _ _).drew)) (H2.out.new_ ((Below.refl _ _).drew)) (H3.out.new_ ((Below.refl _ _).drew)) (L1.out.new_ ((Below.refl _ _).drew)) (L2.out.new_ ((Below.refl _ _).drew)) (L3.out.new_ ((Below.refl _ _).drew))).mono ?_
    rintro e w5 ⟨rfl, hb5⟩
    have HB2 := Lib.hid ((HB.out.drew).trans (hb5.mono HB.out.size))
    clear hb5
    refine hK9 _ _ ?_
    clear hK9 K9
    repeat ((first | (refine wpX_w ?_ (Or.inl ⟨by rfl, fun w9 => ?_⟩) ?_; rotate_left 1; go_simp; with_reducible rfl) | (refine wpX_l ?_ (((Below.refl _ _).drew)) (Or.inl ⟨by rfl, fun w9 hw9 => ?_⟩) ?_; rotate_left 1; obtain ⟨hc9, hf9⟩ := bcell hw9; go_simp; with_reducible rfl) | refine wpX_w undef (Or.inr ⟨by rfl, rfl⟩) ?_ | refine wpX_l undef (((Below.refl _ _).drew)) (Or.inr ⟨by rfl, rfl⟩) ?_); go_frame)
    refine wpX_nil ?_
    simp only [OnlyN_normal]
    refine hKK _ _ ?_
    clear hKK KK
    clear q0 q1 q2 q3 q4 q5 q6 p0 p1 p2 p3 p4 p5 p6
    go_wp2_with fail
    go_roundw
    case rel => exact ⟨i + 1, by go_num, by omega, HB2.out⟩
    case measure => simp [intOf] <;> omega
  · obtain rfl : i = l.length := by omega
    go_wp2_with fail
    go_ret
    exact ⟨rfl, HB.out⟩
theorem conds_same : ∀ n : Nat, CondsSame n
 | 0 => by
   intro D D' A B c d l w hl hm
   obtain rfl := row_zero hl
   exact conds_nil w
 | n + 1 => conds_same_succ n (conds_same n)
end Go.Proofs.Ytffemfglngikbaa
namespace Go.Proofs.Ytffemfglngikbaa
open Go.RowKit Go.Shelf
attribute [local go_sem] Oper.semAt_some
def restN (c : CondT) : Nat → List ByteArray
 | 0 => varsT c.attr ++ varsT c.value
 | 1 => varsT c.value
 | _ => []
def NamesPost (xs : List ByteArray) (J Jx : (Nat → Prop) → List ByteArray → World → Prop) (D E : Nat → Prop) (W X : World) (pre : List ByteArray) (e : Ending) (X' : World) : Prop :=
 (e = .returned (.bool true) ∧ (∃ E', (∀ k, E k → E' k) ∧ ItSt J D E' W pre X') ∧ Fr (fun k => ¬ (D k ∨ E k)) X X') ∨ (e = .returned (.bool false) ∧ ToldO xs J Jx X')
def NamesSpec (n lo : Nat) (xs : List ByteArray) (J Jx : (Nat → Prop) → List ByteArray → World → Prop) (D : Nat → Prop) (W : World) : Prop :=
 ∀ (c : CondT) (A1 : Option Addr) (a1 : Nat) (A2 : Option Addr) (a2 : Nat) (A3 : Option Addr) (a3 : Nat) (E : Nat → Prop) (pre post : List ByteArray) (X : World), xs = pre ++ (namesN (n + 1) c ++ post) → RowR repTestT D X A1 a1 c.attr → RowR repTestT D X A2 a2 c.value → RowR (repCondT n) D X A3 a3 c.conds → ItSt J D E W pre X →
   CallsIn Fence.wide 0 Try.prog 72 #[.agg #[.int .i64 c.kind, .bool c.goal, .string c.id, .slice A1 c.attr.length a1, .slice A2 c.value.length a2, .bool c.acc, .slice A3 c.conds.length a3], .func (.yield lo) #[] #[]] X (NamesPost xs J Jx D E W X (pre ++ namesN (n + 1) c))
set_option maxRecDepth 100000 in
set_option maxHeartbeats 16000000 in
theorem names_step (n lo : Nat) (xs : List ByteArray) (J Jx : (Nat → Prop) → List ByteArray → World → Prop) (D : Nat → Prop) (W : World) (hJ : Steady W.heap.size J) (hY : RoundsO Try.prog lo encStr xs J Jx)
 (ih : ∀ m, n = m + 1 → NamesSpec m lo xs J Jx D W) : NamesSpec n lo xs J Jx D W := by
 intro c A1 a1 A2 a2 A3 a3 E pre post X hx h1 h2 h3 hit
 have HJ := Lib.hid hJ
 have HY := Lib.hid hY
 have IH := Lib.hid ih
 have H1 := Lib.hid h1
 have H2 := Lib.hid h2
 have H3 := Lib.hid h3
 have hac := h3.cap
 have HX := Lib.hid hx
 have HXX := Lib.hid hx
 have HI := Lib.hid hit
 obtain ⟨rc, hrc⟩ : ∃ rc, rc = c.conds.flatMap (namesN n) ++ post := ⟨_, rfl⟩
 have HRC := Lib.hid hrc
 have hbX : Below X.heap.size X (X.alloc (.cells #[.int .i64 c.kind, .bool c.goal, .string c.id, .slice A1 c.attr.length a1, .slice A2 c.value.length a2, .bool c.acc, .slice A3 c.conds.length a3] 50)) := (Below.refl _ _).alloc (Nat.le_refl _) _
 have HIX := Lib.hid (HI.out.new_ HJ.out hbX)
 have KCX := Lib.hid (show Blk (X.alloc (.cells #[.int .i64 c.kind, .bool c.goal, .string c.id, .slice A1 c.attr.length a1, .slice A2 c.value.length a2, .bool c.acc, .slice A3 c.conds.length a3] 50)) X.heap.size 50 #[.int .i64 c.kind, .bool c.goal, .string c.id, .slice A1 c.attr.length a1, .slice A2 c.value.length a2, .bool c.acc, .slice A3 c.conds.length a3] from Blk.new _ _ _)
 have HFX := Lib.hid (show Fr (fun k => ¬ (D k ∨ E k)) X (X.alloc (.cells #[.int .i64 c.kind, .bool c.goal, .string c.id, .slice A1 c.attr.length a1, .slice A2 c.value.length a2, .bool c.acc, .slice A3 c.conds.length a3] 50)) from Fr.of_new hbX)
 clear hJ hY ih h1 h2 h3 hx hit hrc hbX
 refine callsIn_of_wp Try.func72 rfl trivial ?_
 simp only [Try.ntmps72, List.size_toArray, List.length_cons, List.length_nil, Nat.reduceAdd, Nat.reduceSub, Array.replicate_succ, Array.replicate_zero, List.push_toArray, List.append_toArray, List.nil_append, List.cons_append]
 by_cases hid : c.id.toList = []
 · have ia : (c.id.toList == []) = true := by simp [hid]
   have ib : c.id.toList.isEmpty = true := by simp [hid]
   have ic : decide (c.id.toList = []) = true := by simp [hid]
   have HX0 := Lib.hid (show xs = pre ++ (restN c 0 ++ rc) by rw [HX.out, namesN, oneN_no hid, HRC.out]; simp [restN])
   have HI0 := HIX
   have HC0 := Lib.hid (show Plus E X (X.alloc (.cells #[.int .i64 c.kind, .bool c.goal, .string c.id, .slice A1 c.attr.length a1, .slice A2 c.value.length a2, .bool c.acc, .slice A3 c.conds.length a3] 50)) X.heap.size from .inr ⟨Nat.le_refl _, by simp⟩)
   have KC0 := KCX
   have HE0 := Lib.hid (show ∀ k, E k → Plus E X (X.alloc (.cells #[.int .i64 c.kind, .bool c.goal, .string c.id, .slice A1 c.attr.length a1, .slice A2 c.value.length a2, .bool c.acc, .slice A3 c.conds.length a3] 50)) k from fun k hk => .inl hk)
   have HF0 := HFX
   clear hid HX
   gi_wp2_with fail
   refine ⟨(fun f h => by cases h), ?_⟩
   gi_wp2_with fail
   gi_loopw [26] (fun s wr => ∃ (j : Nat) (E1 : Nat → Prop) (p1 : List ByteArray), s = .int .i64 j ∧ j ≤ 2 ∧ xs = p1 ++ (restN c j ++ rc) ∧ ItSt J D E1 W p1 wr ∧ E1 X.heap.size ∧ Blk wr X.heap.size 50 #[.int .i64 c.kind, .bool c.goal, .string c.id, .slice A1 c.attr.length a1, .slice A2 c.value.length a2, .bool c.acc, .slice A3 c.conds.length a3] ∧ (∀ k, E k → E1 k) ∧ Fr (fun k => ¬ (D k ∨ E k)) X wr) (fun s wr => 2 - (intOf s).toNat)
   case atStart => exact ⟨0, _, _, rfl, by omega, HX0.out, HI0.out, HC0.out, KC0.out, HE0.out, HF0.out⟩
   case round =>
    obtain ⟨j, E1, p1, rfl, hj, hx1, hit1, hc1, hk1, he1, hf1⟩ := hrel
    have HX1 := Lib.hid hx1
    have HI1 := Lib.hid hit1
    have HC1 := Lib.hid hc1
    have KC1 := Lib.hid hk1
    have HE1 := Lib.hid he1
    have HF1 := Lib.hid hf1
    clear hx1 hit1 hc1 hk1 he1 hf1
    by_cases hlt : j < 2
    · obtain ⟨lj, Al, al, hix, hlj, hrj⟩ : ∃ (lj : List TestT) (Al : Option Addr) (al : Nat), (∀ V, (Instr.index 127 (.agg #[.slice A1 c.attr.length a1, .slice A2 c.value.length a2]) (.int .i64 (j : Int))).run Try.prog V = .ok (.slice Al lj.length al) V) ∧ RowR repTestT D X Al al lj ∧ restN c j = varsT lj ++ restN c (j + 1) := by
       match j, hlt with
       | 0, _ => exact ⟨c.attr, A1, a1, fun V => by rfl, H1.out, rfl⟩
       | 1, _ => exact ⟨c.value, A2, a2, fun V => by rfl, H2.out, by simp [restN]⟩
      have HLJ := Lib.hid hlj
      have hljc := hlj.cap
      have jj1 : (0 : Int) ≤ (j : Int) := by omega
      have jj2 : (j : Int) < 2 := by omega
      obtain ⟨rj, hrjd⟩ : ∃ rj, rj = restN c (j + 1) ++ rc := ⟨_, rfl⟩
      have HX2 := Lib.hid (show xs = p1 ++ (varsT (lj.drop 0) ++ rj) by rw [HX1.out, hrj, hrjd, List.drop_zero]; simp)
      have HRJ := Lib.hid hrjd
      clear hlj hrj hrjd HX1
      gi_wp2_with fail
      gi_loopw [31] (fun s wr => ∃ (i : Nat) (E1 : Nat → Prop) (p1 : List ByteArray), s = .int .i64 i ∧ i ≤ lj.length ∧ xs = p1 ++ (varsT (lj.drop i) ++ rj) ∧ ItSt J D E1 W p1 wr ∧ E1 X.heap.size ∧ Blk wr X.heap.size 50 #[.int .i64 c.kind, .bool c.goal, .string c.id, .slice A1 c.attr.length a1, .slice A2 c.value.length a2, .bool c.acc, .slice A3 c.conds.length a3] ∧ (∀ k, E k → E1 k) ∧ Fr (fun k => ¬ (D k ∨ E k)) X wr) (fun s wr => lj.length - (intOf s).toNat)
      case atStart => exact ⟨0, _, _, rfl, Nat.zero_le _, HX2.out, HI1.out, HC1.out, KC1.out, HE1.out, HF1.out⟩
      case round =>
       clear HX2 HI1 HC1 KC1 HE1 HF1
       obtain ⟨i, E1, p1, rfl, hi, hx1, hit1, hc1, hk1, he1, hf1⟩ := hrel
       have HX1 := Lib.hid hx1
       have HI1 := Lib.hid hit1
       have HC1 := Lib.hid hc1
       have KC1 := Lib.hid hk1
       have HE1 := Lib.hid he1
       have HF1 := Lib.hid hf1
       clear hx1 hit1 hc1 hk1 he1 hf1
       by_cases hlt2 : i < lj.length
       · skip
         obtain ⟨y, hy0⟩ : ∃ y, y = lj[i] := ⟨_, rfl⟩
         have htr := HLJ.out.fr HF1.out (fun k hk hn => hn (.inl hk))
         obtain ⟨gt, ot, At, at_, hA, _, hgt, q0, q1, q2, q3, q4, q5, _⟩ := at_TestT htr hlt2
         subst hA
         rw [← hy0] at q0 q1 q2 q3 q4 q5
         have HVD := Lib.hid (show varsT (lj.drop i) = oneN y.var ++ varsT (lj.drop (i + 1)) by rw [hy0]; exact varsT_drop hlt2)
         have j1 : (0 : Int) ≤ (i : Int) := by omega
         have j2 : (i : Int) < (lj.length : Int) := by omega
         clear hy0 htr
         have hbY : Below wr.heap.size wr (wr.alloc (.cells #[.int .i64 y.rel, .string y.var, .int .i64 y.sym.kind, .string y.sym.text, .int .i64 y.sym.n, .slice At y.list.length at_] 65)) := (Below.refl _ _).alloc (Nat.le_refl _) _
         have HIY := Lib.hid (HI1.out.new_ HJ.out hbY)
         have HBY := Lib.hid hbY
         have KCY := Lib.hid (KC1.out.new_ hbY)
         have HFY := Lib.hid (HF1.out.trans (Fr.of_new hbY))
         clear hbY
         by_cases hve : y.var.toList = []
         · have va : (y.var.toList == []) = true := by simp [hve]
           have vb : y.var.toList.isEmpty = true := by simp [hve]
           have vc : decide (y.var.toList = []) = true := by simp [hve]
           have HXN := Lib.hid (show xs = p1 ++ (varsT (lj.drop (i + 1)) ++ rj) by rw [HX1.out, HVD.out, oneN_no hve, List.nil_append])
           have HIN := HIY
           have HCN := Lib.hid (show Plus E1 wr (wr.alloc (.cells #[.int .i64 y.rel, .string y.var, .int .i64 y.sym.kind, .string y.sym.text, .int .i64 y.sym.n, .slice At y.list.length at_] 65)) X.heap.size from .inl HC1.out)
           have KCN := KCY
           have HEN := Lib.hid (show ∀ k, E k → Plus E1 wr (wr.alloc (.cells #[.int .i64 y.rel, .string y.var, .int .i64 y.sym.kind, .string y.sym.text, .int .i64 y.sym.n, .slice At y.list.length at_] 65)) k from fun k hk => .inl (HE1.out k hk))
           have HFN := HFY
           clear hve
           gi_wp2_with fail
           refine ⟨(fun f h => by cases h), ?_⟩
           gi_wp2_with fail
           go_roundw
           case rel => exact ⟨i + 1, _, _, by go_num, by omega, HXN.out, HIN.out, HCN.out, KCN.out, HEN.out, HFN.out⟩
           case measure => simp [intOf] <;> omega
         · have va : (y.var.toList == []) = false := by simp [hve]
           have vb : y.var.toList.isEmpty = false := by simp [hve]
           have vc : decide (y.var.toList = []) = false := by simp [hve]
           have HXV := Lib.hid (show xs = p1 ++ y.var :: (varsT (lj.drop (i + 1)) ++ rj) by rw [HX1.out, HVD.out, oneN_yes hve]; simp)
           clear hve
           obtain ⟨fy, ty, ay, by_, hy, hR⟩ := (HIY.out).round HY.out (HXV.out)
           dsimp only [encStr] at hy
           have HRR := Lib.hid hR
           clear hR
           gi_wp2_with fail
           refine ⟨rfl, HRR.out.mono ?_⟩
           rintro e W3 (⟨rfl, hi3, hk3⟩ | ⟨rfl, hT, -⟩)
           · have HI3 := Lib.hid hi3
             have HK3 := Lib.hid hk3
             clear hi3 hk3 hy
             have HXN := Lib.hid (show xs = (p1 ++ [y.var]) ++ (varsT (lj.drop (i + 1)) ++ rj) by rw [HXV.out]; simp)
             have HIN := HI3
             have HCN := Lib.hid (show Plus E1 wr (wr.alloc (.cells #[.int .i64 y.rel, .string y.var, .int .i64 y.sym.kind, .string y.sym.text, .int .i64 y.sym.n, .slice At y.list.length at_] 65)) X.heap.size from .inl HC1.out)
             have KCN := Lib.hid (KCY.out.fr HK3.out (fun hn => hn (.inr (.inl HC1.out))))
             have HEN := Lib.hid (show ∀ k, E k → Plus E1 wr (wr.alloc (.cells #[.int .i64 y.rel, .string y.var, .int .i64 y.sym.kind, .string y.sym.text, .int .i64 y.sym.n, .slice At y.list.length at_] 65)) k from fun k hk => .inl (HE1.out k hk))
             have HFN := Lib.hid (HFY.out.trans (HK3.out.mono (fun k _ hk hd => hk (hd.imp id (HEN.out k)))))
             gi_wp2_with fail
             go_roundw
             case rel => exact ⟨i + 1, _, _, by go_num, by omega, HXN.out, HIN.out, HCN.out, KCN.out, HEN.out, HFN.out⟩
             case measure => simp [intOf] <;> omega
           · have HT := Lib.hid hT
             clear hT hy
             gi_wp2_with fail
             go_ret
             exact .inr ⟨rfl, HT.out⟩
       · obtain rfl : i = lj.length := by omega
         have HX3 := Lib.hid (show xs = p1 ++ (restN c (j + 1) ++ rc) by rw [HX1.out, List.drop_length, HRJ.out]; simp [varsT])
         gi_wp2_with fail
         go_roundw
         case rel => exact ⟨j + 1, _, _, by go_num, by omega, HX3.out, HI1.out, HC1.out, KC1.out, HE1.out, HF1.out⟩
         case measure => simp [intOf] <;> omega
    · have HJ2 := Lib.hid (show j = 2 by omega)
      have HX2 := Lib.hid (show xs = p1 ++ ((c.conds.drop 0).flatMap (namesN n) ++ post) by rw [HX1.out, HRC.out, HJ2.out, List.drop_zero]; rfl)
      have jn : decide ((j : Int) < 2) = false := by simp; omega
      have k6 := (KC1.out.cell 6).trans rfl
      have kz := KC1.out.lt
      clear HX1
      gi_wp2_with fail
      clear k6 kz
      gi_loopw [50] (fun s wr => ∃ (i : Nat) (E1 : Nat → Prop) (p1 : List ByteArray), s = .int .i64 i ∧ i ≤ c.conds.length ∧ xs = p1 ++ ((c.conds.drop i).flatMap (namesN n) ++ post) ∧ ItSt J D E1 W p1 wr ∧ E1 X.heap.size ∧ Blk wr X.heap.size 50 #[.int .i64 c.kind, .bool c.goal, .string c.id, .slice A1 c.attr.length a1, .slice A2 c.value.length a2, .bool c.acc, .slice A3 c.conds.length a3] ∧ (∀ k, E k → E1 k) ∧ Fr (fun k => ¬ (D k ∨ E k)) X wr) (fun s wr => c.conds.length - (intOf s).toNat)
      case atStart => exact ⟨0, _, _, rfl, Nat.zero_le _, HX2.out, HI1.out, HC1.out, KC1.out, HE1.out, HF1.out⟩
      case round =>
       clear HX2 HI1 HC1 KC1 HE1 HF1
       obtain ⟨i, E1, p1, rfl, hi, hx1, hit1, hc1, hk1, he1, hf1⟩ := hrel
       have HX1 := Lib.hid hx1
       have HI1 := Lib.hid hit1
       have HC1 := Lib.hid hc1
       have KC1 := Lib.hid hk1
       have HE1 := Lib.hid he1
       have HF1 := Lib.hid hf1
       clear hx1 hit1 hc1 hk1 he1 hf1
       by_cases hlt2 : i < c.conds.length
       · obtain ⟨m, hnm⟩ : ∃ m, n = m + 1 := by
          cases n with
          | zero => have := row_zero H3.out; rw [this] at hlt2; simp at hlt2
          | succ m => exact ⟨m, rfl⟩
         subst hnm
         obtain ⟨y, hy0⟩ : ∃ y, y = c.conds[i] := ⟨_, rfl⟩
         have hcr := H3.out.fr HF1.out (fun k hk hn => hn (.inl hk))
         obtain ⟨gt, ot, B1, b1_, B2, b2_, B3, b3_, hA, _, hgt, q0, q1, q2, q3, q4, q5, q6, -, -, -⟩ := at_CondT hcr hlt2
         have HDC := Lib.hid (show (c.conds.drop i).flatMap (namesN (m + 1)) = namesN (m + 1) y ++ (c.conds.drop (i + 1)).flatMap (namesN (m + 1)) by rw [hy0, List.drop_eq_getElem_cons hlt2, List.flatMap_cons])
         subst hA
         rw [← hy0] at q0 q1 q2 q3 q4 q5 q6
         obtain ⟨_, _, _, _, _, _, _, _, hA9, _, _, _, _, _, q3', q4', _, q6', r1, r2, r3⟩ := at_CondT hcr hlt2
         injection hA9 with hA9
         injection hA9 with e1 e2
         subst e1
         subst e2
         rw [← hy0] at q3' q4' q6' r1 r2 r3
         rw [q3] at q3'
         rw [q4] at q4'
         rw [q6] at q6'
         injection q3' with q3'; injection q3' with s1 s2 s3; subst s1; subst s3
         injection q4' with q4'; injection q4' with s4 s5 s6; subst s4; subst s6
         injection q6' with q6'; injection q6' with s7 s8 s9; subst s7; subst s9
         have j1 : (0 : Int) ≤ (i : Int) := by omega
         have j2 : (i : Int) < (c.conds.length : Int) := by omega
         have hbY : Below wr.heap.size wr (wr.alloc (.cells #[.int .i64 y.kind, .bool y.goal, .string y.id, .slice B1 y.attr.length b1_, .slice B2 y.value.length b2_, .bool y.acc, .slice B3 y.conds.length b3_] 50)) := (Below.refl _ _).alloc (Nat.le_refl _) _
         have HXY := Lib.hid (show xs = p1 ++ (namesN (m + 1) y ++ ((c.conds.drop (i + 1)).flatMap (namesN (m + 1)) ++ post)) by rw [HX1.out, HDC.out, List.append_assoc])
         have HIH := Lib.hid (IH.out m rfl y B1 b1_ B2 b2_ B3 b3_ (Plus E1 wr (wr.alloc (.cells #[.int .i64 y.kind, .bool y.goal, .string y.id, .slice B1 y.attr.length b1_, .slice B2 y.value.length b2_, .bool y.acc, .slice B3 y.conds.length b3_] 50))) p1 _ (wr.alloc (.cells #[.int .i64 y.kind, .bool y.goal, .string y.id, .slice B1 y.attr.length b1_, .slice B2 y.value.length b2_, .bool y.acc, .slice B3 y.conds.length b3_] 50)) HXY.out (r1.new_ hbY) (r2.new_ hbY) (r3.new_ hbY) (HI1.out.new_ HJ.out hbY))
         have KCY := Lib.hid (KC1.out.new_ hbY)
         have HFY := Lib.hid (HF1.out.trans (Fr.of_new hbY))
         clear hy0 hcr r1 r2 r3 hbY s2 s5 s8
         gi_wp2_with fail
         refine ⟨trivial, rfl, ?_⟩
         refine HIH.out.mono ?_
         rintro e w5 (⟨rfl, ⟨E5, he5, hi5⟩, hf5⟩ | ⟨rfl, hT⟩)
         · have HXN := Lib.hid (show xs = (p1 ++ namesN (m + 1) y) ++ ((c.conds.drop (i + 1)).flatMap (namesN (m + 1)) ++ post) by rw [HXY.out]; simp)
           have HI5 := Lib.hid hi5
           have HC5 := Lib.hid (he5 _ (.inl HC1.out))
           have KC5 := Lib.hid (KCY.out.fr hf5 (fun hn => hn (.inr (.inl HC1.out))))
           have HE5 := Lib.hid (show ∀ k, E k → E5 k from fun k hk => he5 k (.inl (HE1.out k hk)))
           have HF5 := Lib.hid (HFY.out.trans (hf5.mono (fun k _ hk hd => hk (hd.imp id (fun h => .inl (HE1.out k h))))))
           clear he5 hi5 hf5 q0 q1 q2 q3 q4 q5 q6
           gi_wp2_with fail
           go_roundw
           case rel => exact ⟨i + 1, _, _, by go_num, by omega, HXN.out, HI5.out, HC5.out, KC5.out, HE5.out, HF5.out⟩
           case measure => simp [intOf] <;> omega
         · have HT := Lib.hid hT
           clear hT q0 q1 q2 q3 q4 q5 q6
           gi_wp2_with fail
           go_ret
           exact .inr ⟨rfl, HT.out⟩
       · obtain rfl : i = c.conds.length := by omega
         have HXE := Lib.hid (show p1 = pre ++ namesN (n + 1) c by
          have h := HX1.out
          rw [List.drop_length, List.flatMap_nil, List.nil_append, HXX.out, ← List.append_assoc] at h
          exact (List.append_cancel_right h).symm)
         gi_wp2_with fail
         go_ret
         exact .inl ⟨rfl, ⟨E1, HE1.out, by have := HI1.out; rw [HXE.out] at this; exact this⟩, HF1.out⟩
 · have ia : (c.id.toList == []) = false := by simp [hid]
   have ib : c.id.toList.isEmpty = false := by simp [hid]
   have ic : decide (c.id.toList = []) = false := by simp [hid]
   have HXV := Lib.hid (show xs = pre ++ c.id :: (restN c 0 ++ rc) by rw [HX.out, namesN, oneN_yes hid, HRC.out]; simp [restN])
   clear hid HX
   obtain ⟨fy, ty, ay, by_, hy, hR⟩ := (HIX.out).round HY.out (HXV.out)
   dsimp only [encStr] at hy
   have HRR := Lib.hid hR
   clear hR
   gi_wp2_with fail
   refine ⟨rfl, HRR.out.mono ?_⟩
   rintro e W3 (⟨rfl, hi3, hk3⟩ | ⟨rfl, hT, -⟩)
   · have HI3 := Lib.hid hi3
     have HK3 := Lib.hid hk3
     clear hi3 hk3 hy
     have HX0 := Lib.hid (show xs = (pre ++ [c.id]) ++ (restN c 0 ++ rc) by rw [HXV.out]; simp)
     have HI0 := HI3
     have HC0 := Lib.hid (show Plus E X (X.alloc (.cells #[.int .i64 c.kind, .bool c.goal, .string c.id, .slice A1 c.attr.length a1, .slice A2 c.value.length a2, .bool c.acc, .slice A3 c.conds.length a3] 50)) X.heap.size from .inr ⟨Nat.le_refl _, by simp⟩)
     have KC0 := Lib.hid (KCX.out.fr HK3.out (fun hn => hn (.inr HC0.out)))
     have HE0 := Lib.hid (show ∀ k, E k → Plus E X (X.alloc (.cells #[.int .i64 c.kind, .bool c.goal, .string c.id, .slice A1 c.attr.length a1, .slice A2 c.value.length a2, .bool c.acc, .slice A3 c.conds.length a3] 50)) k from fun k hk => .inl hk)
     have HF0 := Lib.hid (HFX.out.trans (HK3.out.mono (fun k _ hk hd => hk (hd.imp id (HE0.out k)))))
     have x3 := (KC0.out.cell 3).trans rfl
     have x4 := (KC0.out.cell 4).trans rfl
     have xz := KC0.out.lt
     gi_wp2_with fail
     clear x3 x4 xz
     gi_loopw [26] (fun s wr => ∃ (j : Nat) (E1 : Nat → Prop) (p1 : List ByteArray), s = .int .i64 j ∧ j ≤ 2 ∧ xs = p1 ++ (restN c j ++ rc) ∧ ItSt J D E1 W p1 wr ∧ E1 X.heap.size ∧ Blk wr X.heap.size 50 #[.int .i64 c.kind, .bool c.goal, .string c.id, .slice A1 c.attr.length a1, .slice A2 c.value.length a2, .bool c.acc, .slice A3 c.conds.length a3] ∧ (∀ k, E k → E1 k) ∧ Fr (fun k => ¬ (D k ∨ E k)) X wr) (fun s wr => 2 - (intOf s).toNat)
     case atStart => exact ⟨0, _, _, rfl, by omega, HX0.out, HI0.out, HC0.out, KC0.out, HE0.out, HF0.out⟩
     case round =>
      obtain ⟨j, E1, p1, rfl, hj, hx1, hit1, hc1, hk1, he1, hf1⟩ := hrel
      have HX1 := Lib.hid hx1
      have HI1 := Lib.hid hit1
      have HC1 := Lib.hid hc1
      have KC1 := Lib.hid hk1
      have HE1 := Lib.hid he1
      have HF1 := Lib.hid hf1
      clear hx1 hit1 hc1 hk1 he1 hf1
      by_cases hlt : j < 2
      · obtain ⟨lj, Al, al, hix, hlj, hrj⟩ : ∃ (lj : List TestT) (Al : Option Addr) (al : Nat), (∀ V, (Instr.index 127 (.agg #[.slice A1 c.attr.length a1, .slice A2 c.value.length a2]) (.int .i64 (j : Int))).run Try.prog V = .ok (.slice Al lj.length al) V) ∧ RowR repTestT D X Al al lj ∧ restN c j = varsT lj ++ restN c (j + 1) := by
         match j, hlt with
         | 0, _ => exact ⟨c.attr, A1, a1, fun V => by rfl, H1.out, rfl⟩
         | 1, _ => exact ⟨c.value, A2, a2, fun V => by rfl, H2.out, by simp [restN]⟩
        have HLJ := Lib.hid hlj
        have hljc := hlj.cap
        have jj1 : (0 : Int) ≤ (j : Int) := by omega
        have jj2 : (j : Int) < 2 := by omega
        obtain ⟨rj, hrjd⟩ : ∃ rj, rj = restN c (j + 1) ++ rc := ⟨_, rfl⟩
        have HX2 := Lib.hid (show xs = p1 ++ (varsT (lj.drop 0) ++ rj) by rw [HX1.out, hrj, hrjd, List.drop_zero]; simp)
        have HRJ := Lib.hid hrjd
        clear hlj hrj hrjd HX1
        gi_wp2_with fail
        gi_loopw [31] (fun s wr => ∃ (i : Nat) (E1 : Nat → Prop) (p1 : List ByteArray), s = .int .i64 i ∧ i ≤ lj.length ∧ xs = p1 ++ (varsT (lj.drop i) ++ rj) ∧ ItSt J D E1 W p1 wr ∧ E1 X.heap.size ∧ Blk wr X.heap.size 50 #[.int .i64 c.kind, .bool c.goal, .string c.id, .slice A1 c.attr.length a1, .slice A2 c.value.length a2, .bool c.acc, .slice A3 c.conds.length a3] ∧ (∀ k, E k → E1 k) ∧ Fr (fun k => ¬ (D k ∨ E k)) X wr) (fun s wr => lj.length - (intOf s).toNat)
        case atStart => exact ⟨0, _, _, rfl, Nat.zero_le _, HX2.out, HI1.out, HC1.out, KC1.out, HE1.out, HF1.out⟩
        case round =>
         clear HX2 HI1 HC1 KC1 HE1 HF1
         obtain ⟨i, E1, p1, rfl, hi, hx1, hit1, hc1, hk1, he1, hf1⟩ := hrel
         have HX1 := Lib.hid hx1
         have HI1 := Lib.hid hit1
         have HC1 := Lib.hid hc1
         have KC1 := Lib.hid hk1
         have HE1 := Lib.hid he1
         have HF1 := Lib.hid hf1
         clear hx1 hit1 hc1 hk1 he1 hf1
         by_cases hlt2 : i < lj.length
         · skip
           obtain ⟨y, hy0⟩ : ∃ y, y = lj[i] := ⟨_, rfl⟩
           have htr := HLJ.out.fr HF1.out (fun k hk hn => hn (.inl hk))
           obtain ⟨gt, ot, At, at_, hA, _, hgt, q0, q1, q2, q3, q4, q5, _⟩ := at_TestT htr hlt2
           subst hA
           rw [← hy0] at q0 q1 q2 q3 q4 q5
           have HVD := Lib.hid (show varsT (lj.drop i) = oneN y.var ++ varsT (lj.drop (i + 1)) by rw [hy0]; exact varsT_drop hlt2)
           have j1 : (0 : Int) ≤ (i : Int) := by omega
           have j2 : (i : Int) < (lj.length : Int) := by omega
           clear hy0 htr
           have hbY : Below wr.heap.size wr (wr.alloc (.cells #[.int .i64 y.rel, .string y.var, .int .i64 y.sym.kind, .string y.sym.text, .int .i64 y.sym.n, .slice At y.list.length at_] 65)) := (Below.refl _ _).alloc (Nat.le_refl _) _
           have HIY := Lib.hid (HI1.out.new_ HJ.out hbY)
           have HBY := Lib.hid hbY
           have KCY := Lib.hid (KC1.out.new_ hbY)
           have HFY := Lib.hid (HF1.out.trans (Fr.of_new hbY))
           clear hbY
           by_cases hve : y.var.toList = []
           · have va : (y.var.toList == []) = true := by simp [hve]
             have vb : y.var.toList.isEmpty = true := by simp [hve]
             have vc : decide (y.var.toList = []) = true := by simp [hve]
             have HXN := Lib.hid (show xs = p1 ++ (varsT (lj.drop (i + 1)) ++ rj) by rw [HX1.out, HVD.out, oneN_no hve, List.nil_append])
             have HIN := HIY
             have HCN := Lib.hid (show Plus E1 wr (wr.alloc (.cells #[.int .i64 y.rel, .string y.var, .int .i64 y.sym.kind, .string y.sym.text, .int .i64 y.sym.n, .slice At y.list.length at_] 65)) X.heap.size from .inl HC1.out)
             have KCN := KCY
             have HEN := Lib.hid (show ∀ k, E k → Plus E1 wr (wr.alloc (.cells #[.int .i64 y.rel, .string y.var, .int .i64 y.sym.kind, .string y.sym.text, .int .i64 y.sym.n, .slice At y.list.length at_] 65)) k from fun k hk => .inl (HE1.out k hk))
             have HFN := HFY
             clear hve
             gi_wp2_with fail
             refine ⟨(fun f h => by cases h), ?_⟩
             gi_wp2_with fail
             go_roundw
             case rel => exact ⟨i + 1, _, _, by go_num, by omega, HXN.out, HIN.out, HCN.out, KCN.out, HEN.out, HFN.out⟩
             case measure => simp [intOf] <;> omega
           · have va : (y.var.toList == []) = false := by simp [hve]
             have vb : y.var.toList.isEmpty = false := by simp [hve]
             have vc : decide (y.var.toList = []) = false := by simp [hve]
             have HXV := Lib.hid (show xs = p1 ++ y.var :: (varsT (lj.drop (i + 1)) ++ rj) by rw [HX1.out, HVD.out, oneN_yes hve]; simp)
             clear hve
             obtain ⟨fy, ty, ay, by_, hy, hR⟩ := (HIY.out).round HY.out (HXV.out)
             dsimp only [encStr] at hy
             have HRR := Lib.hid hR
             clear hR
             gi_wp2_with fail
             refine ⟨rfl, HRR.out.mono ?_⟩
             rintro e W3 (⟨rfl, hi3, hk3⟩ | ⟨rfl, hT, -⟩)
             · have HI3 := Lib.hid hi3
               have HK3 := Lib.hid hk3
               clear hi3 hk3 hy
               have HXN := Lib.hid (show xs = (p1 ++ [y.var]) ++ (varsT (lj.drop (i + 1)) ++ rj) by rw [HXV.out]; simp)
               have HIN := HI3
               have HCN := Lib.hid (show Plus E1 wr (wr.alloc (.cells #[.int .i64 y.rel, .string y.var, .int .i64 y.sym.kind, .string y.sym.text, .int .i64 y.sym.n, .slice At y.list.length at_] 65)) X.heap.size from .inl HC1.out)
               have KCN := Lib.hid (KCY.out.fr HK3.out (fun hn => hn (.inr (.inl HC1.out))))
               have HEN := Lib.hid (show ∀ k, E k → Plus E1 wr (wr.alloc (.cells #[.int .i64 y.rel, .string y.var, .int .i64 y.sym.kind, .string y.sym.text, .int .i64 y.sym.n, .slice At y.list.length at_] 65)) k from fun k hk => .inl (HE1.out k hk))
               have HFN := Lib.hid (HFY.out.trans (HK3.out.mono (fun k _ hk hd => hk (hd.imp id (HEN.out k)))))
               gi_wp2_with fail
               go_roundw
               case rel => exact ⟨i + 1, _, _, by go_num, by omega, HXN.out, HIN.out, HCN.out, KCN.out, HEN.out, HFN.out⟩
               case measure => simp [intOf] <;> omega
             · have HT := Lib.hid hT
               clear hT hy
               gi_wp2_with fail
               go_ret
               exact .inr ⟨rfl, HT.out⟩
         · obtain rfl : i = lj.length := by omega
           have HX3 := Lib.hid (show xs = p1 ++ (restN c (j + 1) ++ rc) by rw [HX1.out, List.drop_length, HRJ.out]; simp [varsT])
           gi_wp2_with fail
           go_roundw
           case rel => exact ⟨j + 1, _, _, by go_num, by omega, HX3.out, HI1.out, HC1.out, KC1.out, HE1.out, HF1.out⟩
           case measure => simp [intOf] <;> omega
      · have HJ2 := Lib.hid (show j = 2 by omega)
        have HX2 := Lib.hid (show xs = p1 ++ ((c.conds.drop 0).flatMap (namesN n) ++ post) by rw [HX1.out, HRC.out, HJ2.out, List.drop_zero]; rfl)
        have jn : decide ((j : Int) < 2) = false := by simp; omega
        have k6 := (KC1.out.cell 6).trans rfl
        have kz := KC1.out.lt
        clear HX1
        gi_wp2_with fail
        clear k6 kz
        gi_loopw [50] (fun s wr => ∃ (i : Nat) (E1 : Nat → Prop) (p1 : List ByteArray), s = .int .i64 i ∧ i ≤ c.conds.length ∧ xs = p1 ++ ((c.conds.drop i).flatMap (namesN n) ++ post) ∧ ItSt J D E1 W p1 wr ∧ E1 X.heap.size ∧ Blk wr X.heap.size 50 #[.int .i64 c.kind, .bool c.goal, .string c.id, .slice A1 c.attr.length a1, .slice A2 c.value.length a2, .bool c.acc, .slice A3 c.conds.length a3] ∧ (∀ k, E k → E1 k) ∧ Fr (fun k => ¬ (D k ∨ E k)) X wr) (fun s wr => c.conds.length - (intOf s).toNat)
        case atStart => exact ⟨0, _, _, rfl, Nat.zero_le _, HX2.out, HI1.out, HC1.out, KC1.out, HE1.out, HF1.out⟩
        case round =>
         clear HX2 HI1 HC1 KC1 HE1 HF1
         obtain ⟨i, E1, p1, rfl, hi, hx1, hit1, hc1, hk1, he1, hf1⟩ := hrel
         have HX1 := Lib.hid hx1
         have HI1 := Lib.hid hit1
         have HC1 := Lib.hid hc1
         have KC1 := Lib.hid hk1
         have HE1 := Lib.hid he1
         have HF1 := Lib.hid hf1
         clear hx1 hit1 hc1 hk1 he1 hf1
         by_cases hlt2 : i < c.conds.length
         · obtain ⟨m, hnm⟩ : ∃ m, n = m + 1 := by
            cases n with
            | zero => have := row_zero H3.out; rw [this] at hlt2; simp at hlt2
            | succ m => exact ⟨m, rfl⟩
           subst hnm
           obtain ⟨y, hy0⟩ : ∃ y, y = c.conds[i] := ⟨_, rfl⟩
           have hcr := H3.out.fr HF1.out (fun k hk hn => hn (.inl hk))
           obtain ⟨gt, ot, B1, b1_, B2, b2_, B3, b3_, hA, _, hgt, q0, q1, q2, q3, q4, q5, q6, -, -, -⟩ := at_CondT hcr hlt2
           have HDC := Lib.hid (show (c.conds.drop i).flatMap (namesN (m + 1)) = namesN (m + 1) y ++ (c.conds.drop (i + 1)).flatMap (namesN (m + 1)) by rw [hy0, List.drop_eq_getElem_cons hlt2, List.flatMap_cons])
           subst hA
           rw [← hy0] at q0 q1 q2 q3 q4 q5 q6
           obtain ⟨_, _, _, _, _, _, _, _, hA9, _, _, _, _, _, q3', q4', _, q6', r1, r2, r3⟩ := at_CondT hcr hlt2
           injection hA9 with hA9
           injection hA9 with e1 e2
           subst e1
           subst e2
           rw [← hy0] at q3' q4' q6' r1 r2 r3
           rw [q3] at q3'
           rw [q4] at q4'
           rw [q6] at q6'
           injection q3' with q3'; injection q3' with s1 s2 s3; subst s1; subst s3
           injection q4' with q4'; injection q4' with s4 s5 s6; subst s4; subst s6
           injection q6' with q6'; injection q6' with s7 s8 s9; subst s7; subst s9
           have j1 : (0 : Int) ≤ (i : Int) := by omega
           have j2 : (i : Int) < (c.conds.length : Int) := by omega
           have hbY : Below wr.heap.size wr (wr.alloc (.cells #[.int .i64 y.kind, .bool y.goal, .string y.id, .slice B1 y.attr.length b1_, .slice B2 y.value.length b2_, .bool y.acc, .slice B3 y.conds.length b3_] 50)) := (Below.refl _ _).alloc (Nat.le_refl _) _
           have HXY := Lib.hid (show xs = p1 ++ (namesN (m + 1) y ++ ((c.conds.drop (i + 1)).flatMap (namesN (m + 1)) ++ post)) by rw [HX1.out, HDC.out, List.append_assoc])
           have HIH := Lib.hid (IH.out m rfl y B1 b1_ B2 b2_ B3 b3_ (Plus E1 wr (wr.alloc (.cells #[.int .i64 y.kind, .bool y.goal, .string y.id, .slice B1 y.attr.length b1_, .slice B2 y.value.length b2_, .bool y.acc, .slice B3 y.conds.length b3_] 50))) p1 _ (wr.alloc (.cells #[.int .i64 y.kind, .bool y.goal, .string y.id, .slice B1 y.attr.length b1_, .slice B2 y.value.length b2_, .bool y.acc, .slice B3 y.conds.length b3_] 50)) HXY.out (r1.new_ hbY) (r2.new_ hbY) (r3.new_ hbY) (HI1.out.new_ HJ.out hbY))
           have KCY := Lib.hid (KC1.out.new_ hbY)
           have HFY := Lib.hid (HF1.out.trans (Fr.of_new hbY))
           clear hy0 hcr r1 r2 r3 hbY s2 s5 s8
           gi_wp2_with fail
           refine ⟨trivial, rfl, ?_⟩
           refine HIH.out.mono ?_
           rintro e w5 (⟨rfl, ⟨E5, he5, hi5⟩, hf5⟩ | ⟨rfl, hT⟩)
           · have HXN := Lib.hid (show xs = (p1 ++ namesN (m + 1) y) ++ ((c.conds.drop (i + 1)).flatMap (namesN (m + 1)) ++ post) by rw [HXY.out]; simp)
             have HI5 := Lib.hid hi5
             have HC5 := Lib.hid (he5 _ (.inl HC1.out))
             have KC5 := Lib.hid (KCY.out.fr hf5 (fun hn => hn (.inr (.inl HC1.out))))
             have HE5 := Lib.hid (show ∀ k, E k → E5 k from fun k hk => he5 k (.inl (HE1.out k hk)))
             have HF5 := Lib.hid (HFY.out.trans (hf5.mono (fun k _ hk hd => hk (hd.imp id (fun h => .inl (HE1.out k h))))))
             clear he5 hi5 hf5 q0 q1 q2 q3 q4 q5 q6
             gi_wp2_with fail
             go_roundw
             case rel => exact ⟨i + 1, _, _, by go_num, by omega, HXN.out, HI5.out, HC5.out, KC5.out, HE5.out, HF5.out⟩
             case measure => simp [intOf] <;> omega
           · have HT := Lib.hid hT
             clear hT q0 q1 q2 q3 q4 q5 q6
             gi_wp2_with fail
             go_ret
             exact .inr ⟨rfl, HT.out⟩
         · obtain rfl : i = c.conds.length := by omega
           have HXE := Lib.hid (show p1 = pre ++ namesN (n + 1) c by
            have h := HX1.out
            rw [List.drop_length, List.flatMap_nil, List.nil_append, HXX.out, ← List.append_assoc] at h
            exact (List.append_cancel_right h).symm)
           gi_wp2_with fail
           go_ret
           exact .inl ⟨rfl, ⟨E1, HE1.out, by have := HI1.out; rw [HXE.out] at this; exact this⟩, HF1.out⟩
   · have HT := Lib.hid hT
     clear hT hy
     gi_wp2_with fail
     go_ret
     exact .inr ⟨rfl, HT.out⟩
end Go.Proofs.Ytffemfglngikbaa
namespace Go.Proofs.Ytffemfglngikbaa
open Go.RowKit Go.Shelf
attribute [local go_sem] Oper.semAt_some
theorem names_is (n lo : Nat) (xs : List ByteArray) (J Jx : (Nat → Prop) → List ByteArray → World → Prop) (D : Nat → Prop) (W : World) (hJ : Steady W.heap.size J) (hY : RoundsO Try.prog lo encStr xs J Jx) : NamesSpec n lo xs J Jx D W := by
 induction n with
 | zero => exact names_step 0 lo xs J Jx D W hJ hY (fun m h => by omega)
 | succ n ih => exact names_step (n + 1) lo xs J Jx D W hJ hY (fun m h => by obtain rfl : n = m := by omega
                                                                             exact ih)
set_option maxRecDepth 100000 in
set_option maxHeartbeats 4000000 in
theorem namesI_is {D : Nat → Prop} (n : Nat) (c : CondT) (kb : Nat) (A1 A2 A3 : Option Addr) (a1 a2 a3 : Nat) (W : World) (hkb : Blk W kb 50 #[.int .i64 c.kind, .bool c.goal, .string c.id, .slice A1 c.attr.length a1, .slice A2 c.value.length a2, .bool c.acc, .slice A3 c.conds.length a3]) (_ : D kb)
 (h1 : RowR repTestT D W A1 a1 c.attr) (h2 : RowR repTestT D W A2 a2 c.value) (h3 : RowR (repCondT n) D W A3 a3 c.conds) :
 IterO Try.prog 71 #[.pointer (some ⟨kb, 0, none⟩)] encStr (namesN (n + 1) c) W D := by
 intro lo J Jx hJ hJx h0 hY
 have hc := names_is n lo (namesN (n + 1) c) J Jx D W hJ hY c A1 a1 A2 a2 A3 a3 (fun _ => False) [] [] W (by simp) h1 h2 h3 (ItSt.start h0)
 obtain ⟨ns, hns⟩ : ∃ ns, ns = namesN (n + 1) c := ⟨_, rfl⟩
 rw [← hns] at hc ⊢
 have HC := Lib.hid hc
 obtain ⟨q0, q1, q2, q3, q4, q5, q6⟩ := hkb.c7
 have hkl := hkb.lt
 clear hc hns h0 hJ hJx hY h1 h2 h3 hkb
 refine callsIn_of_wp Try.func71 rfl trivial ?_
 simp only [Try.ntmps71, List.size_toArray, List.length_cons, List.length_nil, Nat.reduceAdd, Nat.reduceSub, Array.replicate_succ, Array.replicate_zero, List.push_toArray, List.append_toArray, List.nil_append, List.cons_append]
 gi_wp2_with fail
 refine ⟨trivial, rfl, ?_⟩
 refine HC.out.mono ?_
 rintro e w5 (⟨rfl, ⟨E5, _, hi5⟩, _⟩ | ⟨rfl, hT⟩)
 · have HI5 := Lib.hid hi5
   clear hi5 q0 q1 q2 q3 q4 q5 q6
   gi_wp2_with fail
   go_end0
   refine ⟨⟨_, rfl⟩, ?_⟩
   have := HI5.out
   rw [List.nil_append] at this
   exact this.told
 · have HT := Lib.hid hT
   clear hT q0 q1 q2 q3 q4 q5 q6
   gi_wp2_with fail
   go_end0
   exact ⟨⟨_, rfl⟩, HT.out⟩
set_option maxHeartbeats 400000 in
theorem mknames_is (c : CondT) (A1 A2 A3 : Option Addr) (a1 a2 a3 : Nat) (w : World) :
 Calls Try.prog 56 #[.agg #[.int .i64 c.kind, .bool c.goal, .string c.id, .slice A1 c.attr.length a1, .slice A2 c.value.length a2, .bool c.acc, .slice A3 c.conds.length a3]] w fun e w' => e = .returned (.func (.func 71) #[] #[.pointer (some ⟨w.heap.size, 0, none⟩)]) ∧ Blk w' w.heap.size 50 #[.int .i64 c.kind, .bool c.goal, .string c.id, .slice A1 c.attr.length a1, .slice A2 c.value.length a2, .bool c.acc, .slice A3 c.conds.length a3] ∧ Below w.heap.size w w' := by
 go_enter Try.func56, Try.ntmps56
 go_wp2_with fail
 go_ret
 exact ⟨rfl, Blk.new _ _ _, (Below.refl _ _).alloc (Nat.le_refl _) _⟩
end Go.Proofs.Ytffemfglngikbaa
namespace Go.Proofs.Ytffemfglngikbaa
open Go.RowKit
variable {P : Program} {α : Type}
def StopSt (Jx : (Nat → Prop) → List α → World → Prop) (D E : Nat → Prop) (W : World) (xs : List α) (X : World) : Prop :=
 ∃ D' pre post, (∀ k, D k → D' k) ∧ (∀ k, E k → D' k) ∧ xs = pre ++ post ∧ Jx D' pre X ∧ (∀ k, E k → W.heap.size ≤ k) ∧ W.heap.size ≤ X.heap.size
section
variable {J Jx : (Nat → Prop) → List α → World → Prop} {D E E' : Nat → Prop} {W X Y : World} {pre xs : List α}
theorem StopSt.step (h : StopSt Jx D E W xs X) (hJ : Steady W.heap.size Jx) (hF : Fr E X Y) : StopSt Jx D (Plus E X Y) W xs Y := by
 obtain ⟨D', p, q, h1, h2, h3, h4, h5, h6⟩ := h
 refine ⟨Plus D' X Y, p, q, fun k hk => .inl (h1 k hk), fun k hk => hk.imp (h2 k) id, h3, hJ _ _ _ _ h4 (hF.mono (fun k _ hk => ⟨h2 k hk, h5 k hk⟩)), fun k hk => ?_, Nat.le_trans h6 hF.size⟩
 rcases hk with hk | hk
 · exact h5 k hk
 · exact Nat.le_trans h6 hk.1
theorem StopSt.same (h : StopSt Jx D E W xs X) (hJ : Steady W.heap.size Jx) (hF : Fr E X Y) (hz : Y.heap.size = X.heap.size) : StopSt Jx D E W xs Y := by
 have := h.step hJ hF
 rwa [Plus.same hz] at this
theorem StopSt.told (h : StopSt Jx D E W xs X) : ToldO xs J Jx X := by
 obtain ⟨D', p, q, _, _, h3, h4, _⟩ := h
 exact ⟨D', .inr ⟨p, q, h3, h4⟩⟩
theorem ItSt.same (h : ItSt J D E W pre X) (hJ : Steady W.heap.size J) (hF : Fr E X Y) (hz : Y.heap.size = X.heap.size) : ItSt J D E W pre Y := by
 have := h.step hJ hF
 rwa [Plus.same hz] at this
theorem ItSt.roundS {l : Nat} {encs : α → Array Value} {x : α} {post : List α} (h : ItSt J D E W pre X) (hY : RoundsO P l encs xs J Jx) (hx : xs = pre ++ x :: post) :
 YieldAt Fence.wide 0 P l (encs x) X fun e W' => (e = .returned (.bool true) ∧ ItSt J D E W (pre ++ [x]) W' ∧ Fr (fun k => ¬ (D k ∨ E k)) X W') ∨ (e = .returned (.bool false) ∧ StopSt Jx D E W xs W' ∧ Fr (fun k => ¬ (D k ∨ E k)) X W') := by
 obtain ⟨D', h1, h2, h3, h4, h5⟩ := h
 obtain ⟨fn, tmps, assign, body, hy, hR⟩ := hY D' pre x post X hx h3
 refine ⟨fn, tmps, assign, body, hy, hR.mono ?_⟩
 rintro e W' (⟨g1, g2, g3⟩ | ⟨g1, g2, g3⟩)
 · exact .inl ⟨g1, ⟨D', h1, h2, g2, h4.trans (g3.mono (fun k _ hk hd => hk (h1 k hd))), h5⟩, g3.mono (fun k _ hk hd => hk (hd.elim (h1 k) (h2 k)))⟩
 · exact .inr ⟨g1, ⟨D', pre ++ [x], post, h1, h2, by rw [hx]; simp, g2, h5, Nat.le_trans h4.size g3.size⟩, g3.mono (fun k _ hk hd => hk (hd.elim (h1 k) (h2 k)))⟩
end
def Marks (E : Nat → Prop) : List Deferred → World → Prop
 | [], _ => True
 | d :: ds, w => (∃ r, d = { target := .collected r, args := #[] } ∧ E r ∧ w.heap[r]? = some (.deferred (some [])) ∧ ∀ d' ∈ ds, d'.target ≠ .collected r) ∧ Marks E ds w
section
variable {E E' : Nat → Prop} {ds : List Deferred} {w w' : World}
theorem Marks.mono (h : Marks E ds w) (hE : ∀ k, E k → E' k) : Marks E' ds w := by
 induction ds with
 | nil => trivial
 | cons d ds ih =>
   obtain ⟨⟨r, h1, h2, h3, h4⟩, h5⟩ := h
   exact ⟨⟨r, h1, hE r h2, h3, h4⟩, ih h5⟩
theorem Marks.fr {M : Nat → Prop} (h : Marks E ds w) (hF : Fr M w w') (hM : ∀ k, E k → ¬ M k) : Marks E ds w' := by
 induction ds with
 | nil => trivial
 | cons d ds ih =>
   obtain ⟨⟨r, h1, h2, h3, h4⟩, h5⟩ := h
   exact ⟨⟨r, h1, h2, (hF.block r (Array.getElem?_eq_some_iff.1 h3).1 (hM r h2)).trans h3, h4⟩, ih h5⟩
theorem Marks.of (h : Marks E ds w) : Marks (fun k => E k ∧ k < w.heap.size) ds w := by
 induction ds with
 | nil => trivial
 | cons d ds ih =>
   obtain ⟨⟨r, h1, h2, h3, h4⟩, h5⟩ := h
   exact ⟨⟨r, h1, ⟨h2, (Array.getElem?_eq_some_iff.1 h3).1⟩, h3, h4⟩, ih h5⟩
theorem Marks.in_ (h : Marks E ds w) : ∀ d ∈ ds, ∀ r, d.target = .collected r → E r := by
 induction ds with
 | nil => intro d hd; cases hd
 | cons d ds ih =>
   obtain ⟨⟨r, h1, h2, h3, h4⟩, h5⟩ := h
   intro d' hd r' hr
   rcases List.mem_cons.1 hd with e | hd
   · subst e; subst h1
     injection hr with hr
     subst hr
     exact h2
   · exact ih h5 d' hd r' hr
theorem Marks.cons {d : Nat} (h : Marks E ds w) (hE : ∀ k, E k → E' k) (hd : E' d) (hk : w.heap[d]? = some (.deferred (some []))) (hn : ¬ E d) : Marks E' ({ target := .collected d, args := #[] } :: ds) w :=
 ⟨⟨d, rfl, hd, hk, fun d' hd' e => hn (h.in_ d' hd' d e)⟩, h.mono hE⟩
theorem leaves_marks {F : Fence} {n : Nat} {fn : Func} {tmps : Array Value} {R : Ending → World → Prop} : ∀ (ds : List Deferred) (w : World), Marks E ds w → (∀ w', Fr E w w' → w'.heap.size = w.heap.size → LeavesInM F n P fn tmps R [] .returning w') → LeavesInM F n P fn tmps R ds .returning w
 | [], w, _, hR => hR w (Fr.refl _ _) rfl
 | d :: ds, w, ⟨⟨r, h1, h2, h3, h4⟩, h5⟩, hR => by
   subst h1
   have hput : Fr (· = r) w (w.putObj r (.deferred none)) := (Fr.refl (· = r) w).putObj (.inl rfl) _
   have hm : Marks E ds (w.putObj r (.deferred none)) := by
    clear hR
    induction ds with
    | nil => trivial
    | cons d ds ih =>
      obtain ⟨⟨r', g1, g2, g3, g4⟩, g5⟩ := h5
      refine ⟨⟨r', g1, g2, (hput.block r' (Array.getElem?_eq_some_iff.1 g3).1 (fun e => h4 d (by simp) (by rw [g1, e]))).trans g3, g4⟩, ih (fun d' hd' => h4 d' (by simp [hd'])) g5⟩
   exact ⟨by simp, .inl ⟨_, _, rfl, run_takeDeferred h3, leaves_marks ds _ hm (fun w' hF hz => hR w' ((hput.mono (fun k _ e => by rw [e]; exact h2)).trans hF) (by rw [hz]; simp))⟩⟩
end
end Go.Proofs.Ytffemfglngikbaa
namespace Go.Proofs.Ytffemfglngikbaa
open Go.RowKit
def headB (f : UInt8 → Bool) (t : ByteArray) : Bool := t.data.toList.head?.any f
theorem headB_eq {f : UInt8 → Bool} {t : ByteArray} (h : 0 < t.size) : headB f t = f t[0] := by
 have hs : t.data.toList.length = t.size := Array.length_toList
 unfold headB
 rw [List.head?_eq_getElem?, List.getElem?_eq_getElem (by omega), Option.any_some, Array.getElem_toList]
 rfl
def validB (s : Sym) : Bool :=
 if s.kind = 1 then decide (s.text.size = 1) && headB greatB s.text && decide (1 ≤ s.n) && decide (s.n ≤ 1048576)
 else if s.kind = 2 then decide (s.text.toList = []) && decide (-2147483647 ≤ s.n) && decide (s.n ≤ 2147483647)
 else if s.kind = 3 then decide (s.n = 0) && isWord s.text else false
theorem ret_bool {a b : Bool} (h : a = b) : Ending.returned (.bool a) = .returned (.bool b) := by rw [h]
theorem validB_id {t : ByteArray} {n : Int} (h : validB ⟨1, t, n⟩ = true) : t.size = 1 ∧ headB greatB t = true ∧ 1 ≤ n ∧ n ≤ 1048576 := by
 simp only [validB, if_true, Bool.and_eq_true, decide_eq_true_eq] at h
 exact ⟨h.1.1.1, h.1.1.2, h.1.2, h.2⟩
theorem validB_int {t : ByteArray} {n : Int} (h : validB ⟨2, t, n⟩ = true) : t.toList = [] ∧ -2147483647 ≤ n ∧ n ≤ 2147483647 := by
 simp [validB] at h
 exact ⟨h.1.1, h.1.2, h.2⟩
theorem validB_kind {k n : Int} {t : ByteArray} (h : validB ⟨k, t, n⟩ = true) : k = 1 ∨ k = 2 ∨ k = 3 := by
 unfold validB at h
 dsimp only at h
 split at h
 · exact .inl ‹_›
 · split at h
   · exact .inr (.inl ‹_›)
   · split at h
     · exact .inr (.inr ‹_›)
     · cases h
def textB (s : Sym) : ByteArray := if validB s = true then (if s.kind = 1 then s.text ++ numB s.n else if s.kind = 2 then numB s.n else s.text) else ⟨#[]⟩
theorem numB_nat (k : Nat) : numB (k : Int) = decB k := by unfold numB; rw [if_neg (by omega)]; simp
theorem numB_neg (k : Nat) (h : 0 < k) : numB (-(k : Int)) = ⟨#[45]⟩ ++ decB k := by unfold numB; rw [if_pos (by omega)]; simp
theorem textB_no {s : Sym} (h : validB s = false) : textB s = ⟨#[]⟩ := by unfold textB; rw [h]; simp
set_option maxRecDepth 100000 in
set_option maxHeartbeats 4000000 in
theorem valid_is (s : Sym) (w : World) : Calls Try.prog 110 #[.agg #[.int .i64 s.kind, .string s.text, .int .i64 s.n]] w fun e w' => e = .returned (.bool (validB s)) ∧ Below w.heap.size w w' := by
 obtain ⟨k, t, n⟩ := s
 dsimp only
 by_cases k1 : k = 1
 · subst k1
   by_cases a1 : t.size = 1
   · have h0 : 0 < t.size := by omega
     have t1 : ((t.size : Int) == 1) = true := by simp; omega
     have HV := Lib.hid (show validB ⟨1, t, n⟩ = (greatB t[0] && decide (1 ≤ n) && decide (n ≤ 1048576)) by simp [validB, a1, headB_eq h0])
     go_enter Try.func110, Try.ntmps110
     go_wp2_with (go_at_call 112; refine (great_is _ _).mono ?_; rintro e w' ⟨rfl, rfl⟩)
     all_goals
      go_ret
      refine ⟨?_, (Below.refl _ _).alloc (Nat.le_refl _) _⟩
      rw [HV.out]
      first | rfl | (refine ret_bool ?_; simp_all; done) | (refine ret_bool ?_; simp_all; omega) | (refine ret_bool ?_; simp_all [greatB]; done) | (refine ret_bool ?_; simp_all [greatB]; omega)
   · have t1 : ((t.size : Int) == 1) = false := by simp; omega
     have HV := Lib.hid (show validB ⟨1, t, n⟩ = false by simp [validB, a1])
     go_enter Try.func110, Try.ntmps110
     go_wp2_with fail
     all_goals
      go_ret
      refine ⟨?_, (Below.refl _ _).alloc (Nat.le_refl _) _⟩
      rw [HV.out]
      rfl
 · by_cases k2 : k = 2
   · subst k2
     have HV := Lib.hid (show validB ⟨2, t, n⟩ = (decide (t.toList = []) && decide (-2147483647 ≤ n) && decide (n ≤ 2147483647)) by simp [validB])
     clear k1
     go_enter Try.func110, Try.ntmps110
     go_wp2_with fail
     all_goals
      go_ret
      refine ⟨?_, (Below.refl _ _).alloc (Nat.le_refl _) _⟩
      rw [HV.out]
      first | rfl | (refine ret_bool ?_; simp_all; done) | (refine ret_bool ?_; simp_all; omega) | (refine ret_bool ?_; simp_all [greatB]; done) | (refine ret_bool ?_; simp_all [greatB]; omega)
   · by_cases k3 : k = 3
     · subst k3
       have HV := Lib.hid (show validB ⟨3, t, n⟩ = (decide (n = 0) && isWord t) by simp [validB])
       clear k1 k2
       go_enter Try.func110, Try.ntmps110
       go_wp2_with (go_at_call 86; refine (word_is _ _).mono ?_; rintro e w' ⟨rfl, rfl⟩)
       all_goals
        go_ret
        refine ⟨?_, (Below.refl _ _).alloc (Nat.le_refl _) _⟩
        rw [HV.out]
        first | rfl | (refine ret_bool ?_; simp_all; done) | (refine ret_bool ?_; simp_all; omega) | (refine ret_bool ?_; simp_all [greatB]; done) | (refine ret_bool ?_; simp_all [greatB]; omega)
     · have HV := Lib.hid (show validB ⟨k, t, n⟩ = false by simp [validB, k1, k2, k3])
       have t1 : (k == 1) = false := by simp [k1]
       have t2 : (k == 2) = false := by simp [k2]
       have t3 : (k == 3) = false := by simp [k3]
       clear k1 k2 k3
       go_enter Try.func110, Try.ntmps110
       go_wp2_with fail
       all_goals
        go_ret
        refine ⟨?_, (Below.refl _ _).alloc (Nat.le_refl _) _⟩
        rw [HV.out]
        rfl
set_option maxRecDepth 100000 in
set_option maxHeartbeats 4000000 in
theorem text_is (s : Sym) (w : World) : Calls Try.prog 104 #[.agg #[.int .i64 s.kind, .string s.text, .int .i64 s.n]] w fun e w' => e = .returned (.string (textB s)) ∧ Below w.heap.size w w' := by
 cases hv : validB s
 · have HT := Lib.hid (textB_no hv)
   go_enter Try.func104, Try.ntmps104
   go_wp2_with fail
   refine (valid_is s _).mono ?_
   rintro e w1 ⟨rfl, hb1⟩
   have HB := Lib.hid (((Below.refl w.heap.size w).alloc (Nat.le_refl _) _).trans (hb1.mono (by simp)))
   clear hb1
   go_wp2_with fail
   go_ret
   exact ⟨by rw [HT.out] <;> rfl, HB.out⟩
 obtain ⟨k, t, n⟩ := s
 dsimp only
 have HT0 : Hid (textB ⟨k, t, n⟩ = if k = 1 then t ++ numB n else if k = 2 then numB n else t) := Lib.hid (by unfold textB; rw [hv]; rfl)
 rcases validB_kind hv with rfl | rfl | rfl
 · obtain ⟨h1, _, h3, h4⟩ := validB_id hv
   obtain ⟨m, rfl⟩ : ∃ m : Nat, n = (m : Int) := ⟨n.toNat, by omega⟩
   have HT := Lib.hid (show textB ⟨1, t, m⟩ = t ++ decB m by rw [HT0.out, numB_nat]; rfl)
   have hz : ¬ 9223372036854775807 < t.size + (decB m).size := by have := decB_size m; omega
   have hm : m ≤ 4000000000 := by omega
   clear h1 h3 h4 HT0
   go_enter Try.func104, Try.ntmps104
   go_wp2_with fail
   refine (valid_is ⟨1, t, m⟩ _).mono ?_
   rintro e w1 ⟨rfl, hb1⟩
   have hx1 := (Blk.new w 52 #[.int .i64 1, .string t, .int .i64 m]).new_ hb1
   have y0 := (hx1.cell 0).trans rfl
   have y1 := (hx1.cell 1).trans rfl
   have y2 := (hx1.cell 2).trans rfl
   have hxl := hx1.lt
   have HB := Lib.hid (((Below.refl w.heap.size w).alloc (Nat.le_refl _) _).trans (hb1.mono (by simp)))
   clear hb1 hx1
   go_wp2_with fail
   refine wp_region_E (fun w9 => Below w1.heap.size w1 w9) [(0, 0), (1, 1), (2, 0), (3, 1), (4, 2), (5, 0), (6, 0)] (by kernel_rfl) (by kernel_rfl) (fun KK hKK => ?_)
   simp only [beside, List.filterMap_cons, List.filterMap_nil, List.getElem?_toArray, List.getElem?_cons_zero, List.getElem?_cons_succ, Option.map_some]
   repeat ((first | (refine wpX_w ?_ (Or.inl ⟨by rfl, fun w9 => ?_⟩) ?_; rotate_left 1; go_simp; with_reducible rfl) | (refine wpX_l ?_ (((Below.refl _ _).drew)) (Or.inl ⟨by rfl, fun w9 hw9 => ?_⟩) ?_; rotate_left 1; obtain ⟨hc9, hf9⟩ := bcell hw9; go_simp; with_reducible rfl) | refine wpX_w undef (Or.inr ⟨by rfl, rfl⟩) ?_ | refine wpX_l undef (((Below.refl _ _).drew)) (Or.inr ⟨by rfl, rfl⟩) ?_); go_frame)
   refine wpX_es (fun K9 hK9 => ?_)
   go_simp
   refine (digits_is m hm _).mono ?_
   rintro e w2 ⟨rfl, hb2⟩
   have HB2 := Lib.hid ((Below.refl w1.heap.size w1).drew.trans (hb2.mono (by simp)))
   clear hb2
   refine hK9 _ _ HB2.out ?_
   clear hK9 K9
   repeat ((first | (refine wpX_w ?_ (Or.inl ⟨by rfl, fun w9 => ?_⟩) ?_; rotate_left 1; go_simp; with_reducible rfl) | (refine wpX_l ?_ (HB2.out) (Or.inl ⟨by rfl, fun w9 hw9 => ?_⟩) ?_; rotate_left 1; obtain ⟨hc9, hf9⟩ := bcell hw9; go_simp; with_reducible rfl) | refine wpX_w undef (Or.inr ⟨by rfl, rfl⟩) ?_ | refine wpX_l undef (HB2.out) (Or.inr ⟨by rfl, rfl⟩) ?_); go_frame)
   refine wpX_nil ?_
   simp only [OnlyN_normal]
   refine hKK _ _ ?_
   clear hKK KK
   go_wp2_with fail
   go_ret
   exact ⟨by rw [HT.out] <;> rfl, HB.out.trans (HB2.out.mono HB.out.size)⟩
 · obtain ⟨h1, h3, h4⟩ := validB_int hv
   by_cases hn : n < 0
   · obtain ⟨m, rfl⟩ : ∃ m : Nat, n = -(m : Int) := ⟨(-n).toNat, by omega⟩
     have HT := Lib.hid (show textB ⟨2, t, -(m : Int)⟩ = ⟨#[45]⟩ ++ decB m by rw [HT0.out, numB_neg m (by omega)]; rfl)
     have hz : ¬ 9223372036854775807 < 1 + (decB m).size := by have := decB_size m; omega
     have hz2 : ¬ 9223372036854775807 < (⟨#[45]⟩ : ByteArray).size + (decB m).size := by have := decB_size m; have e : (⟨#[45]⟩ : ByteArray).size = 1 := rfl; omega
     have hm : m ≤ 4000000000 := by omega
     have v1 : IntKind.i64.wrap (-(-(m : Int))) = (m : Int) := by rw [IntWalk.i64_in _ (by omega)]; omega
     have v2 : IntKind.i64.wrap (m : Int) = (m : Int) := IntWalk.i64_in _ (by omega)
     have t1 : decide (-(m : Int) < 0) = true := by simpa using hn
     clear h1 h3 h4 HT0
     go_enter Try.func104, Try.ntmps104
     go_wp2_with fail
     refine (valid_is ⟨2, t, -(m : Int)⟩ _).mono ?_
     rintro e w1 ⟨rfl, hb1⟩
     have hx1 := (Blk.new w 52 #[.int .i64 2, .string t, .int .i64 (-(m : Int))]).new_ hb1
     have y0 := (hx1.cell 0).trans rfl
     have y1 := (hx1.cell 1).trans rfl
     have y2 := (hx1.cell 2).trans rfl
     have HB := Lib.hid (((Below.refl w.heap.size w).alloc (Nat.le_refl _) _).trans (hb1.mono (by simp)))
     clear hb1 hx1
     go_wp2_with fail
     refine (digits_is m hm _).mono ?_
     rintro e w2 ⟨rfl, hb2⟩
     have HB2 := Lib.hid (HB.out.trans (hb2.mono HB.out.size))
     clear hb2
     go_wp2_with fail
     go_ret
     exact ⟨by rw [HT.out] <;> rfl, HB2.out⟩
   · obtain ⟨m, rfl⟩ : ∃ m : Nat, n = (m : Int) := ⟨n.toNat, by omega⟩
     have HT := Lib.hid (show textB ⟨2, t, m⟩ = decB m by rw [HT0.out, numB_nat]; rfl)
     have hm : m ≤ 4000000000 := by omega
     have t1 : decide ((m : Int) < 0) = false := by simp
     clear h1 h3 h4 HT0 hn
     go_enter Try.func104, Try.ntmps104
     go_wp2_with fail
     refine (valid_is ⟨2, t, m⟩ _).mono ?_
     rintro e w1 ⟨rfl, hb1⟩
     have hx1 := (Blk.new w 52 #[.int .i64 2, .string t, .int .i64 m]).new_ hb1
     have y0 := (hx1.cell 0).trans rfl
     have y1 := (hx1.cell 1).trans rfl
     have y2 := (hx1.cell 2).trans rfl
     have HB := Lib.hid (((Below.refl w.heap.size w).alloc (Nat.le_refl _) _).trans (hb1.mono (by simp)))
     clear hb1 hx1
     go_wp2_with fail
     refine (digits_is m hm _).mono ?_
     rintro e w2 ⟨rfl, hb2⟩
     have HB2 := Lib.hid (HB.out.trans (hb2.mono HB.out.size))
     clear hb2
     go_wp2_with fail
     go_ret
     exact ⟨by rw [HT.out] <;> rfl, HB2.out⟩
 · have HT := Lib.hid (show textB ⟨3, t, n⟩ = t by rw [HT0.out]; rfl)
   clear HT0
   go_enter Try.func104, Try.ntmps104
   go_wp2_with fail
   refine (valid_is ⟨3, t, n⟩ _).mono ?_
   rintro e w1 ⟨rfl, hb1⟩
   have hx1 := (Blk.new w 52 #[.int .i64 3, .string t, .int .i64 n]).new_ hb1
   have y0 := (hx1.cell 0).trans rfl
   have y1 := (hx1.cell 1).trans rfl
   have y2 := (hx1.cell 2).trans rfl
   have HB := Lib.hid (((Below.refl w.heap.size w).alloc (Nat.le_refl _) _).trans (hb1.mono (by simp)))
   clear hb1 hx1
   go_wp2_with fail
   go_ret
   exact ⟨by rw [HT.out] <;> rfl, HB.out⟩
end Go.Proofs.Ytffemfglngikbaa
namespace Go.Proofs.Ytffemfglngikbaa
def zS : Sym := ⟨0, ⟨#[]⟩, 0⟩
def noneB (s : Sym) : Bool := decide (s = zS)
def emptyB (a : AtomT) : Bool := decide (a.var.toList = []) && noneB a.sym
def constB (s : Sym) : Bool := decide (s.kind ≠ 1) && validB s
def testB (t : TestT) : Bool :=
 if t.rel = 8 then decide (t.var.toList = []) && noneB t.sym && decide (1 ≤ t.list.length) && decide (t.list.length ≤ 8) && t.list.all constB
 else if t.rel < 1 ∨ 7 < t.rel ∨ 0 < t.list.length then false
 else if t.var.toList = [] then constB t.sym else isWord t.var && noneB t.sym
def atomB (a : AtomT) : Bool := if a.var.toList = [] then constB a.sym else isWord a.var && noneB a.sym
def condE (c : CondT) (deep : Nat) : Int :=
 if c.kind = 3 then (if c.goal = true ∨ c.id.toList ≠ [] ∨ 0 < c.attr.length ∨ 0 < c.value.length ∨ c.acc = true ∨ c.conds.length = 0 then 9 else if 3 ≤ deep then 8 else 0)
 else if c.kind = 1 ∨ c.kind = 2 then
  (if 0 < c.conds.length ∨ isWord c.id = false ∨ c.attr.length = 0 then 9 else if 4 < c.attr.length ∨ 4 < c.value.length then 7 else if (c.attr.all testB && c.value.all testB) = false then 9 else 0)
 else 9
def wordAB (a : AtomT) : Bool := decide (a.var.toList = []) && decide (a.sym.kind = 3)
def termB (t : TermT) : Bool :=
 if t.op < 0 ∨ 3 < t.op ∨ atomB t.a = false then false
 else if t.op = 0 then emptyB t.b else atomB t.b && !wordAB t.a && !wordAB t.b
def otherB (k : Int) : Bool := decide (k = 8) || decide (k = 9) || decide (k = 10)
def actB (a : ActT) : Bool :=
 if isWord a.id = false ∨ atomB a.attr = false ∨ termB a.value = false ∨ a.pref < 1 ∨ 10 < a.pref then false
 else if otherB a.pref = true then atomB a.other else emptyB a.other
def flatC : Nat → Nat → List CondT → List (Nat × CondT)
 | 0, _, _ => []
 | n + 1, d, l => l.flatMap fun c => (d, c) :: flatC n (d + 1) c.conds
def shapeP (n : Nat) (p : ProdT) : Int × Int :=
 if isWord p.name = false then (-1, 2)
 else if (flatC n 0 p.conds).length < 1 ∨ 16 < (flatC n 0 p.conds).length ∨ p.acts.length < 1 ∨ 16 < p.acts.length then (-1, 7)
 else match (flatC n 0 p.conds).findIdx? (fun c => decide (condE c.2 c.1 ≠ 0)) with
  | some k => (k, (((flatC n 0 p.conds)[k]?).map fun c => condE c.2 c.1).getD 0)
  | none => match p.acts.findIdx? (fun a => !actB a) with
    | some i => ((flatC n 0 p.conds).length + i, 9)
    | none => (-1, 0)
end Go.Proofs.Ytffemfglngikbaa
