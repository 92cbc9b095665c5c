/-
  The walk of a table's Fresh: a new identifier, or why there is none.
-/
import Derived.Test.YtlkffnmmphehdaaTabPut
namespace Go.Proofs.Ytlkffnmmphehdaa
open Go.RowKit
/-- A text of one byte. -/
def letB (c : UInt8) : ByteArray := ⟨#[c]⟩
theorem letB_size (c : UInt8) : (letB c).size = 1 := rfl
theorem letB_get (c : UInt8) : (letB c)[0]'(by rw [letB_size]; omega) = c := rfl
theorem convL (c : UInt8) (W : World) (g : Nat) (hc : W.cell? ⟨g, 0, none⟩ = some (.int .u8 (c.toNat : Int))) : (convert 58 9 (.slice (some ⟨g, 0, none⟩) 1 1)).run Try.prog W = .ok (.string (letB c)) W :=
  Lib.run_convert_whole (P := Try.prog) W 58 5 9 Try.underlying58 Try.underlying5 Try.underlying9 g 0 (letB c) (fun i hi => by
    have : i = 0 := by have := letB_size c; omega
    subst this
    rw [Nat.add_zero, hc]
    rfl) 1
theorem valid_let {c : UInt8} {n : Int} (h : greatB c = true) (h1 : 1 ≤ n) (h2 : n ≤ 1048576) : validB ⟨1, letB c, n⟩ = true := by
  have e : headB greatB (letB c) = true := by rw [headB_eq (by rw [letB_size]; omega)]; exact h
  simp [validB, letB_size, e, h1, h2]
section
variable {D : Nat → Prop} {w : World} {S : Nat → Option (List Sym)} {σ : Nat → St} {S2 : Nat → Option (List Page)} {σ2 : Nat → St}
set_option maxHeartbeats 1000000 in
theorem fresh_arg (T : TB) (c : UInt8) (hg : greatB c = false) : Calls Try.prog 25 #[.pointer (some ⟨T.b, 0, none⟩), .int .u8 (c.toNat : Int)] w fun e w' => e = .returned (.tuple #[.agg #[.int .i64 0, .string ⟨#[]⟩, .int .i64 0], .int .i64 1]) ∧ Below w.heap.size w w' := by
  go_enter Try.func25, Try.ntmps25
  go_wp2_with (go_at_call 37; refine (great_is _ _).mono ?_; rintro e w' ⟨rfl, rfl⟩)
  exact bodyPost_ret (v := .tuple #[.agg #[.int .i64 0, .string ⟨#[]⟩, .int .i64 0], .int .i64 1]) (by simp [results, Try.results25, go_sem]) rfl ⟨rfl, by (repeat (first | exact Below.refl _ _ | (refine Below.drew ?_) | (refine Below.alloc ?_ (by simp <;> omega) _) | (refine Below.setCell ?_ (by simp <;> omega) _)))⟩

set_option maxRecDepth 100000 in
set_option maxHeartbeats 4000000 in
theorem fresh_full (T : TB) (l : List Sym) (m : List Page) (c : UInt8) (hT : Tabs D w S σ S2 σ2) (hB : TabBlk w T) (hb : S T.bs = some l) (hb2 : S2 T.bp = some m) (hg : greatB c = true) (hf : T.room ≤ l.length) (hl2 : (m.length : Int) ≤ 1000000) :
    Calls Try.prog 25 #[.pointer (some ⟨T.b, 0, none⟩), .int .u8 (c.toNat : Int)] w fun e w' => e = .returned (.tuple #[.agg #[.int .i64 0, .string ⟨#[]⟩, .int .i64 0], .int .i64 20]) ∧ Below w.heap.size w w' := by
  have t1 : decide (T.room ≤ (l.length : Int)) = true := by simpa using hf
  clear hf
  have HT := Lib.hid hT
  have HB := Lib.hid hB
  have HS := Lib.hid hb
  have HP := Lib.hid hb2
  clear hT hB hb hb2
  go_enter Try.func25, Try.ntmps25
  go_wp2_with (go_at_call 37; refine (great_is _ _).mono ?_; rintro e w' ⟨rfl, rfl⟩)
  refine (next_is T m c (HT.out.below ((Below.refl _ _).alloc (Nat.le_refl _) _)) (HB.out.below ((Below.refl _ _).alloc (Nat.le_refl _) _)) HP.out hl2).mono ?_
  rintro e w1 ⟨rfl, hb1⟩
  have hZ : Blk w1 w.heap.size 23 #[.int .i64 0, .string ⟨#[]⟩, .int .i64 0] := (Blk.new _ _ _).new_ hb1
  have hB1 : Below w.heap.size w w1 := ((Below.refl w.heap.size w).alloc (Nat.le_refl _) _).trans (hb1.mono (by simp))
  have hT1 := HT.out.below hB1
  have hBk1 := HB.out.below hB1
  have s0 := (hBk1.1.cell 0).trans rfl
  have s1 := (hBk1.1.cell 1).trans rfl
  have hbl := hBk1.1.lt
  have hzl := hZ.lt
  have HZ := Lib.hid hZ
  have HB1 := Lib.hid hB1
  have HT1 := Lib.hid hT1
  have HBk1 := Lib.hid hBk1
  clear hb1 hZ hB1 hT1 hBk1
  go_wp2_with fail
  refine wp_region_E (fun w9 => Below w1.heap.size w1 w9) [(0, 0), (1, 0), (2, 0), (3, 1), (5, 0), (6, 0), (7, 0), (8, 1), (4, 2), (9, 0), (10, 0), (11, 0), (12, 0), (13, 0)] (by kernel_rfl) (by kernel_rfl) (fun KK hKK => ?_)
  simp only [beside, List.filterMap_cons, List.filterMap_nil, List.getElem?_toArray, List.getElem?_cons_zero, List.getElem?_cons_succ, Option.map_some]
  repeat (first | (refine wpX_w ?_ (Or.inl ⟨by rfl, fun w9 => ?_⟩) ?_; rotate_left 1; go_simp; with_reducible rfl; simp only [Act.put, List.setIfInBounds_toArray, List.set_cons_zero, List.set_cons_succ]) | (refine wpX_l ?_ (((Below.refl _ _).drew)) (Or.inl ⟨by rfl, fun w9 hw9 => ?_⟩) ?_; rotate_left 1; obtain ⟨hc9, hf9⟩ := bcell hw9; go_simp; with_reducible rfl; simp only [Act.put, List.setIfInBounds_toArray, List.set_cons_zero, List.set_cons_succ]) | (refine wpX_w undef (Or.inr ⟨by rfl, rfl⟩) ?_; simp only [Act.put, List.setIfInBounds_toArray, List.set_cons_zero, List.set_cons_succ]) | (refine wpX_l undef (((Below.refl _ _).drew)) (Or.inr ⟨by rfl, rfl⟩) ?_; simp only [Act.put, List.setIfInBounds_toArray, List.set_cons_zero, List.set_cons_succ]))
  refine wpX_es (fun K9 hK9 => ?_)
  go_simp
  refine (len_Sym T.bs _ _ _ l _ ((HT1.out.below ((Below.refl _ _).drew)).syms.at_ T.bs l HS.out)).mono ?_
  rintro e w2 ⟨rfl, rfl⟩
  refine hK9 _ _ ((Below.refl _ _).drew) ?_
  clear hK9 K9
  repeat (first | (refine wpX_w ?_ (Or.inl ⟨by rfl, fun w9 => ?_⟩) ?_; rotate_left 1; go_simp; with_reducible rfl; simp only [Act.put, List.setIfInBounds_toArray, List.set_cons_zero, List.set_cons_succ]) | (refine wpX_l ?_ (((Below.refl _ _).drew)) (Or.inl ⟨by rfl, fun w9 hw9 => ?_⟩) ?_; rotate_left 1; obtain ⟨hc9, hf9⟩ := bcell hw9; go_simp; with_reducible rfl; simp only [Act.put, List.setIfInBounds_toArray, List.set_cons_zero, List.set_cons_succ]) | (refine wpX_w undef (Or.inr ⟨by rfl, rfl⟩) ?_; simp only [Act.put, List.setIfInBounds_toArray, List.set_cons_zero, List.set_cons_succ]) | (refine wpX_l undef (((Below.refl _ _).drew)) (Or.inr ⟨by rfl, rfl⟩) ?_; simp only [Act.put, List.setIfInBounds_toArray, List.set_cons_zero, List.set_cons_succ]))
  refine wpX_nil ?_
  simp only [OnlyN_normal]
  refine hKK _ _ ?_
  clear hKK KK
  have z0 : w1.cell? ⟨w.heap.size, 0, none⟩ = some (.int .i64 0) := (HZ.out.cell 0).trans rfl
  have z1 : w1.cell? ⟨w.heap.size, 1, none⟩ = some (.string ⟨#[]⟩) := (HZ.out.cell 1).trans rfl
  have z2 : w1.cell? ⟨w.heap.size, 2, none⟩ = some (.int .i64 0) := (HZ.out.cell 2).trans rfl
  have f0 := HZ.out.frozen 0
  have f1 := HZ.out.frozen 1
  have f2 := HZ.out.frozen 2
  go_wp2_with fail
  exact bodyPost_ret (v := .tuple #[.agg #[.int .i64 0, .string ⟨#[]⟩, .int .i64 0], .int .i64 20]) (by simp [results, Try.results25, go_sem, z0, z1, z2]) rfl ⟨rfl, by (repeat (first | exact Below.refl _ _ | exact HB1.out | (refine Below.drew ?_) | (refine Below.alloc ?_ (by simp <;> omega) _) | (refine Below.setCell ?_ (by simp <;> omega) _)))⟩

set_option maxRecDepth 100000 in
set_option maxHeartbeats 4000000 in
theorem fresh_far (T : TB) (l : List Sym) (m : List Page) (c : UInt8) (hT : Tabs D w S σ S2 σ2) (hB : TabBlk w T) (hb : S T.bs = some l) (hb2 : S2 T.bp = some m) (hg : greatB c = true) (hf : ¬ T.room ≤ l.length) (hn : 1048576 < nextB m c) (hl2 : (m.length : Int) ≤ 1000000) :
    Calls Try.prog 25 #[.pointer (some ⟨T.b, 0, none⟩), .int .u8 (c.toNat : Int)] w fun e w' => e = .returned (.tuple #[.agg #[.int .i64 0, .string ⟨#[]⟩, .int .i64 0], .int .i64 20]) ∧ Below w.heap.size w w' := by
  have t1 : decide (T.room ≤ (l.length : Int)) = false := by simpa using hf
  have t2 : decide ((1048576 : Int) < nextB m c) = true := by simpa using hn
  clear hf
  have HT := Lib.hid hT
  have HB := Lib.hid hB
  have HS := Lib.hid hb
  have HP := Lib.hid hb2
  clear hT hB hb hb2
  go_enter Try.func25, Try.ntmps25
  go_wp2_with (go_at_call 37; refine (great_is _ _).mono ?_; rintro e w' ⟨rfl, rfl⟩)
  refine (next_is T m c (HT.out.below ((Below.refl _ _).alloc (Nat.le_refl _) _)) (HB.out.below ((Below.refl _ _).alloc (Nat.le_refl _) _)) HP.out hl2).mono ?_
  rintro e w1 ⟨rfl, hb1⟩
  have hZ : Blk w1 w.heap.size 23 #[.int .i64 0, .string ⟨#[]⟩, .int .i64 0] := (Blk.new _ _ _).new_ hb1
  have hB1 : Below w.heap.size w w1 := ((Below.refl w.heap.size w).alloc (Nat.le_refl _) _).trans (hb1.mono (by simp))
  have hT1 := HT.out.below hB1
  have hBk1 := HB.out.below hB1
  have s0 := (hBk1.1.cell 0).trans rfl
  have s1 := (hBk1.1.cell 1).trans rfl
  have hbl := hBk1.1.lt
  have hzl := hZ.lt
  have HZ := Lib.hid hZ
  have HB1 := Lib.hid hB1
  have HT1 := Lib.hid hT1
  have HBk1 := Lib.hid hBk1
  clear hb1 hZ hB1 hT1 hBk1
  go_wp2_with fail
  refine wp_region_E (fun w9 => Below w1.heap.size w1 w9) [(0, 0), (1, 0), (2, 0), (3, 1), (5, 0), (6, 0), (7, 0), (8, 1), (4, 2), (9, 0), (10, 0), (11, 0), (12, 0), (13, 0)] (by kernel_rfl) (by kernel_rfl) (fun KK hKK => ?_)
  simp only [beside, List.filterMap_cons, List.filterMap_nil, List.getElem?_toArray, List.getElem?_cons_zero, List.getElem?_cons_succ, Option.map_some]
  repeat (first | (refine wpX_w ?_ (Or.inl ⟨by rfl, fun w9 => ?_⟩) ?_; rotate_left 1; go_simp; with_reducible rfl; simp only [Act.put, List.setIfInBounds_toArray, List.set_cons_zero, List.set_cons_succ]) | (refine wpX_l ?_ (((Below.refl _ _).drew)) (Or.inl ⟨by rfl, fun w9 hw9 => ?_⟩) ?_; rotate_left 1; obtain ⟨hc9, hf9⟩ := bcell hw9; go_simp; with_reducible rfl; simp only [Act.put, List.setIfInBounds_toArray, List.set_cons_zero, List.set_cons_succ]) | (refine wpX_w undef (Or.inr ⟨by rfl, rfl⟩) ?_; simp only [Act.put, List.setIfInBounds_toArray, List.set_cons_zero, List.set_cons_succ]) | (refine wpX_l undef (((Below.refl _ _).drew)) (Or.inr ⟨by rfl, rfl⟩) ?_; simp only [Act.put, List.setIfInBounds_toArray, List.set_cons_zero, List.set_cons_succ]))
  refine wpX_es (fun K9 hK9 => ?_)
  go_simp
  refine (len_Sym T.bs _ _ _ l _ ((HT1.out.below ((Below.refl _ _).drew)).syms.at_ T.bs l HS.out)).mono ?_
  rintro e w2 ⟨rfl, rfl⟩
  refine hK9 _ _ ((Below.refl _ _).drew) ?_
  clear hK9 K9
  repeat (first | (refine wpX_w ?_ (Or.inl ⟨by rfl, fun w9 => ?_⟩) ?_; rotate_left 1; go_simp; with_reducible rfl; simp only [Act.put, List.setIfInBounds_toArray, List.set_cons_zero, List.set_cons_succ]) | (refine wpX_l ?_ (((Below.refl _ _).drew)) (Or.inl ⟨by rfl, fun w9 hw9 => ?_⟩) ?_; rotate_left 1; obtain ⟨hc9, hf9⟩ := bcell hw9; go_simp; with_reducible rfl; simp only [Act.put, List.setIfInBounds_toArray, List.set_cons_zero, List.set_cons_succ]) | (refine wpX_w undef (Or.inr ⟨by rfl, rfl⟩) ?_; simp only [Act.put, List.setIfInBounds_toArray, List.set_cons_zero, List.set_cons_succ]) | (refine wpX_l undef (((Below.refl _ _).drew)) (Or.inr ⟨by rfl, rfl⟩) ?_; simp only [Act.put, List.setIfInBounds_toArray, List.set_cons_zero, List.set_cons_succ]))
  refine wpX_nil ?_
  simp only [OnlyN_normal]
  refine hKK _ _ ?_
  clear hKK KK
  have z0 : w1.cell? ⟨w.heap.size, 0, none⟩ = some (.int .i64 0) := (HZ.out.cell 0).trans rfl
  have z1 : w1.cell? ⟨w.heap.size, 1, none⟩ = some (.string ⟨#[]⟩) := (HZ.out.cell 1).trans rfl
  have z2 : w1.cell? ⟨w.heap.size, 2, none⟩ = some (.int .i64 0) := (HZ.out.cell 2).trans rfl
  have f0 := HZ.out.frozen 0
  have f1 := HZ.out.frozen 1
  have f2 := HZ.out.frozen 2
  go_wp2_with fail
  exact bodyPost_ret (v := .tuple #[.agg #[.int .i64 0, .string ⟨#[]⟩, .int .i64 0], .int .i64 20]) (by simp [results, Try.results25, go_sem, z0, z1, z2]) rfl ⟨rfl, by (repeat (first | exact Below.refl _ _ | exact HB1.out | (refine Below.drew ?_) | (refine Below.alloc ?_ (by simp <;> omega) _) | (refine Below.setCell ?_ (by simp <;> omega) _)))⟩

set_option maxRecDepth 100000 in
set_option maxHeartbeats 4000000 in
theorem fresh_new (T : TB) (l : List Sym) (m : List Page) (c : UInt8) (hT : Tabs D w S σ S2 σ2) (hB : TabBlk w T) (hb : S T.bs = some l) (hb2 : S2 T.bp = some m) (hg : greatB c = true) (hf : ¬ T.room ≤ l.length) (hn : nextB m c ≤ 1048576) (hn1 : 1 ≤ nextB m c) (hl : (l.length : Int) ≤ 1000000) (hl2 : (m.length : Int) ≤ 1000000) :
    Calls Try.prog 25 #[.pointer (some ⟨T.b, 0, none⟩), .int .u8 (c.toNat : Int)] w fun e w' => e = .returned (.tuple #[.agg #[.int .i64 1, .string (letB c), .int .i64 (nextB m c)], .int .i64 0]) ∧ TabPut D w S σ S2 σ2 T (put cmpSym l ⟨1, letB c, nextB m c⟩) (tputM m ⟨1, letB c, nextB m c⟩) w' := by
  have t1 : decide (T.room ≤ (l.length : Int)) = false := by simpa using hf
  have t2 : decide ((1048576 : Int) < nextB m c) = false := by simpa using hn
  have HV := Lib.hid (valid_let hg hn1 hn)
  clear hf
  have HT := Lib.hid hT
  have HB := Lib.hid hB
  have HS := Lib.hid hb
  have HP := Lib.hid hb2
  clear hT hB hb hb2
  go_enter Try.func25, Try.ntmps25
  go_wp2_with (go_at_call 37; refine (great_is _ _).mono ?_; rintro e w' ⟨rfl, rfl⟩)
  refine (next_is T m c (HT.out.below ((Below.refl _ _).alloc (Nat.le_refl _) _)) (HB.out.below ((Below.refl _ _).alloc (Nat.le_refl _) _)) HP.out hl2).mono ?_
  rintro e w1 ⟨rfl, hb1⟩
  have hZ : Blk w1 w.heap.size 23 #[.int .i64 0, .string ⟨#[]⟩, .int .i64 0] := (Blk.new _ _ _).new_ hb1
  have hB1 : Below w.heap.size w w1 := ((Below.refl w.heap.size w).alloc (Nat.le_refl _) _).trans (hb1.mono (by simp))
  have hT1 := HT.out.below hB1
  have hBk1 := HB.out.below hB1
  have s0 := (hBk1.1.cell 0).trans rfl
  have s1 := (hBk1.1.cell 1).trans rfl
  have hbl := hBk1.1.lt
  have hzl := hZ.lt
  have HZ := Lib.hid hZ
  have HB1 := Lib.hid hB1
  have HT1 := Lib.hid hT1
  have HBk1 := Lib.hid hBk1
  clear hb1 hZ hB1 hT1 hBk1
  go_wp2_with fail
  refine wp_region_E (fun w9 => Below w1.heap.size w1 w9) [(0, 0), (1, 0), (2, 0), (3, 1), (5, 0), (6, 0), (7, 0), (8, 1), (4, 2), (9, 0), (10, 0), (11, 0), (12, 0), (13, 0)] (by kernel_rfl) (by kernel_rfl) (fun KK hKK => ?_)
  simp only [beside, List.filterMap_cons, List.filterMap_nil, List.getElem?_toArray, List.getElem?_cons_zero, List.getElem?_cons_succ, Option.map_some]
  repeat (first | (refine wpX_w ?_ (Or.inl ⟨by rfl, fun w9 => ?_⟩) ?_; rotate_left 1; go_simp; with_reducible rfl; simp only [Act.put, List.setIfInBounds_toArray, List.set_cons_zero, List.set_cons_succ]) | (refine wpX_l ?_ (((Below.refl _ _).drew)) (Or.inl ⟨by rfl, fun w9 hw9 => ?_⟩) ?_; rotate_left 1; obtain ⟨hc9, hf9⟩ := bcell hw9; go_simp; with_reducible rfl; simp only [Act.put, List.setIfInBounds_toArray, List.set_cons_zero, List.set_cons_succ]) | (refine wpX_w undef (Or.inr ⟨by rfl, rfl⟩) ?_; simp only [Act.put, List.setIfInBounds_toArray, List.set_cons_zero, List.set_cons_succ]) | (refine wpX_l undef (((Below.refl _ _).drew)) (Or.inr ⟨by rfl, rfl⟩) ?_; simp only [Act.put, List.setIfInBounds_toArray, List.set_cons_zero, List.set_cons_succ]))
  refine wpX_es (fun K9 hK9 => ?_)
  go_simp
  refine (len_Sym T.bs _ _ _ l _ ((HT1.out.below ((Below.refl _ _).drew)).syms.at_ T.bs l HS.out)).mono ?_
  rintro e w2 ⟨rfl, rfl⟩
  refine hK9 _ _ ((Below.refl _ _).drew) ?_
  clear hK9 K9
  repeat (first | (refine wpX_w ?_ (Or.inl ⟨by rfl, fun w9 => ?_⟩) ?_; rotate_left 1; go_simp; with_reducible rfl; simp only [Act.put, List.setIfInBounds_toArray, List.set_cons_zero, List.set_cons_succ]) | (refine wpX_l ?_ (((Below.refl _ _).drew)) (Or.inl ⟨by rfl, fun w9 hw9 => ?_⟩) ?_; rotate_left 1; obtain ⟨hc9, hf9⟩ := bcell hw9; go_simp; with_reducible rfl; simp only [Act.put, List.setIfInBounds_toArray, List.set_cons_zero, List.set_cons_succ]) | (refine wpX_w undef (Or.inr ⟨by rfl, rfl⟩) ?_; simp only [Act.put, List.setIfInBounds_toArray, List.set_cons_zero, List.set_cons_succ]) | (refine wpX_l undef (((Below.refl _ _).drew)) (Or.inr ⟨by rfl, rfl⟩) ?_; simp only [Act.put, List.setIfInBounds_toArray, List.set_cons_zero, List.set_cons_succ]))
  refine wpX_nil ?_
  simp only [OnlyN_normal]
  refine hKK _ _ ?_
  clear hKK KK
  have hcv := convL c
  go_wp2_with fail
  clear hcv s0 s1
  obtain ⟨X, hX⟩ : ∃ X, X = ((w1.alloc (Obj.cells #[Value.int IntKind.u8 (c.toNat : Int)] 5)).alloc (Obj.cells #[Value.int IntKind.i64 1, Value.string (letB c), Value.int IntKind.i64 (nextB m c)] 23)).drew := ⟨_, rfl⟩
  have hBX : Below w1.heap.size w1 X := by rw [hX]; exact (((Below.refl _ _).alloc (Nat.le_refl _) _).alloc (by simp) _).drew
  have hC : Blk X (w1.heap.size + 1) 23 #[.int .i64 1, .string (letB c), .int .i64 (nextB m c)] := by
    rw [hX]
    have := (Blk.new (w1.alloc (Obj.cells #[Value.int IntKind.u8 (c.toNat : Int)] 5)) 23 #[.int .i64 1, .string (letB c), .int .i64 (nextB m c)]).drew
    simpa using this
  rw [← hX]
  clear hX
  have hBX2 : Below w.heap.size w X := HB1.out.trans (hBX.mono HB1.out.size)
  have hzx := hBX.size
  have hcl := hC.lt
  have hTP := HT.out.protect hBX2
  refine (tabput T l m ⟨1, letB c, nextB m c⟩ hTP (HBk1.out.below hBX) HS.out HP.out HV.out hl hl2).mono ?_
  rintro e w8 ⟨rfl, ⟨σ8, σ9, h8, hO8⟩, hK8, hF8⟩
  have hz1 := HB1.out.size
  have hZ8 : Blk w8 w.heap.size 23 #[.int .i64 0, .string ⟨#[]⟩, .int .i64 0] := (HZ.out.new_ hBX).fr hF8 (fun h => h (.inr ⟨Nat.le_refl _, by omega⟩))
  have hC8 : Blk w8 (w1.heap.size + 1) 23 #[.int .i64 1, .string (letB c), .int .i64 (nextB m c)] := hC.fr hF8 (fun h => h (.inr ⟨by omega, hcl⟩))
  have hx8 := hF8.size
  have hof := Off.new_ HT.out.syms (Nat.le_refl _)
  have hof2 := Off.new_ HT.out.pages (Nat.le_refl _)
  have hO9 := hO8 w.heap.size (by omega) hof hof2
  have H8 := Lib.hid (h8.weaken (D' := D) (fun k hk => .inl hk))
  have HO8 := Lib.hid hO8
  have HO9 := Lib.hid hO9
  have HK8 := Lib.hid ((KB.of_below hBX2).trans hK8)
  have HF8 := Lib.hid ((Fr.of_new (M := fun k => ¬ D k) hBX2).trans (hF8.mono (fun k _ hk hd => hk (.inl hd))))
  have HZ8 := Lib.hid hZ8
  have z0 : w8.cell? ⟨w.heap.size, 0, none⟩ = some (.int .i64 0) := (hZ8.cell 0).trans rfl
  have z1 : w8.cell? ⟨w.heap.size, 1, none⟩ = some (.string ⟨#[]⟩) := (hZ8.cell 1).trans rfl
  have z2 : w8.cell? ⟨w.heap.size, 2, none⟩ = some (.int .i64 0) := (hZ8.cell 2).trans rfl
  have f0 := hZ8.frozen 0
  have f1 := hZ8.frozen 1
  have f2 := hZ8.frozen 2
  have c0 : w8.cell? ⟨w1.heap.size + 1, 0, none⟩ = some (.int .i64 1) := (hC8.cell 0).trans rfl
  have c1 : w8.cell? ⟨w1.heap.size + 1, 1, none⟩ = some (.string (letB c)) := (hC8.cell 1).trans rfl
  have c2 : w8.cell? ⟨w1.heap.size + 1, 2, none⟩ = some (.int .i64 (nextB m c)) := (hC8.cell 2).trans rfl
  have hzl8 := hZ8.lt
  have hcl8 := hC8.lt
  clear h8 hO8 hO9 hK8 hF8 hZ8 hC8 hTP hC hBX2 hof hof2
  go_wp2_with fail
  refine bodyPost_ret (v := .tuple #[.agg #[.int .i64 1, .string (letB c), .int .i64 (nextB m c)], .int .i64 0]) (by simp [results, Try.results25, go_sem, z0, z1, z2]) rfl ⟨rfl, ⟨σ8, σ9, H8.out.off HO9.out.1 HO9.out.2 ((((Fr.refl (· = w.heap.size) w8).setCell (.inl rfl) _).setCell (.inl rfl) _).setCell (.inl rfl) _), fun k hk ho ho2 => HO8.out k (by omega) ho ho2⟩, ?_, ((HF8.out.setCell (.inr (Nat.le_refl _)) _).setCell (.inr (Nat.le_refl _)) _).setCell (.inr (Nat.le_refl _)) _⟩
  intro g t cs h1 h2 h3 h4 hB
  have hB8 := HK8.out g t cs h1 h2 h3 h4 hB
  have hne : g ≠ w.heap.size := hB8.ne_ HZ8.out h2
  exact ((hB8.far (p := ⟨w.heap.size, 0, none⟩) hne _).far (p := ⟨w.heap.size, 1, none⟩) hne _).far (p := ⟨w.heap.size, 2, none⟩) hne _
end
end Go.Proofs.Ytlkffnmmphehdaa
