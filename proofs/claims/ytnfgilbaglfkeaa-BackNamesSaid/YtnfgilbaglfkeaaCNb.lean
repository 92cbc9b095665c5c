/-
  For every input BackNames answers true, and leaves its arguments and all that was there as they were. No conditions.
-/
import Derived.Test.YtnfgilbaglfkeaaBa
import Derived.Test.YtnfgilbaglfkeaaBb
import Derived.Test.YtnfgilbaglfkeaaBc
import Derived.Test.YtnfgilbaglfkeaaBd
import Derived.Test.YtnfgilbaglfkeaaBe
import Derived.Test.YtnfgilbaglfkeaaBf
import Derived.Test.YtnfgilbaglfkeaaBg
import Derived.Test.YtnfgilbaglfkeaaBh
import Derived.Test.YtnfgilbaglfkeaaBi
import Derived.Test.YtnfgilbaglfkeaaBj
import Derived.Test.YtnfgilbaglfkeaaBk
import Derived.Test.YtnfgilbaglfkeaaCNa
import Derived.WalkKit
import Derived.WalkSpells
import Derived.WalkLawsBesides
import Derived.Lib.Hide
import Derived.Deep.QuietTactic
import Derived.BigQuiet
import Derived.Deep.RegionHeld3
import Derived.Deep.AppendLies
import Derived.Maps.AppendAt
import Derived.StillTailTactics
import Derived.Maps.RangeWalk
import Derived.ProofKit
import Derived.Carry
import Derived.ChangeSame
import Derived.Deep.Slices
import Derived.Deep.Strs
import Derived.OrdersHeld
import Derived.StillTail
import Derived.RangeFuncNested
import Derived.RangeFuncBound
import Derived.RangeFuncCalls
import Derived.RangeFuncLeaves
import Derived.OrdersIn
import Derived.OwnWalkIn
import Derived.TacticsInMore
import Derived.LoopNIn
import Derived.LoopIn
import Derived.Shelf.Abstract
import Derived.Test.YtnfgilbaglfkeaaRows
import Derived.Lib.Strings
namespace Go.Proofs.Ytnfgilbaglfkeaa
open Go.RowKit Go.Shelf
attribute [local go_sem] Oper.semAt_some
set_option maxRecDepth 100000 in
set_option maxHeartbeats 16000000 in
theorem names_walk (n : Nat) (c : CondT) (A1 A2 A3 : Option Addr) (a1 a2 a3 : Nat) (v : Int) (w : World) (h1 : RowR repTestT (· < w.heap.size) w A1 a1 c.attr) (h2 : RowR repTestT (· < w.heap.size) w A2 a2 c.value) (h3 : RowR (repCondT n) (· < w.heap.size) w A3 a3 c.conds) :
 Calls Try.prog 7 #[.agg #[.int .i64 c.kind, .bool c.goal, .string c.id, .slice A1 c.attr.length a1, .slice A2 c.value.length a2, .bool c.acc, .slice A3 c.conds.length a3], .int .i64 v] w fun e w' => e = .returned (.bool true) ∧ Below w.heap.size w w' := by
 have H1 := Lib.hid h1
 have H2 := Lib.hid h2
 have H3 := Lib.hid h3
 have hac := h3.cap
 clear h1 h2 h3
 go_enter Try.func7, Try.ntmps7
 go_upto_region 1 with fail
 obtain ⟨w1, hw1⟩ : ∃ w1, w1 = (w.alloc (.cells #[.int .i64 c.kind, .bool c.goal, .string c.id, .slice A1 c.attr.length a1, .slice A2 c.value.length a2, .bool c.acc, .slice A3 c.conds.length a3] 60)) := ⟨_, rfl⟩
 rw [← hw1]
 have HB := Lib.hid (show Below w.heap.size w w1 by rw [hw1]; exact (by repeat (first | exact Below.refl _ _ | refine Below.drew ?_ | refine Below.al ?_ _ | refine Below.sc ?_ _)))
 have Kx := Lib.hid (show Blk w1 (w.heap.size) 60 #[.int .i64 c.kind, .bool c.goal, .string c.id, .slice A1 c.attr.length a1, .slice A2 c.value.length a2, .bool c.acc, .slice A3 c.conds.length a3] by rw [hw1]; exact (Blk.new w 60 #[.int .i64 c.kind, .bool c.goal, .string c.id, .slice A1 c.attr.length a1, .slice A2 c.value.length a2, .bool c.acc, .slice A3 c.conds.length a3]))
 clear hw1
 obtain ⟨x0, x1, x2, x3, x4, x5, x6⟩ := Kx.out.c7
 have xz := Kx.out.lt
 obtain ⟨Y1, hY1⟩ : ∃ Y1, Y1 = w1.alloc (.cells #[.int .i64 c.kind, .bool c.goal, .string c.id, .slice A1 c.attr.length a1, .slice A2 c.value.length a2, .bool c.acc, .slice A3 c.conds.length a3] 60) := ⟨_, rfl⟩
 have hb1 : Below w1.heap.size w1 Y1 := by rw [hY1]; exact (Below.refl _ _).alloc (Nat.le_refl _) _
 have HB1 := Lib.hid (HB.out.trans (hb1.mono HB.out.size))
 have HROW1 := Lib.hid (row_cond1 (show Blk Y1 w1.heap.size 60 #[.int .i64 c.kind, .bool c.goal, .string c.id, .slice A1 c.attr.length a1, .slice A2 c.value.length a2, .bool c.acc, .slice A3 c.conds.length a3] by rw [hY1]; exact Blk.new _ _ _) (H1.out.new_ HB1.out) (H2.out.new_ HB1.out) (H3.out.new_ HB1.out))
 have HBK1 := Lib.hid hb1
 have HWE1 := Lib.hid hY1
 clear hY1 hb1
 obtain ⟨s, hs⟩ : ∃ s, s = sizeK 30 (n + 1) 0 [c] := ⟨_, rfl⟩
 have HCS := Lib.hid (show Calls Try.prog 22 #[.slice (some ⟨w1.heap.size, 0, none⟩) 1 1, .int .i64 30, .int .i64 0] Y1 fun e w' => e = .returned (.int .i64 (s : Nat)) ∧ Y1 = w' by rw [hs]; exact size_is 30 (by decide) (n + 1) _ _ _ 0 [c] Y1 HROW1.out (by decide))
 have HS := Lib.hid hs
 clear hs
 cases d1 : decide ((30 : Int) < (s : Int))
 · skip
   have HD1 := Lib.hid (show s ≤ 30 by simp at d1; omega)
   go_wp2_with fail
   rw [← HWE1.out]
   with_reducible refine HCS.out.mono ?_
   rintro e w2 ⟨rfl, rfl⟩
   have Kx := Lib.hid (Kx.out.new_ HBK1.out)
   have HB := HB1
   clear x0 x1 x2 x3 x4 x5 x6 xz 
   obtain ⟨x0, x1, x2, x3, x4, x5, x6⟩ := Kx.out.c7
   have xz := Kx.out.lt
   obtain ⟨Y2, hY2⟩ : ∃ Y2, Y2 = Y1.alloc (.cells #[.int .i64 c.kind, .bool c.goal, .string c.id, .slice A1 c.attr.length a1, .slice A2 c.value.length a2, .bool c.acc, .slice A3 c.conds.length a3] 60) := ⟨_, rfl⟩
   have hb2 : Below Y1.heap.size Y1 Y2 := by rw [hY2]; exact (Below.refl _ _).alloc (Nat.le_refl _) _
   have HB2 := Lib.hid (HB.out.trans (hb2.mono HB.out.size))
   have HROW2 := Lib.hid (row_cond1 (show Blk Y2 Y1.heap.size 60 #[.int .i64 c.kind, .bool c.goal, .string c.id, .slice A1 c.attr.length a1, .slice A2 c.value.length a2, .bool c.acc, .slice A3 c.conds.length a3] by rw [hY2]; exact Blk.new _ _ _) (H1.out.new_ HB2.out) (H2.out.new_ HB2.out) (H3.out.new_ HB2.out))
   have HBK2 := Lib.hid hb2
   have HWE2 := Lib.hid hY2
   clear hY2 hb2
   have HCH := Lib.hid (show Calls Try.prog 23 #[.slice (some ⟨Y1.heap.size, 0, none⟩) 1 1] Y2 fun e w' => e = .returned (.bool (heavyC (n + 1) [c])) ∧ Below Y2.heap.size Y2 w' from heavyConds_is (n + 1) _ _ _ [c] Y2 HROW2.out)
   obtain ⟨hv, hhv⟩ : ∃ hv, hv = heavyC (n + 1) [c] := ⟨_, rfl⟩
   rw [← hhv] at HCH
   have HHV := Lib.hid hhv
   clear hhv
   go_wp2_with fail
   rw [← HWE2.out]
   with_reducible refine HCH.out.mono ?_
   rintro e w3 ⟨rfl, hb3⟩
   have Kx := Lib.hid ((Kx.out.new_ HBK2.out).new_ hb3)
   have HB := Lib.hid (HB2.out.trans (hb3.mono HB2.out.size))
   clear hb3
   clear x0 x1 x2 x3 x4 x5 x6 xz 
   obtain ⟨x0, x1, x2, x3, x4, x5, x6⟩ := Kx.out.c7
   have xz := Kx.out.lt
   cases hv
   · skip
     obtain ⟨xs, hxs⟩ : ∃ xs, xs = namesN (n + 1) c := ⟨_, rfl⟩
     have hxl : xs.length ≤ 630 := by
      have g := names_len30 (n + 1) 0 [c] (by rw [← HS.out]; exact HD1.out) HHV.out.symm
      rw [← HS.out] at g
      have := HD1.out
      simp only [List.flatMap_cons, List.flatMap_nil, List.append_nil] at g
      rw [hxs]; omega
     have HSM := Lib.hid (smc_of30 (n + 1) 0 [c] (by rw [← HS.out]; exact HD1.out) HHV.out.symm c (by simp))
     have HRN := Lib.hid (show ∀ Y, Below w.heap.size w Y → Calls Try.prog 24 #[.agg #[.int .i64 c.kind, .bool c.goal, .string c.id, .slice A1 c.attr.length a1, .slice A2 c.value.length a2, .bool c.acc, .slice A3 c.conds.length a3]] Y (StrsTo Y xs) from fun Y hY => by
      rw [hxs]
      exact rnames_is n c A1 a1 A2 a2 A3 a3 (· < w.heap.size) Y HSM.out (by rw [← hxs]; omega) (H1.out.new_ hY) (H2.out.new_ hY) (H3.out.new_ hY))
     have HXS := Lib.hid hxs
     clear hxs
     go_wp2_with fail
     with_reducible refine (HRN.out _ (by (repeat (first | exact Below.refl _ _ | exact HB.out | refine Below.drew ?_ | refine Below.al ?_ _ | refine Below.sc ?_ _)))).mono ?_
     rintro e w4 ⟨Ar, cr, rfl, hor, _, hb⟩
     have hbs := Below.trans (show Below w3.heap.size w3 _ from (by (repeat (first | exact Below.refl _ _ | refine Below.drew ?_ | refine Below.al ?_ _ | refine Below.sc ?_ _)))) (hb.mono (by simp <;> omega))
     have Kx := Lib.hid (Kx.out.new_ hbs)
     have HB := Lib.hid (HB.out.trans (hbs.mono HB.out.size))
     have hsz4 := hbs.size
     clear x0 x1 x2 x3 x4 x5 x6 xz hb hbs
     obtain ⟨x0, x1, x2, x3, x4, x5, x6⟩ := Kx.out.c7
     have xz := Kx.out.lt
     have HRR := Lib.hid (strs_row rfl hor)
     have hcr := (strs_row rfl hor).1
     have hcm := (strs_row rfl hor).2.1
     clear hor
     obtain ⟨j, hj1, hj2⟩ := within_nat v (n := xs.length + 1) (by omega)
     have hw : ∀ W, Calls Try.prog 15 #[.int .i64 v, .int .i64 ((xs.length : Int) + 1)] W fun e w0 => e = .returned (.int .i64 (j : Int)) ∧ W = w0 := fun W => by
      have := within_is v ((xs.length : Int) + 1) W (by omega)
      rw [show within v ((xs.length : Int) + 1) = (j : Int) by rw [show ((xs.length : Int) + 1) = ((xs.length + 1 : Nat) : Int) by omega]; exact hj1] at this
      exact this
     have HW := Lib.hid hw
     clear hw hj1
     have vw : IntKind.i64.wrap ((xs.length : Int) + 1) = (xs.length : Int) + 1 := IntWalk.i64_in _ (by omega)
     obtain ⟨ys, hys⟩ : ∃ ys, ys = xs.take j := ⟨_, rfl⟩
     have hj : ys.length = j := by rw [hys, List.length_take]; omega
     subst hj
     have HYS := Lib.hid hys
     clear hys
     go_wp2_with fail
     with_reducible refine (HW.out _).mono ?_
     rintro e w0 ⟨rfl, rfl⟩
     go_wp2_with fail
     with_reducible refine (mknames_is c A1 A2 A3 a1 a2 a3 _).mono ?_
     rintro e w5 ⟨rfl, hkb, hb⟩
     have hbs := Below.trans (show Below w4.heap.size w4 _ from (by (repeat (first | exact Below.refl _ _ | refine Below.drew ?_ | refine Below.al ?_ _ | refine Below.sc ?_ _)))) (hb.mono (by simp <;> omega))
     have Kx := Lib.hid (Kx.out.new_ hbs)
     have HRR := Lib.hid (HRR.out.new_ hbs)
     have HB := Lib.hid (HB.out.trans (hbs.mono HB.out.size))
     have hsz5 := hbs.size
     clear x0 x1 x2 x3 x4 x5 x6 xz hb hbs
     obtain ⟨x0, x1, x2, x3, x4, x5, x6⟩ := Kx.out.c7
     have xz := Kx.out.lt
     have HKB := Lib.hid hkb
     have hkl := hkb.lt
     clear hkb vw
     generalize w4.heap.size = kb at HKB hkl ⊢
     have hwn := HB.out.size
     have HITER := Lib.hid (show ∀ W, Below w5.heap.size w5 W → IterO Try.prog 55 #[.pointer (some ⟨kb, 0, none⟩)] encStr xs W (· < w5.heap.size) from fun W hW => by
      rw [HXS.out]
      exact namesI_is n c kb A1 A2 A3 a1 a2 a3 W (HKB.out.new_ hW) hkl (((H1.out.new_ HB.out).weaken (fun k hk => Nat.lt_of_lt_of_le hk hwn)).new_ hW) (((H2.out.new_ HB.out).weaken (fun k hk => Nat.lt_of_lt_of_le hk hwn)).new_ hW) (((H3.out.new_ HB.out).weaken (fun k hk => Nat.lt_of_lt_of_le hk hwn)).new_ hW))
     have hent : ∀ args w, (callFunc 55 args).run Try.prog w = .ok (.enter 55 args) w := fun args w => by kernel_rfl
     have HFI := Lib.hid (show ∀ Y, Below w5.heap.size w5 Y → Calls Try.prog 27 #[.func (.func 55) #[] #[.pointer (some ⟨kb, 0, none⟩)], .int .i64 (ys.length : Int)] Y (StrsTo Y ys) from fun Y hY => by
      have := firstO_is (D := (· < w5.heap.size)) 55 #[.pointer (some ⟨kb, 0, none⟩)] xs Y (ys.length : Int) (fun k hk => Nat.lt_of_lt_of_le hk hY.size) (fun W hW => HITER.out W (hY.trans (hW.mono hY.size))) hent (by omega)
      rw [Int.toNat_natCast, ← HYS.out] at this
      exact this)
     have HLI2 := Lib.hid (show ∀ Y, Below w5.heap.size w5 Y → Calls Try.prog 28 #[.func (.func 55) #[] #[.pointer (some ⟨kb, 0, none⟩)]] Y (StrsTo Y xs) from fun Y hY =>
      listO_is (D := (· < w5.heap.size)) 55 #[.pointer (some ⟨kb, 0, none⟩)] xs Y (fun k hk => Nat.lt_of_lt_of_le hk hY.size) (fun W hW => HITER.out W (hY.trans (hW.mono hY.size))) hent (by omega))
     have hbn : ∀ W, (binOp .neq 66 (.func (.func 55) #[] #[.pointer (some ⟨kb, 0, none⟩)]) .nilFunc).run Try.prog W = .ok (.bool true) W := fun W => by kernel_rfl
     have HTX := Lib.hid (show ∀ (zs : List ByteArray) (Y : World) (Aa Bb : Option Addr) (ca cb : Nat), RowR repStr (fun _ => True) Y Aa ca zs → RowR repStr (fun _ => True) Y Bb cb zs → Calls Try.prog 26 #[.slice Aa zs.length ca, .slice Bb zs.length cb] Y fun e w' => e = .returned (.bool true) ∧ Below Y.heap.size Y w' from fun zs Y Aa Bb ca cb g1 g2 => by
      have := texts_is zs zs Y g1 g2
      simpa using this)
     have hyx : ys.length ≤ xs.length := by omega
     have hsl : ∀ Y, (Instr.slice 63 (.slice Ar xs.length cr) none (some (.int .i64 (ys.length : Int))) none).run Try.prog Y = .ok (.slice Ar ys.length cr) Y := fun Y => by
      have hl0 : (0 : Int) ≤ (ys.length : Int) := by omega
      have hl1 : (ys.length : Int) ≤ (cr : Int) := by omega
      go_simp
     have HYR := Lib.hid (show ∀ Y, Below w5.heap.size w5 Y → RowR repStr (fun _ => True) Y Ar cr ys from fun Y hY => by rw [HYS.out]; exact (HRR.out.new_ hY).prefix_ _)
     have HXR := Lib.hid (show ∀ Y, Below w5.heap.size w5 Y → RowR repStr (fun _ => True) Y Ar cr xs from fun Y hY => HRR.out.new_ hY)
     clear hent hj2
     go_upto_region 6 with fail
     refine wp_region_E (fun w9 => True) [(0, 0), (1, 0), (2, 0), (3, 0), (4, 0), (6, 0), (7, 0), (8, 0), (5, 2), (9, 2), (10, 0), (11, 0), (12, 0), (14, 0), (13, 2), (15, 2), (16, 0), (17, 0), (18, 2), (19, 0), (20, 0)] (by kernel_rfl) (by kernel_rfl) (fun KK hKK => ?_)
     simp only [beside, List.filterMap_cons, List.filterMap_nil, List.getElem?_toArray, List.getElem?_cons_zero, List.getElem?_cons_succ, Option.map_some]
     repeat ((first | (refine wpX_w ?_ (Or.inl ⟨by rfl, fun w9 => ?_⟩) ?_; rotate_left 1; go_simp; with_reducible rfl) | (refine wpX_l ?_ (trivial) (Or.inl ⟨by rfl, fun w9 hw9 => ?_⟩) ?_; rotate_left 1; skip; go_simp; with_reducible rfl) | refine wpX_w undef (Or.inr ⟨by rfl, rfl⟩) ?_ | refine wpX_l undef (trivial) (Or.inr ⟨by rfl, rfl⟩) ?_); go_frame)
     refine wpX_e (by kernel_rfl) (fun K9 hK9 => ?_)
     go_simp
     refine (HFI.out _ (Below.refl _ _).drew).mono ?_
     rintro e w31 ⟨Aa, ca, rfl, hoa, _, hb31⟩
     have HB31 := Lib.hid ((Below.refl w5.heap.size w5).drew.trans (hb31.mono (by simp)))
     have HRA := Lib.hid (strs_row rfl hoa)
     clear hoa
     clear hb31
     refine hK9 _ _ ?_
     clear hK9 K9
     refine wpX_e (by kernel_rfl) (fun K9 hK9 => ?_)
     go_simp
     refine (HTX.out ys _ Aa Ar ca cr HRA.out (HYR.out _ HB31.out)).mono ?_
     rintro e w32 ⟨rfl, hb32⟩
     have HB32 := Lib.hid (HB31.out.trans (hb32.mono HB31.out.size))
     clear hb32
     refine hK9 _ _ ?_
     clear hK9 K9
     repeat ((first | (refine wpX_w ?_ (Or.inl ⟨by rfl, fun w9 => ?_⟩) ?_; rotate_left 1; go_simp; with_reducible rfl) | (refine wpX_l ?_ (trivial) (Or.inl ⟨by rfl, fun w9 hw9 => ?_⟩) ?_; rotate_left 1; skip; go_simp; with_reducible rfl) | refine wpX_w undef (Or.inr ⟨by rfl, rfl⟩) ?_ | refine wpX_l undef (trivial) (Or.inr ⟨by rfl, rfl⟩) ?_); go_frame)
     refine wpX_e (by kernel_rfl) (fun K9 hK9 => ?_)
     go_simp
     refine (HLI2.out _ HB32.out).mono ?_
     rintro e w33 ⟨Ab, cb, rfl, hob, _, hb33⟩
     have HB33 := Lib.hid (HB32.out.trans (hb33.mono HB32.out.size))
     have HRB := Lib.hid (strs_row rfl hob)
     clear hob
     clear hb33
     refine hK9 _ _ ?_
     clear hK9 K9
     refine wpX_e (by kernel_rfl) (fun K9 hK9 => ?_)
     go_simp
     refine (HTX.out xs _ Ab Ar cb cr HRB.out (HXR.out _ HB33.out)).mono ?_
     rintro e w34 ⟨rfl, hb34⟩
     have HB34 := Lib.hid (HB33.out.trans (hb34.mono HB33.out.size))
     clear hb34
     refine hK9 _ _ ?_
     clear hK9 K9
     repeat ((first | (refine wpX_w ?_ (Or.inl ⟨by rfl, fun w9 => ?_⟩) ?_; rotate_left 1; go_simp; with_reducible rfl) | (refine wpX_l ?_ (trivial) (Or.inl ⟨by rfl, fun w9 hw9 => ?_⟩) ?_; rotate_left 1; skip; go_simp; with_reducible rfl) | refine wpX_w undef (Or.inr ⟨by rfl, rfl⟩) ?_ | refine wpX_l undef (trivial) (Or.inr ⟨by rfl, rfl⟩) ?_); go_frame)
     refine wpX_e (by kernel_rfl) (fun K9 hK9 => ?_)
     go_simp
     refine (wakes21_is _).mono ?_
     rintro e w35 ⟨rfl, hb35⟩
     have HB35 := Lib.hid (HB34.out.trans (hb35.mono HB34.out.size))
     clear hb35
     refine hK9 _ _ ?_
     clear hK9 K9
     repeat ((first | (refine wpX_w ?_ (Or.inl ⟨by rfl, fun w9 => ?_⟩) ?_; rotate_left 1; go_simp; with_reducible rfl) | (refine wpX_l ?_ (trivial) (Or.inl ⟨by rfl, fun w9 hw9 => ?_⟩) ?_; rotate_left 1; skip; go_simp; with_reducible rfl) | refine wpX_w undef (Or.inr ⟨by rfl, rfl⟩) ?_ | refine wpX_l undef (trivial) (Or.inr ⟨by rfl, rfl⟩) ?_); go_frame)
     refine wpX_nil ?_
     simp only [OnlyN_normal]
     refine hKK _ _ ?_
     clear hKK KK
     go_wp2_with fail
     go_ret
     exact ⟨rfl, HB.out.trans (HB35.out.mono HB.out.size)⟩
   · skip
     go_wp2_with fail
     with_reducible refine (wakes21_is _).mono ?_
     rintro e w4 ⟨rfl, hb⟩
     have hbs := Below.trans (show Below w3.heap.size w3 _ from (by (repeat (first | exact Below.refl _ _ | refine Below.drew ?_ | refine Below.al ?_ _ | refine Below.sc ?_ _)))) (hb.mono (by simp <;> omega))
     have Kx := Lib.hid (Kx.out.new_ hbs)
     have HB := Lib.hid (HB.out.trans (hbs.mono HB.out.size))
     have hsz4 := hbs.size
     clear x0 x1 x2 x3 x4 x5 x6 xz hb hbs
     obtain ⟨x0, x1, x2, x3, x4, x5, x6⟩ := Kx.out.c7
     have xz := Kx.out.lt
     go_wp2_with fail
     go_ret
     exact ⟨rfl, by (repeat (first | exact Below.refl _ _ | exact HB.out | refine Below.drew ?_ | refine Below.al ?_ _ | refine Below.sc ?_ _))⟩
 · skip
   go_wp2_with fail
   rw [← HWE1.out]
   with_reducible refine HCS.out.mono ?_
   rintro e w2 ⟨rfl, rfl⟩
   have Kx := Lib.hid (Kx.out.new_ HBK1.out)
   have HB := HB1
   clear x0 x1 x2 x3 x4 x5 x6 xz 
   obtain ⟨x0, x1, x2, x3, x4, x5, x6⟩ := Kx.out.c7
   have xz := Kx.out.lt
   go_wp2_with fail
   with_reducible refine (wakes21_is _).mono ?_
   rintro e w2 ⟨rfl, hb⟩
   have hbs := Below.trans (show Below Y1.heap.size Y1 _ from (by (repeat (first | exact Below.refl _ _ | refine Below.drew ?_ | refine Below.al ?_ _ | refine Below.sc ?_ _)))) (hb.mono (by simp <;> omega))
   have Kx := Lib.hid (Kx.out.new_ hbs)
   have HB := Lib.hid (HB.out.trans (hbs.mono HB.out.size))
   have hsz2 := hbs.size
   clear x0 x1 x2 x3 x4 x5 x6 xz hb hbs
   obtain ⟨x0, x1, x2, x3, x4, x5, x6⟩ := Kx.out.c7
   have xz := Kx.out.lt
   go_wp2_with fail
   go_ret
   exact ⟨rfl, by (repeat (first | exact Below.refl _ _ | exact HB.out | refine Below.drew ?_ | refine Below.al ?_ _ | refine Below.sc ?_ _))⟩
end Go.Proofs.Ytnfgilbaglfkeaa
namespace Go.Proofs.Ytnfgilbaglfkeaa
open Go.RowKit Go.ChangeShapes Go.WideShapes Go.Deep
set_option maxRecDepth 100000 in
theorem open_CondT {H : Type} {enc : TypeId × Value → H} {w : World} {r : Reach} {b0 base : Nat} {spare : Nat → Bool} {held : Bool} {v : Value} {d : DataW H} {ps : List MemPlace}
 (hval : Value.okWide Try.prog w r b0 60 v) (h : DataW.Trod enc Try.prog w base spare held 60 v d ps) : ∃ (n : Nat) (c : CondT) (A1 : Option Addr) (a1 : Nat) (A2 : Option Addr) (a2 : Nat) (A3 : Option Addr) (a3 : Nat), v = .agg #[.int .i64 c.kind, .bool c.goal, .string c.id, .slice A1 c.attr.length a1, .slice A2 c.value.length a2, .bool c.acc, .slice A3 c.conds.length a3] ∧
   RowR repTestT (· < w.heap.size) w A1 a1 c.attr ∧ RowR repTestT (· < w.heap.size) w A2 a2 c.value ∧ RowR (repCondT n) (· < w.heap.size) w A3 a3 c.conds := by
 obtain ⟨cs, rfl, _⟩ := okWide_struct Try.underlying60 hval
 obtain ⟨fuel, hf⟩ := h
 obtain ⟨c, hr⟩ := openN_CondT enc w base spare held fuel _ _ hf
 cases fuel with
 | zero => exact hr.elim
 | succ n =>
   obtain ⟨A1, a1, A2, a2, A3, a3, hx, h1, h2, h3⟩ := hr
   refine ⟨n, c, A1, a1, A2, a2, A3, a3, ?_, h1, h2, h3⟩
   simp only [Value.cells] at hx
   have : cs = #[.int .i64 c.kind, .bool c.goal, .string c.id, .slice A1 c.attr.length a1, .slice A2 c.value.length a2, .bool c.acc, .slice A3 c.conds.length a3] := by rw [← Array.toList_inj]; simpa using hx
   rw [this]
end Go.Proofs.Ytnfgilbaglfkeaa
namespace Go.Proofs.Ytnfgilbaglfkeaa
open Go.ChangeShapes Go.WideShapes Go.ChangeAt Go.RowKit Go.Deep
theorem own_names : ownKnob Try.prog.godebug = none := by kernel_rfl
theorem laid_names : laidOutB Try.prog = true := by kernel_rfl
set_option maxRecDepth 100000 in
theorem names_lifted (os : Os) (started : os.Started) (H : Type) (enc : TypeId × Value → H) :
 ReturnsInHanded {} Try.checked os 7 .any (Rows.backNamesSpec.pre6 enc Try.prog Try.f7 Rows.backNamesRow.domain false) (Rows.backNamesSpec.post enc Try.prog Try.f7 false true false false) := by
 refine returnsInHanded_of_change (C := Try.checked) own_names started (by kernel_rfl) Try.func7
  (ChangeSpec.witness6 (enc := enc) (C := Try.checked) false ⟨#[], #[.agg #[.int .i64 0, .bool false, .string ⟨#[]⟩, .slice none 0 0, .slice none 0 0, .bool false, .slice none 0 0], .int .i64 0], []⟩ 8 (by kernel_rfl) (by kernel_rfl) (by kernel_rfl) (by kernel_rfl)) ?_
 intro W base args ds gs before hval0 hW hcnd _
 have hval : ∀ (j : Nat) t v, Try.f7.params[j]? = some t → args[j]? = some v → Value.okWide Try.prog W .any base t v := hval0
 have hW' := hW
 obtain ⟨p, q, hA0, hV, rfl, hfz, hnd⟩ := hW
 have hA : DataW.TrodAll enc Try.prog W 0 (fun _ => true) true Try.f7.params.toList args.toList ds p := hA0
 rw [Try.params7] at hA hval
 obtain ⟨v0, v1, d0, d1, p0, p1, rfl, rfl, rfl, h0, h1⟩ := trodAll_two hA
 obtain ⟨rfl, rfl⟩ := trodVars_none hV
 obtain ⟨m0, x0, A0, a0, B0, b0, C0, e0, rfl, ra0, rb0, rc0⟩ := open_CondT (hval 0 60 v0 rfl rfl) h0
 obtain ⟨n1, rfl, _, _, _⟩ := open_int Try.underlying3 (hval 1 3 v1 rfl rfl) h1
 clear hA0 hval0
 refine (names_walk m0 x0 A0 B0 C0 a0 b0 e0 n1 W ra0 rb0 rc0).mono fun e W' ⟨he, hb⟩ => ?_
 subst he
 exact ⟨_, rfl, post_true (tb := 4) laid_names rfl hW' (by kernel_rfl) Try.underlying4 (fun t ht => by
  have ht' : t ∈ [60, 3] := by
   have e : Try.f7.params.toList = [60, 3] := by rw [Try.params7]
   rwa [e] at ht
  simp only [List.mem_cons, List.not_mem_nil, or_false] at ht'
  rcases ht' with rfl | rfl <;> exact ⟨by kernel_rfl, of_decide_eq_true (by kernel_rfl)⟩) rfl rfl rfl hb⟩
theorem names_holds : Rows.BackNamesSaid :=
 OpenClaim.holds_of_wide 7 Try.f7 rfl rfl rfl rfl rfl rfl rfl ⟨rfl, rfl, rfl, rfl, rfl⟩ rfl rfl rfl rfl rfl (by kernel_rfl) Try.func7 (by kernel_rfl)
  (of_decide_eq_true (by kernel_rfl)) (by unfold Func.isWrapper; first | (rw [if_pos (by decide +kernel)]; kernel_rfl) | (rw [if_neg (by decide +kernel)]; exact ⟨rfl, rfl⟩))
  (fun os started H enc _ => names_lifted os started H enc)
end Go.Proofs.Ytnfgilbaglfkeaa
