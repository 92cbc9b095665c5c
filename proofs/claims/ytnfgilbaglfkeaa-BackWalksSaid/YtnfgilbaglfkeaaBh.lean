/-
  Texts put together: BkGetPgT, BkCopied, BkState, BkWalkP, BkPlain2, BkState2.
-/
import Derived.Test.YtnfgilbaglfkeaaBg
import Derived.Test.YtnfgilbaglfkeaaBc
import Derived.Test.YtnfgilbaglfkeaaBd
import Derived.Test.YtnfgilbaglfkeaaBe
import Derived.Test.YtnfgilbaglfkeaaBf
import Derived.Deep.LoopGhost
import Derived.Maps.RangeWalk
namespace Go.Proofs.Ytnfgilbaglfkeaa
open Go.RowKit
set_option maxRecDepth 100000 in
set_option maxHeartbeats 16000000 in
theorem bkget_no_PgT (bm bp cc : Nat) (sn : Bool) (A : Option Addr) (m : List PgT) (k : Int) (w : World) (hM : Blk w bm 137 #[.pointer (some ⟨bp, 0, none⟩)]) (hS : PgTSet w bp sn A cc m) (hs : Srt cmpPgT m) (hl : (m.length : Int) ≤ 1000000) (hh : has cmpPgT m (zPgT k) = false) :
 Calls Try.prog 42 #[.pointer (some ⟨bm, 0, none⟩), .int .i64 k] w fun e w' => e = .returned (.tuple #[.agg #[.int .i64 0, .string ⟨#[]⟩, .int .i64 0, .int .i64 0, .string ⟨#[]⟩, .int .i64 0, .int .i64 0, .string ⟨#[]⟩, .int .i64 0, .bool false, .bool false, .int .i64 0, .int .i64 0, .int .i64 0], .bool false]) ∧ Below w.heap.size w w' := by
 have s0 := hM.c1
 have hml := hM.lt
 have HS := Lib.hid hS
 have HO := Lib.hid hs
 have HM := Lib.hid hM
 have HH := Lib.hid hh
 clear hS hs hM hh
 go_enter Try.func42, Try.ntmps42
 go_upto_region 4 with (fail)
 obtain ⟨W0, hW0⟩ : ∃ W0, W0 = w.alloc (.cells #[Value.int IntKind.i64 0, Value.string ⟨#[]⟩, Value.int IntKind.i64 0, Value.int IntKind.i64 0, Value.string ⟨#[]⟩, Value.int IntKind.i64 0, Value.int IntKind.i64 0, Value.string ⟨#[]⟩, Value.int IntKind.i64 0, Value.bool false, Value.bool false, Value.int IntKind.i64 0, Value.int IntKind.i64 0, Value.int IntKind.i64 0] 55) := ⟨_, rfl⟩
 have hB0 : Below w.heap.size w W0 := by rw [hW0]; exact (Below.refl _ _).alloc (Nat.le_refl _) _
 have hbx : Blk W0 w.heap.size 55 #[Value.int IntKind.i64 0, Value.string ⟨#[]⟩, Value.int IntKind.i64 0, Value.int IntKind.i64 0, Value.string ⟨#[]⟩, Value.int IntKind.i64 0, Value.int IntKind.i64 0, Value.string ⟨#[]⟩, Value.int IntKind.i64 0, Value.bool false, Value.bool false, Value.int IntKind.i64 0, Value.int IntKind.i64 0, Value.int IntKind.i64 0] := by rw [hW0]; exact Blk.new _ _ _
 have hz0 : w.heap.size < W0.heap.size := hbx.lt
 rw [← hW0]
 clear hW0
 have s1 := (hB0.cell (p := ⟨bm, 0, none⟩) hml).trans s0
 clear s0
 have HS0 := Lib.hid (HS.out.new_ hB0)
 have HX0 := Lib.hid hbx
 have HB0 := Lib.hid hB0
 have hml0 : bm < W0.heap.size := by omega
 clear hB0 hbx HS HM
 go_cut [7, 8] from 11 (fun p b wc => b = .bool false ∧ Below W0.heap.size W0 wc ∧ ∃ g, p = .pointer (some ⟨g, 0, none⟩) ∧ W0.heap.size ≤ g ∧ wc.rangeAt g 0 [Value.int IntKind.i64 0, Value.int IntKind.i64 0, Value.string ⟨#[]⟩, Value.int IntKind.i64 0, Value.int IntKind.i64 0, Value.string ⟨#[]⟩, Value.int IntKind.i64 0, Value.int IntKind.i64 0, Value.string ⟨#[]⟩, Value.int IntKind.i64 0, Value.bool false, Value.bool false, Value.int IntKind.i64 0, Value.int IntKind.i64 0, Value.int IntKind.i64 0])
 case first =>
  refine wp_region_Pl (fun w9 => Below W0.heap.size W0 w9) [0, 1, 2, 3, 4, 7, 8, 9, 12] [3] (.fork [(0, 0), (1, 0), (2, 0), (3, 1), (4, 0)] 5 (.fork [] 6 (.fin [(7, 0), (8, 0), (9, 0), (10, 2), (11, 2), (12, 0)]) 10 (.fin [(6, 2), (7, 0), (8, 0), (9, 0), (11, 2), (12, 0)])) 10 (.fin [(5, 2), (6, 2), (7, 0), (8, 0), (9, 0), (11, 2), (12, 0)])) (by kernel_rfl) (by kernel_rfl) (by kernel_rfl) (fun KK hKK => ?_)
  simp only [wpPl, beside, List.filterMap_cons, List.filterMap_nil, List.getElem?_toArray, List.getElem?_cons_zero, List.getElem?_cons_succ, Option.map_some]
  repeat ((first | (refine wpY_w ?_ (Or.inl ⟨by rfl, fun w9 => ?_⟩) ?_; rotate_left 1; go_simp; with_reducible rfl) | (refine wpY_l ?_ ((Below.refl _ _).drew) (Or.inl ⟨by rfl, fun w9 hw9 => ?_⟩) ?_; rotate_left 1; obtain ⟨hc9, hf9⟩ := bcell hw9; go_simp; with_reducible rfl) | refine wpY_w undef (Or.inr ⟨by rfl, rfl⟩) ?_ | refine wpY_l undef ((Below.refl _ _).drew) (Or.inr ⟨by rfl, rfl⟩) ?_); go_frame)
  refine wpY_nil ⟨?_, ?_⟩
  · refine wpOp_cs rfl (fun K9 hK9 => ?_)
    go_simp
    refine (bkat_PgT k _).mono ?_
    rintro e wa ⟨rfl, hba⟩
    have HBa := Lib.hid (((Below.refl W0.heap.size W0).drew).trans (hba.mono (by first | omega | simp)))
    clear hba
    have hza := HBa.out.size
    refine hK9 _ _ (fun _ => HBa.out) ?_
    clear hK9 K9
    try go_frame
    try simp only [beside, List.filterMap_nil]
    refine wpY_nil ⟨?_, ?_⟩
    · refine wpOp_cs rfl (fun K9 hK9 => ?_)
      go_simp
      refine (get_no_PgT bp cc sn A m (zPgT k) _ (HS0.out.new_ (HBa.out)) HO.out (by omega) HH.out).mono ?_
      rintro e wg ⟨rfl, hbg⟩
      have HBg := Lib.hid ((HBa.out).trans (hbg.mono (by have := HBa.out.size; first | omega | (simp; done) | (simp; omega))))
      clear hbg
      have hzg := HBg.out.size
      refine hK9 _ _ (fun _ => HBg.out) ?_
      clear hK9 K9
      try go_frame
      try simp only [beside, List.filterMap_nil]
      repeat ((first | (refine wpY_w ?_ (Or.inl ⟨by rfl, fun w9 => ?_⟩) ?_; rotate_left 1; go_simp; with_reducible rfl) | (refine wpY_l ?_ (HBg.out) (Or.inl ⟨by rfl, fun w9 hw9 => ?_⟩) ?_; rotate_left 1; obtain ⟨hc9, hf9⟩ := bcell hw9; go_simp; with_reducible rfl) | refine wpY_w undef (Or.inr ⟨by rfl, rfl⟩) ?_ | refine wpY_l undef (HBg.out) (Or.inr ⟨by rfl, rfl⟩) ?_); go_frame)
      refine wpY_es (fun K9 hK9 => ?_)
      go_simp
      have hB9 := (HBg.out).alloc (by have := HBg.out.size; first | omega | (simp; done) | (simp; omega)) (.cells #[Value.int IntKind.i64 0, Value.int IntKind.i64 0, Value.string ⟨#[]⟩, Value.int IntKind.i64 0, Value.int IntKind.i64 0, Value.string ⟨#[]⟩, Value.int IntKind.i64 0, Value.int IntKind.i64 0, Value.string ⟨#[]⟩, Value.int IntKind.i64 0, Value.bool false, Value.bool false, Value.int IntKind.i64 0, Value.int IntKind.i64 0, Value.int IntKind.i64 0] 135)
      have HB9 := Lib.hid hB9
      have hk9 : Blk (wg.alloc (.cells #[Value.int IntKind.i64 0, Value.int IntKind.i64 0, Value.string ⟨#[]⟩, Value.int IntKind.i64 0, Value.int IntKind.i64 0, Value.string ⟨#[]⟩, Value.int IntKind.i64 0, Value.int IntKind.i64 0, Value.string ⟨#[]⟩, Value.int IntKind.i64 0, Value.bool false, Value.bool false, Value.int IntKind.i64 0, Value.int IntKind.i64 0, Value.int IntKind.i64 0] 135)) wg.heap.size 135 #[Value.int IntKind.i64 0, Value.int IntKind.i64 0, Value.string ⟨#[]⟩, Value.int IntKind.i64 0, Value.int IntKind.i64 0, Value.string ⟨#[]⟩, Value.int IntKind.i64 0, Value.int IntKind.i64 0, Value.string ⟨#[]⟩, Value.int IntKind.i64 0, Value.bool false, Value.bool false, Value.int IntKind.i64 0, Value.int IntKind.i64 0, Value.int IntKind.i64 0] := Blk.new wg 135 #[Value.int IntKind.i64 0, Value.int IntKind.i64 0, Value.string ⟨#[]⟩, Value.int IntKind.i64 0, Value.int IntKind.i64 0, Value.string ⟨#[]⟩, Value.int IntKind.i64 0, Value.int IntKind.i64 0, Value.string ⟨#[]⟩, Value.int IntKind.i64 0, Value.bool false, Value.bool false, Value.int IntKind.i64 0, Value.int IntKind.i64 0, Value.int IntKind.i64 0]
      have HK9 := Lib.hid hk9
      clear hB9 hk9
      have hz9 := HB9.out.size
      refine hK9 _ _ (HB9.out) ?_
      clear hK9 K9
      try go_frame
      refine wpY_es (fun K9 hK9 => ?_)
      refine step_store_el rfl 135 _ _ rfl wg.heap.size 0 #[Value.int IntKind.i64 0, Value.int IntKind.i64 0, Value.string ⟨#[]⟩, Value.int IntKind.i64 0, Value.int IntKind.i64 0, Value.string ⟨#[]⟩, Value.int IntKind.i64 0, Value.int IntKind.i64 0, Value.string ⟨#[]⟩, Value.int IntKind.i64 0, Value.bool false, Value.bool false, Value.int IntKind.i64 0, Value.int IntKind.i64 0, Value.int IntKind.i64 0] rfl rfl (show _ from (HK9.out).there) (by kernel_rfl) (by kernel_rfl) ?_
      refine hK9 _ _ (Below.setCells' _ _ (HB9.out) (by have := (HB9.out).size; first | omega | (simp; done) | (simp; omega))) ?_
      clear hK9 K9
      try go_frame
      repeat ((first | (refine wpY_w ?_ (Or.inl ⟨by rfl, fun w9 => ?_⟩) ?_; rotate_left 1; go_simp; with_reducible rfl) | (refine wpY_l ?_ (Below.setCells' _ _ (HB9.out) (by have := (HB9.out).size; first | omega | (simp; done) | (simp; omega))) (Or.inl ⟨by rfl, fun w9 hw9 => ?_⟩) ?_; rotate_left 1; obtain ⟨hc9, hf9⟩ := bcell hw9; go_simp; with_reducible rfl) | refine wpY_w undef (Or.inr ⟨by rfl, rfl⟩) ?_ | refine wpY_l undef (Below.setCells' _ _ (HB9.out) (by have := (HB9.out).size; first | omega | (simp; done) | (simp; omega))) (Or.inr ⟨by rfl, rfl⟩) ?_); go_frame)
      refine wpY_nil ?_
      simp only [OnlyN_normal]
      refine hKK _ _ ?_
      clear hKK KK
      go_wp2_with fail
      go_meet
      case rel => exact ⟨rfl, Below.setCells' _ _ (HB9.out) (by have := (HB9.out).size; first | omega | (simp; done) | (simp; omega)), _, rfl, by first | exact hzg | exact hza | omega | simp, World.rangeAt_setCells_same _ _ 0 [Value.int IntKind.i64 0, Value.int IntKind.i64 0, Value.string ⟨#[]⟩, Value.int IntKind.i64 0, Value.int IntKind.i64 0, Value.string ⟨#[]⟩, Value.int IntKind.i64 0, Value.int IntKind.i64 0, Value.string ⟨#[]⟩, Value.int IntKind.i64 0, Value.bool false, Value.bool false, Value.int IntKind.i64 0, Value.int IntKind.i64 0, Value.int IntKind.i64 0] (show _ from (HK9.out).there)⟩
    · refine wpOp_cs rfl (fun K9 hK9 => ?_)
      go_simp
      have hB9 := (HBa.out).alloc (by have := HBa.out.size; first | omega | (simp; done) | (simp; omega)) (.cells #[Value.int IntKind.i64 0, Value.int IntKind.i64 0, Value.string ⟨#[]⟩, Value.int IntKind.i64 0, Value.int IntKind.i64 0, Value.string ⟨#[]⟩, Value.int IntKind.i64 0, Value.int IntKind.i64 0, Value.string ⟨#[]⟩, Value.int IntKind.i64 0, Value.bool false, Value.bool false, Value.int IntKind.i64 0, Value.int IntKind.i64 0, Value.int IntKind.i64 0] 135)
      have HB9 := Lib.hid hB9
      have hk9 : Blk (wa.alloc (.cells #[Value.int IntKind.i64 0, Value.int IntKind.i64 0, Value.string ⟨#[]⟩, Value.int IntKind.i64 0, Value.int IntKind.i64 0, Value.string ⟨#[]⟩, Value.int IntKind.i64 0, Value.int IntKind.i64 0, Value.string ⟨#[]⟩, Value.int IntKind.i64 0, Value.bool false, Value.bool false, Value.int IntKind.i64 0, Value.int IntKind.i64 0, Value.int IntKind.i64 0] 135)) wa.heap.size 135 #[Value.int IntKind.i64 0, Value.int IntKind.i64 0, Value.string ⟨#[]⟩, Value.int IntKind.i64 0, Value.int IntKind.i64 0, Value.string ⟨#[]⟩, Value.int IntKind.i64 0, Value.int IntKind.i64 0, Value.string ⟨#[]⟩, Value.int IntKind.i64 0, Value.bool false, Value.bool false, Value.int IntKind.i64 0, Value.int IntKind.i64 0, Value.int IntKind.i64 0] := Blk.new wa 135 #[Value.int IntKind.i64 0, Value.int IntKind.i64 0, Value.string ⟨#[]⟩, Value.int IntKind.i64 0, Value.int IntKind.i64 0, Value.string ⟨#[]⟩, Value.int IntKind.i64 0, Value.int IntKind.i64 0, Value.string ⟨#[]⟩, Value.int IntKind.i64 0, Value.bool false, Value.bool false, Value.int IntKind.i64 0, Value.int IntKind.i64 0, Value.int IntKind.i64 0]
      have HK9 := Lib.hid hk9
      clear hB9 hk9
      have hz9 := HB9.out.size
      refine hK9 _ _ (fun _ => HB9.out) ?_
      clear hK9 K9
      try go_frame
      try simp only [beside, List.filterMap_nil]
      refine wpY_es (fun K9 hK9 => ?_)
      go_simp
      refine (get_no_PgT bp cc sn A m (zPgT k) _ (HS0.out.new_ (HB9.out)) HO.out (by omega) HH.out).mono ?_
      rintro e wg ⟨rfl, hbg⟩
      have HBg := Lib.hid ((HB9.out).trans (hbg.mono (by have := HB9.out.size; first | omega | (simp at this ⊢; done) | (simp at this ⊢; omega))))
      have HKg := Lib.hid ((HK9.out).new_ hbg)
      clear hbg
      have hzg := HBg.out.size
      refine hK9 _ _ (HBg.out) ?_
      clear hK9 K9
      try go_frame
      repeat ((first | (refine wpY_w ?_ (Or.inl ⟨by rfl, fun w9 => ?_⟩) ?_; rotate_left 1; go_simp; with_reducible rfl) | (refine wpY_l ?_ (HBg.out) (Or.inl ⟨by rfl, fun w9 hw9 => ?_⟩) ?_; rotate_left 1; obtain ⟨hc9, hf9⟩ := bcell hw9; go_simp; with_reducible rfl) | refine wpY_w undef (Or.inr ⟨by rfl, rfl⟩) ?_ | refine wpY_l undef (HBg.out) (Or.inr ⟨by rfl, rfl⟩) ?_); go_frame)
      refine wpY_es (fun K9 hK9 => ?_)
      refine step_store_el rfl 135 _ _ rfl wa.heap.size 0 #[Value.int IntKind.i64 0, Value.int IntKind.i64 0, Value.string ⟨#[]⟩, Value.int IntKind.i64 0, Value.int IntKind.i64 0, Value.string ⟨#[]⟩, Value.int IntKind.i64 0, Value.int IntKind.i64 0, Value.string ⟨#[]⟩, Value.int IntKind.i64 0, Value.bool false, Value.bool false, Value.int IntKind.i64 0, Value.int IntKind.i64 0, Value.int IntKind.i64 0] rfl rfl (show _ from (HKg.out).there) (by kernel_rfl) (by kernel_rfl) ?_
      refine hK9 _ _ (Below.setCells' _ _ (HBg.out) (by have := (HBg.out).size; first | omega | (simp; done) | (simp; omega))) ?_
      clear hK9 K9
      try go_frame
      repeat ((first | (refine wpY_w ?_ (Or.inl ⟨by rfl, fun w9 => ?_⟩) ?_; rotate_left 1; go_simp; with_reducible rfl) | (refine wpY_l ?_ (Below.setCells' _ _ (HBg.out) (by have := (HBg.out).size; first | omega | (simp; done) | (simp; omega))) (Or.inl ⟨by rfl, fun w9 hw9 => ?_⟩) ?_; rotate_left 1; obtain ⟨hc9, hf9⟩ := bcell hw9; go_simp; with_reducible rfl) | refine wpY_w undef (Or.inr ⟨by rfl, rfl⟩) ?_ | refine wpY_l undef (Below.setCells' _ _ (HBg.out) (by have := (HBg.out).size; first | omega | (simp; done) | (simp; omega))) (Or.inr ⟨by rfl, rfl⟩) ?_); go_frame)
      refine wpY_nil ?_
      simp only [OnlyN_normal]
      refine hKK _ _ ?_
      clear hKK KK
      go_wp2_with fail
      go_meet
      case rel => exact ⟨rfl, Below.setCells' _ _ (HBg.out) (by have := (HBg.out).size; first | omega | (simp; done) | (simp; omega)), _, rfl, by first | exact hzg | exact hza | omega | simp, World.rangeAt_setCells_same _ _ 0 [Value.int IntKind.i64 0, Value.int IntKind.i64 0, Value.string ⟨#[]⟩, Value.int IntKind.i64 0, Value.int IntKind.i64 0, Value.string ⟨#[]⟩, Value.int IntKind.i64 0, Value.int IntKind.i64 0, Value.string ⟨#[]⟩, Value.int IntKind.i64 0, Value.bool false, Value.bool false, Value.int IntKind.i64 0, Value.int IntKind.i64 0, Value.int IntKind.i64 0] (show _ from (HKg.out).there)⟩
  · refine wpOp_cs rfl (fun K9 hK9 => ?_)
    go_simp
    have hB9 := ((Below.refl W0.heap.size W0).drew).alloc (by first | omega | simp) (.cells #[Value.int IntKind.i64 0, Value.int IntKind.i64 0, Value.string ⟨#[]⟩, Value.int IntKind.i64 0, Value.int IntKind.i64 0, Value.string ⟨#[]⟩, Value.int IntKind.i64 0, Value.int IntKind.i64 0, Value.string ⟨#[]⟩, Value.int IntKind.i64 0, Value.bool false, Value.bool false, Value.int IntKind.i64 0, Value.int IntKind.i64 0, Value.int IntKind.i64 0] 135)
    have HB9 := Lib.hid hB9
    have hk9 : Blk (W0.drew.alloc (.cells #[Value.int IntKind.i64 0, Value.int IntKind.i64 0, Value.string ⟨#[]⟩, Value.int IntKind.i64 0, Value.int IntKind.i64 0, Value.string ⟨#[]⟩, Value.int IntKind.i64 0, Value.int IntKind.i64 0, Value.string ⟨#[]⟩, Value.int IntKind.i64 0, Value.bool false, Value.bool false, Value.int IntKind.i64 0, Value.int IntKind.i64 0, Value.int IntKind.i64 0] 135)) W0.heap.size 135 #[Value.int IntKind.i64 0, Value.int IntKind.i64 0, Value.string ⟨#[]⟩, Value.int IntKind.i64 0, Value.int IntKind.i64 0, Value.string ⟨#[]⟩, Value.int IntKind.i64 0, Value.int IntKind.i64 0, Value.string ⟨#[]⟩, Value.int IntKind.i64 0, Value.bool false, Value.bool false, Value.int IntKind.i64 0, Value.int IntKind.i64 0, Value.int IntKind.i64 0] := Blk.new W0.drew 135 #[Value.int IntKind.i64 0, Value.int IntKind.i64 0, Value.string ⟨#[]⟩, Value.int IntKind.i64 0, Value.int IntKind.i64 0, Value.string ⟨#[]⟩, Value.int IntKind.i64 0, Value.int IntKind.i64 0, Value.string ⟨#[]⟩, Value.int IntKind.i64 0, Value.bool false, Value.bool false, Value.int IntKind.i64 0, Value.int IntKind.i64 0, Value.int IntKind.i64 0]
    have HK9 := Lib.hid hk9
    clear hB9 hk9
    have hz9 := HB9.out.size
    refine hK9 _ _ (fun _ => HB9.out) ?_
    clear hK9 K9
    try go_frame
    try simp only [beside, List.filterMap_nil]
    refine wpY_es (fun K9 hK9 => ?_)
    go_simp
    refine (bkat_PgT k _).mono ?_
    rintro e wa ⟨rfl, hba⟩
    have HBa := Lib.hid ((HB9.out).trans (hba.mono (by have := HB9.out.size; first | omega | (simp at this ⊢; done) | (simp at this ⊢; omega))))
    have HKa := Lib.hid ((HK9.out).new_ hba)
    clear hba
    have hza := HBa.out.size
    refine hK9 _ _ (HBa.out) ?_
    clear hK9 K9
    try go_frame
    refine wpY_es (fun K9 hK9 => ?_)
    go_simp
    refine (get_no_PgT bp cc sn A m (zPgT k) _ (HS0.out.new_ (HBa.out)) HO.out (by omega) HH.out).mono ?_
    rintro e wg ⟨rfl, hbg⟩
    have HBg := Lib.hid ((HBa.out).trans (hbg.mono (by have := HBa.out.size; first | omega | (simp; done) | (simp; omega))))
    have HKg := Lib.hid ((HKa.out).new_ hbg)
    clear hbg
    have hzg := HBg.out.size
    refine hK9 _ _ (HBg.out) ?_
    clear hK9 K9
    try go_frame
    repeat ((first | (refine wpY_w ?_ (Or.inl ⟨by rfl, fun w9 => ?_⟩) ?_; rotate_left 1; go_simp; with_reducible rfl) | (refine wpY_l ?_ (HBg.out) (Or.inl ⟨by rfl, fun w9 hw9 => ?_⟩) ?_; rotate_left 1; obtain ⟨hc9, hf9⟩ := bcell hw9; go_simp; with_reducible rfl) | refine wpY_w undef (Or.inr ⟨by rfl, rfl⟩) ?_ | refine wpY_l undef (HBg.out) (Or.inr ⟨by rfl, rfl⟩) ?_); go_frame)
    refine wpY_es (fun K9 hK9 => ?_)
    refine step_store_el rfl 135 _ _ rfl W0.heap.size 0 #[Value.int IntKind.i64 0, Value.int IntKind.i64 0, Value.string ⟨#[]⟩, Value.int IntKind.i64 0, Value.int IntKind.i64 0, Value.string ⟨#[]⟩, Value.int IntKind.i64 0, Value.int IntKind.i64 0, Value.string ⟨#[]⟩, Value.int IntKind.i64 0, Value.bool false, Value.bool false, Value.int IntKind.i64 0, Value.int IntKind.i64 0, Value.int IntKind.i64 0] rfl rfl (show _ from (HKg.out).there) (by kernel_rfl) (by kernel_rfl) ?_
    refine hK9 _ _ (Below.setCells' _ _ (HBg.out) (by have := (HBg.out).size; first | omega | (simp; done) | (simp; omega))) ?_
    clear hK9 K9
    try go_frame
    repeat ((first | (refine wpY_w ?_ (Or.inl ⟨by rfl, fun w9 => ?_⟩) ?_; rotate_left 1; go_simp; with_reducible rfl) | (refine wpY_l ?_ (Below.setCells' _ _ (HBg.out) (by have := (HBg.out).size; first | omega | (simp; done) | (simp; omega))) (Or.inl ⟨by rfl, fun w9 hw9 => ?_⟩) ?_; rotate_left 1; obtain ⟨hc9, hf9⟩ := bcell hw9; go_simp; with_reducible rfl) | refine wpY_w undef (Or.inr ⟨by rfl, rfl⟩) ?_ | refine wpY_l undef (Below.setCells' _ _ (HBg.out) (by have := (HBg.out).size; first | omega | (simp; done) | (simp; omega))) (Or.inr ⟨by rfl, rfl⟩) ?_); go_frame)
    refine wpY_nil ?_
    simp only [OnlyN_normal]
    refine hKK _ _ ?_
    clear hKK KK
    go_wp2_with fail
    go_meet
    case rel => exact ⟨rfl, Below.setCells' _ _ (HBg.out) (by have := (HBg.out).size; first | omega | (simp; done) | (simp; omega)), _, rfl, by first | exact hzg | exact hza | omega | simp, World.rangeAt_setCells_same _ _ 0 [Value.int IntKind.i64 0, Value.int IntKind.i64 0, Value.string ⟨#[]⟩, Value.int IntKind.i64 0, Value.int IntKind.i64 0, Value.string ⟨#[]⟩, Value.int IntKind.i64 0, Value.int IntKind.i64 0, Value.string ⟨#[]⟩, Value.int IntKind.i64 0, Value.bool false, Value.bool false, Value.int IntKind.i64 0, Value.int IntKind.i64 0, Value.int IntKind.i64 0] (show _ from (HKg.out).there)⟩
 case rest =>
  obtain ⟨rfl, hB, g, rfl, hg, hr⟩ := hcut
  have HB := Lib.hid hB
  have hr2 : wc.rangeAt g 1 [Value.int IntKind.i64 0, Value.string ⟨#[]⟩, Value.int IntKind.i64 0, Value.int IntKind.i64 0, Value.string ⟨#[]⟩, Value.int IntKind.i64 0, Value.int IntKind.i64 0, Value.string ⟨#[]⟩, Value.int IntKind.i64 0, Value.bool false, Value.bool false, Value.int IntKind.i64 0, Value.int IntKind.i64 0, Value.int IntKind.i64 0] := fun j v hv => by
   have := hr (j + 1) v (by simpa using hv)
   rwa [show 0 + (j + 1) = 1 + j by omega] at this
  have HR := Lib.hid hr2
  have HT := Lib.hid (show wc.there w.heap.size 0 (#[Value.int IntKind.i64 0, Value.string ⟨#[]⟩, Value.int IntKind.i64 0, Value.int IntKind.i64 0, Value.string ⟨#[]⟩, Value.int IntKind.i64 0, Value.int IntKind.i64 0, Value.string ⟨#[]⟩, Value.int IntKind.i64 0, Value.bool false, Value.bool false, Value.int IntKind.i64 0, Value.int IntKind.i64 0, Value.int IntKind.i64 0] : Array Value).size from (HX0.out.new_ hB).there)
  clear hB hr hr2 s1
  go_wp2_with (first | (with_reducible refine wpList_load_mid rfl 55 _ rfl g 1 rfl [Value.int IntKind.i64 0, Value.string ⟨#[]⟩, Value.int IntKind.i64 0, Value.int IntKind.i64 0, Value.string ⟨#[]⟩, Value.int IntKind.i64 0, Value.int IntKind.i64 0, Value.string ⟨#[]⟩, Value.int IntKind.i64 0, Value.bool false, Value.bool false, Value.int IntKind.i64 0, Value.int IntKind.i64 0, Value.int IntKind.i64 0] _ HR.out Try.underlying55 rfl (by kernel_rfl) ?_) | (with_reducible refine wpList_store_mid rfl 55 _ _ rfl w.heap.size 0 #[Value.int IntKind.i64 0, Value.string ⟨#[]⟩, Value.int IntKind.i64 0, Value.int IntKind.i64 0, Value.string ⟨#[]⟩, Value.int IntKind.i64 0, Value.int IntKind.i64 0, Value.string ⟨#[]⟩, Value.int IntKind.i64 0, Value.bool false, Value.bool false, Value.int IntKind.i64 0, Value.int IntKind.i64 0, Value.int IntKind.i64 0] rfl rfl HT.out (by kernel_rfl) (by kernel_rfl) ?_))
  try simp only [Exit.inBlock, Exit.then]
  refine bodyPost_ret (v := .tuple #[.agg #[.int .i64 0, .string ⟨#[]⟩, .int .i64 0, .int .i64 0, .string ⟨#[]⟩, .int .i64 0, .int .i64 0, .string ⟨#[]⟩, .int .i64 0, .bool false, .bool false, .int .i64 0, .int .i64 0, .int .i64 0], .bool false]) ?_ rfl ⟨rfl, Below.setCells' _ _ (HB0.out.trans (HB.out.mono (by omega))) (by omega)⟩
  exact results_cell_tmp (t := 4) (s := 5) (T := 55) rfl _ _ w.heap.size [Value.int IntKind.i64 0, Value.string ⟨#[]⟩, Value.int IntKind.i64 0, Value.int IntKind.i64 0, Value.string ⟨#[]⟩, Value.int IntKind.i64 0, Value.int IntKind.i64 0, Value.string ⟨#[]⟩, Value.int IntKind.i64 0, Value.bool false, Value.bool false, Value.int IntKind.i64 0, Value.int IntKind.i64 0, Value.int IntKind.i64 0] _ rfl (World.rangeAt_setCells_same wc w.heap.size 0 [Value.int IntKind.i64 0, Value.string ⟨#[]⟩, Value.int IntKind.i64 0, Value.int IntKind.i64 0, Value.string ⟨#[]⟩, Value.int IntKind.i64 0, Value.int IntKind.i64 0, Value.string ⟨#[]⟩, Value.int IntKind.i64 0, Value.bool false, Value.bool false, Value.int IntKind.i64 0, Value.int IntKind.i64 0, Value.int IntKind.i64 0] HT.out) Try.underlying55 rfl (by kernel_rfl)
set_option maxRecDepth 100000 in
set_option maxHeartbeats 16000000 in
theorem bkget_is_PgT (bm bp cc : Nat) (sn : Bool) (A : Option Addr) (m : List PgT) (k : Int) (y : PgT) (w : World) (hM : Blk w bm 137 #[.pointer (some ⟨bp, 0, none⟩)]) (hS : PgTSet w bp sn A cc m) (hs : Srt cmpPgT m) (hl : (m.length : Int) ≤ 1000000) (hh : has cmpPgT m (zPgT k) = true) (hy : m[rank cmpPgT m (zPgT k)]? = some y) :
 Calls Try.prog 42 #[.pointer (some ⟨bm, 0, none⟩), .int .i64 k] w fun e w' => e = .returned (.tuple #[.agg #[.int .i64 y.tr.elem.id.kind, .string y.tr.elem.id.text, .int .i64 y.tr.elem.id.n, .int .i64 y.tr.elem.attr.kind, .string y.tr.elem.attr.text, .int .i64 y.tr.elem.attr.n, .int .i64 y.tr.elem.value.kind, .string y.tr.elem.value.text, .int .i64 y.tr.elem.value.n, .bool y.tr.elem.acc, .bool y.tr.elem.goal, .int .i64 y.tr.elem.tag, .int .i64 y.tr.level, .int .i64 y.tr.cause], .bool true]) ∧ Below w.heap.size w w' := by
 have s0 := hM.c1
 have hml := hM.lt
 have HS := Lib.hid hS
 have HO := Lib.hid hs
 have HM := Lib.hid hM
 have HH := Lib.hid hh
 have HY := Lib.hid hy
 clear hy
 clear hS hs hM hh
 go_enter Try.func42, Try.ntmps42
 go_upto_region 4 with (fail)
 obtain ⟨W0, hW0⟩ : ∃ W0, W0 = w.alloc (.cells #[Value.int IntKind.i64 0, Value.string ⟨#[]⟩, Value.int IntKind.i64 0, Value.int IntKind.i64 0, Value.string ⟨#[]⟩, Value.int IntKind.i64 0, Value.int IntKind.i64 0, Value.string ⟨#[]⟩, Value.int IntKind.i64 0, Value.bool false, Value.bool false, Value.int IntKind.i64 0, Value.int IntKind.i64 0, Value.int IntKind.i64 0] 55) := ⟨_, rfl⟩
 have hB0 : Below w.heap.size w W0 := by rw [hW0]; exact (Below.refl _ _).alloc (Nat.le_refl _) _
 have hbx : Blk W0 w.heap.size 55 #[Value.int IntKind.i64 0, Value.string ⟨#[]⟩, Value.int IntKind.i64 0, Value.int IntKind.i64 0, Value.string ⟨#[]⟩, Value.int IntKind.i64 0, Value.int IntKind.i64 0, Value.string ⟨#[]⟩, Value.int IntKind.i64 0, Value.bool false, Value.bool false, Value.int IntKind.i64 0, Value.int IntKind.i64 0, Value.int IntKind.i64 0] := by rw [hW0]; exact Blk.new _ _ _
 have hz0 : w.heap.size < W0.heap.size := hbx.lt
 rw [← hW0]
 clear hW0
 have s1 := (hB0.cell (p := ⟨bm, 0, none⟩) hml).trans s0
 clear s0
 have HS0 := Lib.hid (HS.out.new_ hB0)
 have HX0 := Lib.hid hbx
 have HB0 := Lib.hid hB0
 have hml0 : bm < W0.heap.size := by omega
 clear hB0 hbx HS HM
 go_cut [7, 8] from 11 (fun p b wc => b = .bool true ∧ Below W0.heap.size W0 wc ∧ ∃ g, p = .pointer (some ⟨g, 0, none⟩) ∧ W0.heap.size ≤ g ∧ wc.rangeAt g 0 [Value.int IntKind.i64 y.kk, Value.int IntKind.i64 y.tr.elem.id.kind, Value.string y.tr.elem.id.text, Value.int IntKind.i64 y.tr.elem.id.n, Value.int IntKind.i64 y.tr.elem.attr.kind, Value.string y.tr.elem.attr.text, Value.int IntKind.i64 y.tr.elem.attr.n, Value.int IntKind.i64 y.tr.elem.value.kind, Value.string y.tr.elem.value.text, Value.int IntKind.i64 y.tr.elem.value.n, Value.bool y.tr.elem.acc, Value.bool y.tr.elem.goal, Value.int IntKind.i64 y.tr.elem.tag, Value.int IntKind.i64 y.tr.level, Value.int IntKind.i64 y.tr.cause])
 case first =>
  refine wp_region_Pl (fun w9 => Below W0.heap.size W0 w9) [0, 1, 2, 3, 4, 7, 8, 9, 12] [3] (.fork [(0, 0), (1, 0), (2, 0), (3, 1), (4, 0)] 5 (.fork [] 6 (.fin [(7, 0), (8, 0), (9, 0), (10, 2), (11, 2), (12, 0)]) 10 (.fin [(6, 2), (7, 0), (8, 0), (9, 0), (11, 2), (12, 0)])) 10 (.fin [(5, 2), (6, 2), (7, 0), (8, 0), (9, 0), (11, 2), (12, 0)])) (by kernel_rfl) (by kernel_rfl) (by kernel_rfl) (fun KK hKK => ?_)
  simp only [wpPl, beside, List.filterMap_cons, List.filterMap_nil, List.getElem?_toArray, List.getElem?_cons_zero, List.getElem?_cons_succ, Option.map_some]
  repeat ((first | (refine wpY_w ?_ (Or.inl ⟨by rfl, fun w9 => ?_⟩) ?_; rotate_left 1; go_simp; with_reducible rfl) | (refine wpY_l ?_ ((Below.refl _ _).drew) (Or.inl ⟨by rfl, fun w9 hw9 => ?_⟩) ?_; rotate_left 1; obtain ⟨hc9, hf9⟩ := bcell hw9; go_simp; with_reducible rfl) | refine wpY_w undef (Or.inr ⟨by rfl, rfl⟩) ?_ | refine wpY_l undef ((Below.refl _ _).drew) (Or.inr ⟨by rfl, rfl⟩) ?_); go_frame)
  refine wpY_nil ⟨?_, ?_⟩
  · refine wpOp_cs rfl (fun K9 hK9 => ?_)
    go_simp
    refine (bkat_PgT k _).mono ?_
    rintro e wa ⟨rfl, hba⟩
    have HBa := Lib.hid (((Below.refl W0.heap.size W0).drew).trans (hba.mono (by first | omega | simp)))
    clear hba
    have hza := HBa.out.size
    refine hK9 _ _ (fun _ => HBa.out) ?_
    clear hK9 K9
    try go_frame
    try simp only [beside, List.filterMap_nil]
    refine wpY_nil ⟨?_, ?_⟩
    · refine wpOp_cs rfl (fun K9 hK9 => ?_)
      go_simp
      refine (get_is_PgT bp cc sn A m (zPgT k) y _ (HS0.out.new_ (HBa.out)) HO.out (by omega) HH.out HY.out).mono ?_
      rintro e wg ⟨rfl, hbg⟩
      have HBg := Lib.hid ((HBa.out).trans (hbg.mono (by have := HBa.out.size; first | omega | (simp; done) | (simp; omega))))
      clear hbg
      have hzg := HBg.out.size
      refine hK9 _ _ (fun _ => HBg.out) ?_
      clear hK9 K9
      try go_frame
      try simp only [beside, List.filterMap_nil]
      repeat ((first | (refine wpY_w ?_ (Or.inl ⟨by rfl, fun w9 => ?_⟩) ?_; rotate_left 1; go_simp; with_reducible rfl) | (refine wpY_l ?_ (HBg.out) (Or.inl ⟨by rfl, fun w9 hw9 => ?_⟩) ?_; rotate_left 1; obtain ⟨hc9, hf9⟩ := bcell hw9; go_simp; with_reducible rfl) | refine wpY_w undef (Or.inr ⟨by rfl, rfl⟩) ?_ | refine wpY_l undef (HBg.out) (Or.inr ⟨by rfl, rfl⟩) ?_); go_frame)
      refine wpY_es (fun K9 hK9 => ?_)
      go_simp
      have hB9 := (HBg.out).alloc (by have := HBg.out.size; first | omega | (simp; done) | (simp; omega)) (.cells #[Value.int IntKind.i64 0, Value.int IntKind.i64 0, Value.string ⟨#[]⟩, Value.int IntKind.i64 0, Value.int IntKind.i64 0, Value.string ⟨#[]⟩, Value.int IntKind.i64 0, Value.int IntKind.i64 0, Value.string ⟨#[]⟩, Value.int IntKind.i64 0, Value.bool false, Value.bool false, Value.int IntKind.i64 0, Value.int IntKind.i64 0, Value.int IntKind.i64 0] 135)
      have HB9 := Lib.hid hB9
      have hk9 : Blk (wg.alloc (.cells #[Value.int IntKind.i64 0, Value.int IntKind.i64 0, Value.string ⟨#[]⟩, Value.int IntKind.i64 0, Value.int IntKind.i64 0, Value.string ⟨#[]⟩, Value.int IntKind.i64 0, Value.int IntKind.i64 0, Value.string ⟨#[]⟩, Value.int IntKind.i64 0, Value.bool false, Value.bool false, Value.int IntKind.i64 0, Value.int IntKind.i64 0, Value.int IntKind.i64 0] 135)) wg.heap.size 135 #[Value.int IntKind.i64 0, Value.int IntKind.i64 0, Value.string ⟨#[]⟩, Value.int IntKind.i64 0, Value.int IntKind.i64 0, Value.string ⟨#[]⟩, Value.int IntKind.i64 0, Value.int IntKind.i64 0, Value.string ⟨#[]⟩, Value.int IntKind.i64 0, Value.bool false, Value.bool false, Value.int IntKind.i64 0, Value.int IntKind.i64 0, Value.int IntKind.i64 0] := Blk.new wg 135 #[Value.int IntKind.i64 0, Value.int IntKind.i64 0, Value.string ⟨#[]⟩, Value.int IntKind.i64 0, Value.int IntKind.i64 0, Value.string ⟨#[]⟩, Value.int IntKind.i64 0, Value.int IntKind.i64 0, Value.string ⟨#[]⟩, Value.int IntKind.i64 0, Value.bool false, Value.bool false, Value.int IntKind.i64 0, Value.int IntKind.i64 0, Value.int IntKind.i64 0]
      have HK9 := Lib.hid hk9
      clear hB9 hk9
      have hz9 := HB9.out.size
      refine hK9 _ _ (HB9.out) ?_
      clear hK9 K9
      try go_frame
      refine wpY_es (fun K9 hK9 => ?_)
      refine step_store_el rfl 135 _ _ rfl wg.heap.size 0 #[Value.int IntKind.i64 y.kk, Value.int IntKind.i64 y.tr.elem.id.kind, Value.string y.tr.elem.id.text, Value.int IntKind.i64 y.tr.elem.id.n, Value.int IntKind.i64 y.tr.elem.attr.kind, Value.string y.tr.elem.attr.text, Value.int IntKind.i64 y.tr.elem.attr.n, Value.int IntKind.i64 y.tr.elem.value.kind, Value.string y.tr.elem.value.text, Value.int IntKind.i64 y.tr.elem.value.n, Value.bool y.tr.elem.acc, Value.bool y.tr.elem.goal, Value.int IntKind.i64 y.tr.elem.tag, Value.int IntKind.i64 y.tr.level, Value.int IntKind.i64 y.tr.cause] rfl rfl (show _ from (HK9.out).there) (by kernel_rfl) (by kernel_rfl) ?_
      refine hK9 _ _ (Below.setCells' _ _ (HB9.out) (by have := (HB9.out).size; first | omega | (simp; done) | (simp; omega))) ?_
      clear hK9 K9
      try go_frame
      repeat ((first | (refine wpY_w ?_ (Or.inl ⟨by rfl, fun w9 => ?_⟩) ?_; rotate_left 1; go_simp; with_reducible rfl) | (refine wpY_l ?_ (Below.setCells' _ _ (HB9.out) (by have := (HB9.out).size; first | omega | (simp; done) | (simp; omega))) (Or.inl ⟨by rfl, fun w9 hw9 => ?_⟩) ?_; rotate_left 1; obtain ⟨hc9, hf9⟩ := bcell hw9; go_simp; with_reducible rfl) | refine wpY_w undef (Or.inr ⟨by rfl, rfl⟩) ?_ | refine wpY_l undef (Below.setCells' _ _ (HB9.out) (by have := (HB9.out).size; first | omega | (simp; done) | (simp; omega))) (Or.inr ⟨by rfl, rfl⟩) ?_); go_frame)
      refine wpY_nil ?_
      simp only [OnlyN_normal]
      refine hKK _ _ ?_
      clear hKK KK
      go_wp2_with fail
      go_meet
      case rel => exact ⟨rfl, Below.setCells' _ _ (HB9.out) (by have := (HB9.out).size; first | omega | (simp; done) | (simp; omega)), _, rfl, by first | exact hzg | exact hza | omega | simp, World.rangeAt_setCells_same _ _ 0 [Value.int IntKind.i64 y.kk, Value.int IntKind.i64 y.tr.elem.id.kind, Value.string y.tr.elem.id.text, Value.int IntKind.i64 y.tr.elem.id.n, Value.int IntKind.i64 y.tr.elem.attr.kind, Value.string y.tr.elem.attr.text, Value.int IntKind.i64 y.tr.elem.attr.n, Value.int IntKind.i64 y.tr.elem.value.kind, Value.string y.tr.elem.value.text, Value.int IntKind.i64 y.tr.elem.value.n, Value.bool y.tr.elem.acc, Value.bool y.tr.elem.goal, Value.int IntKind.i64 y.tr.elem.tag, Value.int IntKind.i64 y.tr.level, Value.int IntKind.i64 y.tr.cause] (show _ from (HK9.out).there)⟩
    · refine wpOp_cs rfl (fun K9 hK9 => ?_)
      go_simp
      have hB9 := (HBa.out).alloc (by have := HBa.out.size; first | omega | (simp; done) | (simp; omega)) (.cells #[Value.int IntKind.i64 0, Value.int IntKind.i64 0, Value.string ⟨#[]⟩, Value.int IntKind.i64 0, Value.int IntKind.i64 0, Value.string ⟨#[]⟩, Value.int IntKind.i64 0, Value.int IntKind.i64 0, Value.string ⟨#[]⟩, Value.int IntKind.i64 0, Value.bool false, Value.bool false, Value.int IntKind.i64 0, Value.int IntKind.i64 0, Value.int IntKind.i64 0] 135)
      have HB9 := Lib.hid hB9
      have hk9 : Blk (wa.alloc (.cells #[Value.int IntKind.i64 0, Value.int IntKind.i64 0, Value.string ⟨#[]⟩, Value.int IntKind.i64 0, Value.int IntKind.i64 0, Value.string ⟨#[]⟩, Value.int IntKind.i64 0, Value.int IntKind.i64 0, Value.string ⟨#[]⟩, Value.int IntKind.i64 0, Value.bool false, Value.bool false, Value.int IntKind.i64 0, Value.int IntKind.i64 0, Value.int IntKind.i64 0] 135)) wa.heap.size 135 #[Value.int IntKind.i64 0, Value.int IntKind.i64 0, Value.string ⟨#[]⟩, Value.int IntKind.i64 0, Value.int IntKind.i64 0, Value.string ⟨#[]⟩, Value.int IntKind.i64 0, Value.int IntKind.i64 0, Value.string ⟨#[]⟩, Value.int IntKind.i64 0, Value.bool false, Value.bool false, Value.int IntKind.i64 0, Value.int IntKind.i64 0, Value.int IntKind.i64 0] := Blk.new wa 135 #[Value.int IntKind.i64 0, Value.int IntKind.i64 0, Value.string ⟨#[]⟩, Value.int IntKind.i64 0, Value.int IntKind.i64 0, Value.string ⟨#[]⟩, Value.int IntKind.i64 0, Value.int IntKind.i64 0, Value.string ⟨#[]⟩, Value.int IntKind.i64 0, Value.bool false, Value.bool false, Value.int IntKind.i64 0, Value.int IntKind.i64 0, Value.int IntKind.i64 0]
      have HK9 := Lib.hid hk9
      clear hB9 hk9
      have hz9 := HB9.out.size
      refine hK9 _ _ (fun _ => HB9.out) ?_
      clear hK9 K9
      try go_frame
      try simp only [beside, List.filterMap_nil]
      refine wpY_es (fun K9 hK9 => ?_)
      go_simp
      refine (get_is_PgT bp cc sn A m (zPgT k) y _ (HS0.out.new_ (HB9.out)) HO.out (by omega) HH.out HY.out).mono ?_
      rintro e wg ⟨rfl, hbg⟩
      have HBg := Lib.hid ((HB9.out).trans (hbg.mono (by have := HB9.out.size; first | omega | (simp at this ⊢; done) | (simp at this ⊢; omega))))
      have HKg := Lib.hid ((HK9.out).new_ hbg)
      clear hbg
      have hzg := HBg.out.size
      refine hK9 _ _ (HBg.out) ?_
      clear hK9 K9
      try go_frame
      repeat ((first | (refine wpY_w ?_ (Or.inl ⟨by rfl, fun w9 => ?_⟩) ?_; rotate_left 1; go_simp; with_reducible rfl) | (refine wpY_l ?_ (HBg.out) (Or.inl ⟨by rfl, fun w9 hw9 => ?_⟩) ?_; rotate_left 1; obtain ⟨hc9, hf9⟩ := bcell hw9; go_simp; with_reducible rfl) | refine wpY_w undef (Or.inr ⟨by rfl, rfl⟩) ?_ | refine wpY_l undef (HBg.out) (Or.inr ⟨by rfl, rfl⟩) ?_); go_frame)
      refine wpY_es (fun K9 hK9 => ?_)
      refine step_store_el rfl 135 _ _ rfl wa.heap.size 0 #[Value.int IntKind.i64 y.kk, Value.int IntKind.i64 y.tr.elem.id.kind, Value.string y.tr.elem.id.text, Value.int IntKind.i64 y.tr.elem.id.n, Value.int IntKind.i64 y.tr.elem.attr.kind, Value.string y.tr.elem.attr.text, Value.int IntKind.i64 y.tr.elem.attr.n, Value.int IntKind.i64 y.tr.elem.value.kind, Value.string y.tr.elem.value.text, Value.int IntKind.i64 y.tr.elem.value.n, Value.bool y.tr.elem.acc, Value.bool y.tr.elem.goal, Value.int IntKind.i64 y.tr.elem.tag, Value.int IntKind.i64 y.tr.level, Value.int IntKind.i64 y.tr.cause] rfl rfl (show _ from (HKg.out).there) (by kernel_rfl) (by kernel_rfl) ?_
      refine hK9 _ _ (Below.setCells' _ _ (HBg.out) (by have := (HBg.out).size; first | omega | (simp; done) | (simp; omega))) ?_
      clear hK9 K9
      try go_frame
      repeat ((first | (refine wpY_w ?_ (Or.inl ⟨by rfl, fun w9 => ?_⟩) ?_; rotate_left 1; go_simp; with_reducible rfl) | (refine wpY_l ?_ (Below.setCells' _ _ (HBg.out) (by have := (HBg.out).size; first | omega | (simp; done) | (simp; omega))) (Or.inl ⟨by rfl, fun w9 hw9 => ?_⟩) ?_; rotate_left 1; obtain ⟨hc9, hf9⟩ := bcell hw9; go_simp; with_reducible rfl) | refine wpY_w undef (Or.inr ⟨by rfl, rfl⟩) ?_ | refine wpY_l undef (Below.setCells' _ _ (HBg.out) (by have := (HBg.out).size; first | omega | (simp; done) | (simp; omega))) (Or.inr ⟨by rfl, rfl⟩) ?_); go_frame)
      refine wpY_nil ?_
      simp only [OnlyN_normal]
      refine hKK _ _ ?_
      clear hKK KK
      go_wp2_with fail
      go_meet
      case rel => exact ⟨rfl, Below.setCells' _ _ (HBg.out) (by have := (HBg.out).size; first | omega | (simp; done) | (simp; omega)), _, rfl, by first | exact hzg | exact hza | omega | simp, World.rangeAt_setCells_same _ _ 0 [Value.int IntKind.i64 y.kk, Value.int IntKind.i64 y.tr.elem.id.kind, Value.string y.tr.elem.id.text, Value.int IntKind.i64 y.tr.elem.id.n, Value.int IntKind.i64 y.tr.elem.attr.kind, Value.string y.tr.elem.attr.text, Value.int IntKind.i64 y.tr.elem.attr.n, Value.int IntKind.i64 y.tr.elem.value.kind, Value.string y.tr.elem.value.text, Value.int IntKind.i64 y.tr.elem.value.n, Value.bool y.tr.elem.acc, Value.bool y.tr.elem.goal, Value.int IntKind.i64 y.tr.elem.tag, Value.int IntKind.i64 y.tr.level, Value.int IntKind.i64 y.tr.cause] (show _ from (HKg.out).there)⟩
  · refine wpOp_cs rfl (fun K9 hK9 => ?_)
    go_simp
    have hB9 := ((Below.refl W0.heap.size W0).drew).alloc (by first | omega | simp) (.cells #[Value.int IntKind.i64 0, Value.int IntKind.i64 0, Value.string ⟨#[]⟩, Value.int IntKind.i64 0, Value.int IntKind.i64 0, Value.string ⟨#[]⟩, Value.int IntKind.i64 0, Value.int IntKind.i64 0, Value.string ⟨#[]⟩, Value.int IntKind.i64 0, Value.bool false, Value.bool false, Value.int IntKind.i64 0, Value.int IntKind.i64 0, Value.int IntKind.i64 0] 135)
    have HB9 := Lib.hid hB9
    have hk9 : Blk (W0.drew.alloc (.cells #[Value.int IntKind.i64 0, Value.int IntKind.i64 0, Value.string ⟨#[]⟩, Value.int IntKind.i64 0, Value.int IntKind.i64 0, Value.string ⟨#[]⟩, Value.int IntKind.i64 0, Value.int IntKind.i64 0, Value.string ⟨#[]⟩, Value.int IntKind.i64 0, Value.bool false, Value.bool false, Value.int IntKind.i64 0, Value.int IntKind.i64 0, Value.int IntKind.i64 0] 135)) W0.heap.size 135 #[Value.int IntKind.i64 0, Value.int IntKind.i64 0, Value.string ⟨#[]⟩, Value.int IntKind.i64 0, Value.int IntKind.i64 0, Value.string ⟨#[]⟩, Value.int IntKind.i64 0, Value.int IntKind.i64 0, Value.string ⟨#[]⟩, Value.int IntKind.i64 0, Value.bool false, Value.bool false, Value.int IntKind.i64 0, Value.int IntKind.i64 0, Value.int IntKind.i64 0] := Blk.new W0.drew 135 #[Value.int IntKind.i64 0, Value.int IntKind.i64 0, Value.string ⟨#[]⟩, Value.int IntKind.i64 0, Value.int IntKind.i64 0, Value.string ⟨#[]⟩, Value.int IntKind.i64 0, Value.int IntKind.i64 0, Value.string ⟨#[]⟩, Value.int IntKind.i64 0, Value.bool false, Value.bool false, Value.int IntKind.i64 0, Value.int IntKind.i64 0, Value.int IntKind.i64 0]
    have HK9 := Lib.hid hk9
    clear hB9 hk9
    have hz9 := HB9.out.size
    refine hK9 _ _ (fun _ => HB9.out) ?_
    clear hK9 K9
    try go_frame
    try simp only [beside, List.filterMap_nil]
    refine wpY_es (fun K9 hK9 => ?_)
    go_simp
    refine (bkat_PgT k _).mono ?_
    rintro e wa ⟨rfl, hba⟩
    have HBa := Lib.hid ((HB9.out).trans (hba.mono (by have := HB9.out.size; first | omega | (simp at this ⊢; done) | (simp at this ⊢; omega))))
    have HKa := Lib.hid ((HK9.out).new_ hba)
    clear hba
    have hza := HBa.out.size
    refine hK9 _ _ (HBa.out) ?_
    clear hK9 K9
    try go_frame
    refine wpY_es (fun K9 hK9 => ?_)
    go_simp
    refine (get_is_PgT bp cc sn A m (zPgT k) y _ (HS0.out.new_ (HBa.out)) HO.out (by omega) HH.out HY.out).mono ?_
    rintro e wg ⟨rfl, hbg⟩
    have HBg := Lib.hid ((HBa.out).trans (hbg.mono (by have := HBa.out.size; first | omega | (simp; done) | (simp; omega))))
    have HKg := Lib.hid ((HKa.out).new_ hbg)
    clear hbg
    have hzg := HBg.out.size
    refine hK9 _ _ (HBg.out) ?_
    clear hK9 K9
    try go_frame
    repeat ((first | (refine wpY_w ?_ (Or.inl ⟨by rfl, fun w9 => ?_⟩) ?_; rotate_left 1; go_simp; with_reducible rfl) | (refine wpY_l ?_ (HBg.out) (Or.inl ⟨by rfl, fun w9 hw9 => ?_⟩) ?_; rotate_left 1; obtain ⟨hc9, hf9⟩ := bcell hw9; go_simp; with_reducible rfl) | refine wpY_w undef (Or.inr ⟨by rfl, rfl⟩) ?_ | refine wpY_l undef (HBg.out) (Or.inr ⟨by rfl, rfl⟩) ?_); go_frame)
    refine wpY_es (fun K9 hK9 => ?_)
    refine step_store_el rfl 135 _ _ rfl W0.heap.size 0 #[Value.int IntKind.i64 y.kk, Value.int IntKind.i64 y.tr.elem.id.kind, Value.string y.tr.elem.id.text, Value.int IntKind.i64 y.tr.elem.id.n, Value.int IntKind.i64 y.tr.elem.attr.kind, Value.string y.tr.elem.attr.text, Value.int IntKind.i64 y.tr.elem.attr.n, Value.int IntKind.i64 y.tr.elem.value.kind, Value.string y.tr.elem.value.text, Value.int IntKind.i64 y.tr.elem.value.n, Value.bool y.tr.elem.acc, Value.bool y.tr.elem.goal, Value.int IntKind.i64 y.tr.elem.tag, Value.int IntKind.i64 y.tr.level, Value.int IntKind.i64 y.tr.cause] rfl rfl (show _ from (HKg.out).there) (by kernel_rfl) (by kernel_rfl) ?_
    refine hK9 _ _ (Below.setCells' _ _ (HBg.out) (by have := (HBg.out).size; first | omega | (simp; done) | (simp; omega))) ?_
    clear hK9 K9
    try go_frame
    repeat ((first | (refine wpY_w ?_ (Or.inl ⟨by rfl, fun w9 => ?_⟩) ?_; rotate_left 1; go_simp; with_reducible rfl) | (refine wpY_l ?_ (Below.setCells' _ _ (HBg.out) (by have := (HBg.out).size; first | omega | (simp; done) | (simp; omega))) (Or.inl ⟨by rfl, fun w9 hw9 => ?_⟩) ?_; rotate_left 1; obtain ⟨hc9, hf9⟩ := bcell hw9; go_simp; with_reducible rfl) | refine wpY_w undef (Or.inr ⟨by rfl, rfl⟩) ?_ | refine wpY_l undef (Below.setCells' _ _ (HBg.out) (by have := (HBg.out).size; first | omega | (simp; done) | (simp; omega))) (Or.inr ⟨by rfl, rfl⟩) ?_); go_frame)
    refine wpY_nil ?_
    simp only [OnlyN_normal]
    refine hKK _ _ ?_
    clear hKK KK
    go_wp2_with fail
    go_meet
    case rel => exact ⟨rfl, Below.setCells' _ _ (HBg.out) (by have := (HBg.out).size; first | omega | (simp; done) | (simp; omega)), _, rfl, by first | exact hzg | exact hza | omega | simp, World.rangeAt_setCells_same _ _ 0 [Value.int IntKind.i64 y.kk, Value.int IntKind.i64 y.tr.elem.id.kind, Value.string y.tr.elem.id.text, Value.int IntKind.i64 y.tr.elem.id.n, Value.int IntKind.i64 y.tr.elem.attr.kind, Value.string y.tr.elem.attr.text, Value.int IntKind.i64 y.tr.elem.attr.n, Value.int IntKind.i64 y.tr.elem.value.kind, Value.string y.tr.elem.value.text, Value.int IntKind.i64 y.tr.elem.value.n, Value.bool y.tr.elem.acc, Value.bool y.tr.elem.goal, Value.int IntKind.i64 y.tr.elem.tag, Value.int IntKind.i64 y.tr.level, Value.int IntKind.i64 y.tr.cause] (show _ from (HKg.out).there)⟩
 case rest =>
  obtain ⟨rfl, hB, g, rfl, hg, hr⟩ := hcut
  have HB := Lib.hid hB
  have hr2 : wc.rangeAt g 1 [Value.int IntKind.i64 y.tr.elem.id.kind, Value.string y.tr.elem.id.text, Value.int IntKind.i64 y.tr.elem.id.n, Value.int IntKind.i64 y.tr.elem.attr.kind, Value.string y.tr.elem.attr.text, Value.int IntKind.i64 y.tr.elem.attr.n, Value.int IntKind.i64 y.tr.elem.value.kind, Value.string y.tr.elem.value.text, Value.int IntKind.i64 y.tr.elem.value.n, Value.bool y.tr.elem.acc, Value.bool y.tr.elem.goal, Value.int IntKind.i64 y.tr.elem.tag, Value.int IntKind.i64 y.tr.level, Value.int IntKind.i64 y.tr.cause] := fun j v hv => by
   have := hr (j + 1) v (by simpa using hv)
   rwa [show 0 + (j + 1) = 1 + j by omega] at this
  have HR := Lib.hid hr2
  have HT := Lib.hid (show wc.there w.heap.size 0 (#[Value.int IntKind.i64 y.tr.elem.id.kind, Value.string y.tr.elem.id.text, Value.int IntKind.i64 y.tr.elem.id.n, Value.int IntKind.i64 y.tr.elem.attr.kind, Value.string y.tr.elem.attr.text, Value.int IntKind.i64 y.tr.elem.attr.n, Value.int IntKind.i64 y.tr.elem.value.kind, Value.string y.tr.elem.value.text, Value.int IntKind.i64 y.tr.elem.value.n, Value.bool y.tr.elem.acc, Value.bool y.tr.elem.goal, Value.int IntKind.i64 y.tr.elem.tag, Value.int IntKind.i64 y.tr.level, Value.int IntKind.i64 y.tr.cause] : Array Value).size from (HX0.out.new_ hB).there)
  clear hB hr hr2 s1
  go_wp2_with (first | (with_reducible refine wpList_load_mid rfl 55 _ rfl g 1 rfl [Value.int IntKind.i64 y.tr.elem.id.kind, Value.string y.tr.elem.id.text, Value.int IntKind.i64 y.tr.elem.id.n, Value.int IntKind.i64 y.tr.elem.attr.kind, Value.string y.tr.elem.attr.text, Value.int IntKind.i64 y.tr.elem.attr.n, Value.int IntKind.i64 y.tr.elem.value.kind, Value.string y.tr.elem.value.text, Value.int IntKind.i64 y.tr.elem.value.n, Value.bool y.tr.elem.acc, Value.bool y.tr.elem.goal, Value.int IntKind.i64 y.tr.elem.tag, Value.int IntKind.i64 y.tr.level, Value.int IntKind.i64 y.tr.cause] _ HR.out Try.underlying55 rfl (by kernel_rfl) ?_) | (with_reducible refine wpList_store_mid rfl 55 _ _ rfl w.heap.size 0 #[Value.int IntKind.i64 y.tr.elem.id.kind, Value.string y.tr.elem.id.text, Value.int IntKind.i64 y.tr.elem.id.n, Value.int IntKind.i64 y.tr.elem.attr.kind, Value.string y.tr.elem.attr.text, Value.int IntKind.i64 y.tr.elem.attr.n, Value.int IntKind.i64 y.tr.elem.value.kind, Value.string y.tr.elem.value.text, Value.int IntKind.i64 y.tr.elem.value.n, Value.bool y.tr.elem.acc, Value.bool y.tr.elem.goal, Value.int IntKind.i64 y.tr.elem.tag, Value.int IntKind.i64 y.tr.level, Value.int IntKind.i64 y.tr.cause] rfl rfl HT.out (by kernel_rfl) (by kernel_rfl) ?_))
  try simp only [Exit.inBlock, Exit.then]
  refine bodyPost_ret (v := .tuple #[.agg #[.int .i64 y.tr.elem.id.kind, .string y.tr.elem.id.text, .int .i64 y.tr.elem.id.n, .int .i64 y.tr.elem.attr.kind, .string y.tr.elem.attr.text, .int .i64 y.tr.elem.attr.n, .int .i64 y.tr.elem.value.kind, .string y.tr.elem.value.text, .int .i64 y.tr.elem.value.n, .bool y.tr.elem.acc, .bool y.tr.elem.goal, .int .i64 y.tr.elem.tag, .int .i64 y.tr.level, .int .i64 y.tr.cause], .bool true]) ?_ rfl ⟨rfl, Below.setCells' _ _ (HB0.out.trans (HB.out.mono (by omega))) (by omega)⟩
  exact results_cell_tmp (t := 4) (s := 5) (T := 55) rfl _ _ w.heap.size [Value.int IntKind.i64 y.tr.elem.id.kind, Value.string y.tr.elem.id.text, Value.int IntKind.i64 y.tr.elem.id.n, Value.int IntKind.i64 y.tr.elem.attr.kind, Value.string y.tr.elem.attr.text, Value.int IntKind.i64 y.tr.elem.attr.n, Value.int IntKind.i64 y.tr.elem.value.kind, Value.string y.tr.elem.value.text, Value.int IntKind.i64 y.tr.elem.value.n, Value.bool y.tr.elem.acc, Value.bool y.tr.elem.goal, Value.int IntKind.i64 y.tr.elem.tag, Value.int IntKind.i64 y.tr.level, Value.int IntKind.i64 y.tr.cause] _ rfl (World.rangeAt_setCells_same wc w.heap.size 0 [Value.int IntKind.i64 y.tr.elem.id.kind, Value.string y.tr.elem.id.text, Value.int IntKind.i64 y.tr.elem.id.n, Value.int IntKind.i64 y.tr.elem.attr.kind, Value.string y.tr.elem.attr.text, Value.int IntKind.i64 y.tr.elem.attr.n, Value.int IntKind.i64 y.tr.elem.value.kind, Value.string y.tr.elem.value.text, Value.int IntKind.i64 y.tr.elem.value.n, Value.bool y.tr.elem.acc, Value.bool y.tr.elem.goal, Value.int IntKind.i64 y.tr.elem.tag, Value.int IntKind.i64 y.tr.level, Value.int IntKind.i64 y.tr.cause] HT.out) Try.underlying55 rfl (by kernel_rfl)
end Go.Proofs.Ytnfgilbaglfkeaa
namespace Go.Proofs.Ytnfgilbaglfkeaa
open Go.RowKit
set_option maxRecDepth 100000 in
set_option maxHeartbeats 16000000 in
theorem copied_body (n : Nat) (hrec : ∀ m, n = m + 1 → CopyOk 44 m) : CopyOk 44 n := by
 intro x A1 c1 A2 c2 A3 c3 D w h1 h2 h3 hs
 obtain ⟨j0, hj0, hy0, hyy1, hyy2⟩ := infp inf_Cond
 have hcap1 := h1.cap
 have hcap2 := h2.cap
 have hcap3 := h3.cap
 obtain ⟨s1, s2, s3, s4⟩ := hs
 have S1 := Lib.hid s1
 have S2 := Lib.hid s2
 have HREC := Lib.hid hrec
 obtain ⟨L, hL⟩ : ∃ L, L = x.conds := ⟨_, rfl⟩
 rw [← hL] at h3 hcap3 s3 s4
 have HS := Lib.hid (show L.length ≤ 1000 ∧ ∀ x ∈ L, SmC n x from ⟨s3, s4⟩)
 have HXC := Lib.hid hL
 clear s1 s2 s4 hrec
 rw [← hL]
 clear hL
 have Q1 := Lib.hid h1
 have Q2 := Lib.hid h2
 have Q3 := Lib.hid h3
 clear h1 h2 h3
 go_enter Try.func44, Try.ntmps44
 go_upto_region 1 with fail
 obtain ⟨W1, hW1⟩ : ∃ W1, W1 = (w.alloc (.cells #[.int .i64 x.kind, .bool x.goal, .string x.id, .slice A1 x.attr.length c1, .slice A2 x.value.length c2, .bool x.acc, .slice A3 L.length c3] 60)).alloc (.cells #[.int .i64 0, .bool false, .string ⟨#[]⟩, .slice none 0 0, .slice none 0 0, .bool false, .slice none 0 0] 60) := ⟨_, rfl⟩
 have hB1 : Below w.heap.size w W1 := by rw [hW1]; exact ((Below.refl _ _).alloc (Nat.le_refl _) _).alloc (by simp) _
 have hX1 : Blk W1 w.heap.size 60 #[.int .i64 x.kind, .bool x.goal, .string x.id, .slice A1 x.attr.length c1, .slice A2 x.value.length c2, .bool x.acc, .slice A3 L.length c3] := by rw [hW1]; exact (Blk.new _ _ _).alloc _
 have hR1 : Blk W1 (w.heap.size + 1) 60 #[.int .i64 0, .bool false, .string ⟨#[]⟩, .slice none 0 0, .slice none 0 0, .bool false, .slice none 0 0] := by rw [hW1]; have := Blk.new (w.alloc (.cells #[.int .i64 x.kind, .bool x.goal, .string x.id, .slice A1 x.attr.length c1, .slice A2 x.value.length c2, .bool x.acc, .slice A3 L.length c3] 60)) 60 #[.int .i64 0, .bool false, .string ⟨#[]⟩, .slice none 0 0, .slice none 0 0, .bool false, .slice none 0 0]; simpa using this
 have hz1 : W1.heap.size = w.heap.size + 2 := by rw [hW1]; simp
 rw [← hW1]
 clear hW1
 obtain ⟨-, -, -, x3, -, -, -⟩ := hX1.c7
 have HB1 := Lib.hid hB1
 have HX1 := Lib.hid hX1
 have HR1 := Lib.hid hR1
 have HZ1 := Lib.hid hz1
 have hxl1 := hX1.lt
 clear hB1 hX1 hR1 hz1
 go_wp2_with fail
 refine (btests_is A1 c1 x.attr W1 (Q1.out.new_ HB1.out) S1.out).mono ?_
 rintro e w2 ⟨B1, d1, rfl, k1, -, hB2⟩
 obtain ⟨W2, hW2⟩ : ∃ W2, W2 = w2.setCell ⟨w.heap.size, 3, none⟩ (.slice B1 x.attr.length d1) := ⟨_, rfl⟩
 have hX2 := HX1.out.new_ hB2
 have u3 := (hX2.cell 3).trans rfl
 have g3 := hX2.frozen 3
 have hX2b : Blk W2 w.heap.size 60 #[.int .i64 x.kind, .bool x.goal, .string x.id, .slice B1 x.attr.length d1, .slice A2 x.value.length c2, .bool x.acc, .slice A3 L.length c3] := by rw [hW2]; exact hX2.set_ 3 _
 have hR2 : Blk W2 (w.heap.size + 1) 60 #[.int .i64 0, .bool false, .string ⟨#[]⟩, .slice none 0 0, .slice none 0 0, .bool false, .slice none 0 0] := by rw [hW2]; exact (HR1.out.new_ hB2).far (by simp) _
 have hz2 := hB2.size
 have hzW2 : W2.heap.size = w2.heap.size := by rw [hW2]; simp
 have hB2b : Below w.heap.size w W2 := by rw [hW2]; exact (HB1.out.trans (hB2.mono (by omega))).setCell (Nat.le_refl _) _
 have hk1 : RowR repTestT (NewD W1.heap.size W2) W2 B1 d1 x.attr := k1.keep (by omega) (fun j hj hl => ⟨⟨hj.1, by have := hj.2; omega⟩, by rw [hW2]; exact Below.heap_setCell _ _ _ _ (by dsimp only; have := hj.1; have := HZ1.out; omega)⟩)
 have HB2 := Lib.hid hB2b
 have HX2 := Lib.hid hX2b
 have HR2 := Lib.hid hR2
 have HK1 := Lib.hid hk1
 have HZ2 := Lib.hid (show W1.heap.size ≤ W2.heap.size by omega)
 have hxl2 := hX2.lt
 clear k1 hB2 hX2 hX2b hR2 hB2b hk1 hzW2 x3
 go_upto_region 2 with fail
 rw [← hW2]
 clear hW2 u3 g3 hz2
 obtain ⟨-, -, -, -, x4, -, -⟩ := HX2.out.c7
 have hxl2 := HX2.out.lt
 go_wp2_with fail
 refine (btests_is A2 c2 x.value W2 (Q2.out.new_ HB2.out) S2.out).mono ?_
 rintro e w3 ⟨B2, d2, rfl, k2, -, hB3⟩
 obtain ⟨W3, hW3⟩ : ∃ W3, W3 = w3.setCell ⟨w.heap.size, 4, none⟩ (.slice B2 x.value.length d2) := ⟨_, rfl⟩
 have hX3 := HX2.out.new_ hB3
 have u4 := (hX3.cell 4).trans rfl
 have g4 := hX3.frozen 4
 have hX3b : Blk W3 w.heap.size 60 #[.int .i64 x.kind, .bool x.goal, .string x.id, .slice B1 x.attr.length d1, .slice B2 x.value.length d2, .bool x.acc, .slice A3 L.length c3] := by rw [hW3]; exact hX3.set_ 4 _
 have hR3 : Blk W3 (w.heap.size + 1) 60 #[.int .i64 0, .bool false, .string ⟨#[]⟩, .slice none 0 0, .slice none 0 0, .bool false, .slice none 0 0] := by rw [hW3]; exact (HR2.out.new_ hB3).far (by simp) _
 have hz3 := hB3.size
 have hzW3 : W3.heap.size = w3.heap.size := by rw [hW3]; simp
 have hB3b : Below w.heap.size w W3 := by rw [hW3]; exact (HB2.out.trans (hB3.mono (by have := HB2.out.size; omega))).setCell (Nat.le_refl _) _
 have hk2 : RowR repTestT (NewD W1.heap.size W3) W3 B2 d2 x.value := k2.keep (by omega) (fun j hj hl => ⟨⟨by have := hj.1; have := HZ2.out; omega, by have := hj.2; omega⟩, by rw [hW3]; exact Below.heap_setCell _ _ _ _ (by dsimp only; have := hj.1; have := HZ1.out; have := HZ2.out; omega)⟩)
 have hk1 : RowR repTestT (NewD W1.heap.size W3) W3 B1 d1 x.attr := HK1.out.keep (by omega) (fun j hj hl => ⟨⟨hj.1, by have := hj.2; omega⟩, by rw [hW3]; exact (Below.heap_setCell _ _ _ _ (by dsimp only; have := hj.1; have := HZ1.out; omega)).trans (hB3.block j hl)⟩)
 have HB3 := Lib.hid hB3b
 have HX3 := Lib.hid hX3b
 have HR3b := Lib.hid hR3
 have HK2 := Lib.hid hk2
 have HK1b := Lib.hid hk1
 have HZ3 := Lib.hid (show W1.heap.size ≤ W3.heap.size by have := HZ2.out; omega)
 have HQ3 := Lib.hid (Q3.out.new_ HB3.out)
 have hxl3 := hX3.lt
 clear k2 hB3 hX3 hX3b hR3 hB3b hk1 hk2 hzW3 x4
 go_upto_region 3 with fail
 rw [← hW3]
 clear hW3 u4 g4 hz3
 obtain ⟨-, -, -, -, -, -, x6⟩ := HX3.out.c7
 have hxl3 := HX3.out.lt
 obtain ⟨W0, hW0⟩ : ∃ W0, W0 = W3 := ⟨_, rfl⟩
 subst hW0
 have HR3 := HQ3
 go_wp2_with fail
 go_loopw [3, 17] (fun v i wr => ∃ k : Nat, i = .int .i64 k ∧ k ≤ L.length ∧ Copies (repCondT n) 60 W0 (L.take k) v wr) (fun v i wr => L.length - (intOf i).toNat)
 case atStart => exact ⟨0, rfl, Nat.zero_le _, Copies.nil _ _ _ (Below.refl _ _)⟩
 case round =>
  obtain ⟨k, rfl, hk, hC⟩ := hrel
  obtain ⟨C, A1, c1, rfl, h1, h2, h3, h4⟩ := hC
  rw [take_len hk]
  by_cases hlt : k < L.length
  · have hrw := HR3.out.new_ (h4.mono (by omega) : Below W0.heap.size W0 wr)
    obtain ⟨m, rfl⟩ : ∃ m, n = m + 1 := by
     cases n with
     | zero => rw [row0 hrw] at hlt; simp at hlt
     | succ m => exact ⟨m, rfl⟩
    obtain ⟨g, off, Ay1, cy1, Ay2, cy2, Ay3, cy3, hA0, hDg, hg, q0, q1, q2, q3, q4, q5, q6, hy1, hy2, hy3⟩ := at_CondT hrw hlt
    subst hA0
    obtain ⟨y, hy⟩ : ∃ y, y = L[k] := ⟨_, rfl⟩
    have hys : SmC (m + 1) y := by rw [hy]; exact HS.out.2 _ (List.getElem_mem hlt)
    rw [← hy] at q0 q1 q2 q3 q4 q5 q6 hy1 hy2 hy3
    have b1 : (0 : Int) ≤ (k : Int) := by omega
    have b2 : (k : Int) < (L.length : Int) := by omega
    have HY := Lib.hid hy
    have H1 := Lib.hid h1
    have H2 := Lib.hid h2
    have H3 := Lib.hid h3
    have H4 := Lib.hid h4
    have HY1 := Lib.hid hy1
    have HY2 := Lib.hid hy2
    have HY3 := Lib.hid hy3
    have HYS := Lib.hid hys
    clear hy hrw h1 h2 h3 h4 hy1 hy2 hy3 hys
    go_upto_region 7 with fail
    obtain ⟨W4, hW4⟩ : ∃ W4, W4 = wr.alloc (.cells #[.int .i64 y.kind, .bool y.goal, .string y.id, .slice Ay1 y.attr.length cy1, .slice Ay2 y.value.length cy2, .bool y.acc, .slice Ay3 y.conds.length cy3] 60) := ⟨_, rfl⟩
    have hB4 : Below wr.heap.size wr W4 := by rw [hW4]; exact (Below.refl _ _).alloc (Nat.le_refl _) _
    have hX4 : Blk W4 wr.heap.size 60 #[.int .i64 y.kind, .bool y.goal, .string y.id, .slice Ay1 y.attr.length cy1, .slice Ay2 y.value.length cy2, .bool y.acc, .slice Ay3 y.conds.length cy3] := by rw [hW4]; exact Blk.new _ _ _
    have hz4 : W4.heap.size = wr.heap.size + 1 := by rw [hW4]; simp
    rw [← hW4]
    clear hW4 q0 q1 q2 q3 q4 q5 q6
    obtain ⟨p0, p1, p2, p3, p4, p5, p6⟩ := hX4.c7
    have hxl4 := hX4.lt
    have HB4 := Lib.hid hB4
    have HZ4 := Lib.hid hz4
    clear hB4 hX4 hz4
    go_wp2_with fail
    refine (HREC.out m rfl y Ay1 cy1 Ay2 cy2 Ay3 cy3 D W4 (HY1.out.new_ HB4.out) (HY2.out.new_ HB4.out) (HY3.out.new_ HB4.out) HYS.out).mono ?_
    rintro e w5 ⟨Az1, cz1, Az2, cz2, Az3, cz3, rfl, g1, g2, g3, hB5⟩
    have hB5' : Below wr.heap.size wr w5 := HB4.out.trans (hB5.mono (by have := HZ4.out; omega))
    have h9 : Below w5.heap.size w5 (w5.alloc (.cells #[.int .i64 y.kind, .bool y.goal, .string y.id, .slice Az1 y.attr.length cz1, .slice Az2 y.value.length cz2, .bool y.acc, .slice Az3 y.conds.length cz3] 60)) := (Below.refl _ _).alloc (Nat.le_refl _) _
    have hB7 : Below wr.heap.size wr (w5.alloc (.cells #[.int .i64 y.kind, .bool y.goal, .string y.id, .slice Az1 y.attr.length cz1, .slice Az2 y.value.length cz2, .bool y.acc, .slice Az3 y.conds.length cz3] 60)) := hB5'.alloc hB5'.size _
    have up : ∀ j, NewD W4.heap.size w5 j → j < w5.heap.size → (Plus C wr (w5.alloc (.cells #[.int .i64 y.kind, .bool y.goal, .string y.id, .slice Az1 y.attr.length cz1, .slice Az2 y.value.length cz2, .bool y.acc, .slice Az3 y.conds.length cz3] 60))) j ∧ (w5.alloc (.cells #[.int .i64 y.kind, .bool y.goal, .string y.id, .slice Az1 y.attr.length cz1, .slice Az2 y.value.length cz2, .bool y.acc, .slice Az3 y.conds.length cz3] 60)).heap[j]? = w5.heap[j]? := fun j hj hl => ⟨.inr ⟨by have := hj.1; have := HZ4.out; omega, by simp; omega⟩, h9.block j hl⟩
    have hrep7 := rep_cond (n := m) (y := y) (g1.keep h9.size up) (g2.keep h9.size up) (g3.keep h9.size up)
    have hown7 := H1.out.plus hB7
    have hcl : ∀ j, Plus C wr (w5.alloc (.cells #[.int .i64 y.kind, .bool y.goal, .string y.id, .slice Az1 y.attr.length cz1, .slice Az2 y.value.length cz2, .bool y.acc, .slice Az3 y.conds.length cz3] 60)) j → j < (w5.alloc (.cells #[.int .i64 y.kind, .bool y.goal, .string y.id, .slice Az1 y.attr.length cz1, .slice Az2 y.value.length cz2, .bool y.acc, .slice Az3 y.conds.length cz3] 60)).heap.size := fun j hj => by
     rcases hj with hj | hj
     · have := (H2.out j hj).2; have := hB7.size; omega
     · exact hj.2
    have HB7 := Lib.hid hB7
    have HOW := Lib.hid hown7
    have HRE := Lib.hid hrep7
    have HCL := Lib.hid hcl
    have HB5 := Lib.hid hB5'
    have H63 := Lib.hid (show (L.take k).length + 1 ≤ maxLen by rw [take_len hk]; unfold maxLen; omega)
    have HBY := Lib.hid (show ((L.take k).length + 1) * 112 ≤ 140737488355328 by rw [take_len hk]; omega)
    have HV := Lib.hid (show Value.slice A1 k c1 = .slice A1 (L.take k).length c1 by rw [take_len hk])
    clear g1 g2 g3 hB5 h9 hB7 up hrep7 hown7 hcl hB5' p0 p1 p2 p3 p4 p5 p6
    go_wp2_with (at_builtin; refine wpList_append_C _ rfl _ _ 58 rfl 60 j0 _ 7 112 Try.underlying58 hj0 hy0 hyy1 hyy2 rfl rfl (by omega) (Plus C wr (w5.alloc (.cells #[.int .i64 y.kind, .bool y.goal, .string y.id, .slice Az1 y.attr.length cz1, .slice Az2 y.value.length cz2, .bool y.acc, .slice Az3 y.conds.length cz3] 60))) HCL.out (.slice A1 (L.take k).length c1) (L.take k) HV.out HOW.out ⟨w5.heap.size, 0, none⟩ 1 y [.int .i64 y.kind, .bool y.goal, .string y.id, .slice Az1 y.attr.length cz1, .slice Az2 y.value.length cz2, .bool y.acc, .slice Az3 y.conds.length cz3] rfl (World.news_of_block (heap_alloc_new _ _)) (by intro u hu; simp only [List.mem_cons, List.not_mem_nil, or_false] at hu; rcases hu with rfl | rfl | rfl | rfl | rfl | rfl | rfl <;> rfl) HRE.out H63.out HBY.out ?_; intro v' w7 hap)
    have hfin : Copies (repCondT (m + 1)) 60 W0 (L.take k ++ [y]) v' w7 := Copies.snoc H2.out H3.out H4.out HB7.out hap
    rw [HY.out, take_snoc hlt] at hfin
    go_roundw
    case rel => exact ⟨k + 1, by go_num, by omega, hfin⟩
    case measure => simp [intOf]; omega
  · obtain rfl : k = L.length := by omega
    have hfin : Copies (repCondT n) 60 W0 (L.take L.length) (.slice A1 (L.take L.length).length c1) wr := ⟨C, A1, c1, rfl, h1, h2, h3, h4⟩
    rw [List.take_length] at hfin
    have HF := Lib.hid hfin
    clear h1 h2 h3 h4 hfin
    obtain ⟨E3, d3, he, r3, hE3, hBf⟩ := HF.out.done
    cases he
    obtain ⟨W9, hW9⟩ : ∃ W9, W9 = wr.setCell ⟨w.heap.size, 6, none⟩ (.slice A1 L.length c1) := ⟨_, rfl⟩
    have hX9 := HX3.out.new_ hBf
    have u6 := (hX9.cell 6).trans rfl
    have g6 := hX9.frozen 6
    have hxl9 := hX9.lt
    have hX9b : Blk W9 w.heap.size 60 #[.int .i64 x.kind, .bool x.goal, .string x.id, .slice B1 x.attr.length d1, .slice B2 x.value.length d2, .bool x.acc, .slice A1 L.length c1] := by rw [hW9]; exact hX9.set_ 6 _
    have hR9 : Blk W9 (w.heap.size + 1) 60 #[.int .i64 0, .bool false, .string ⟨#[]⟩, .slice none 0 0, .slice none 0 0, .bool false, .slice none 0 0] := by rw [hW9]; exact (HR3b.out.new_ hBf).far (by simp) _
    have hB9 : Below w.heap.size w W9 := by rw [hW9]; exact (HB3.out.trans (hBf.mono HB3.out.size)).setCell (Nat.le_refl _) _
    have hzf := hBf.size
    have hz9 : W9.heap.size = wr.heap.size := by rw [hW9]; simp
    have hk9 : ∀ j, w.heap.size + 2 ≤ j → W9.heap[j]? = wr.heap[j]? := fun j hj => by rw [hW9]; exact Below.heap_setCell _ _ _ _ (by dsimp only; omega)
    have HB9 := Lib.hid hB9
    have HX9 := Lib.hid hX9b
    have HT9 := Lib.hid (show W9.there (w.heap.size + 1) 0 (#[Value.int IntKind.i64 x.kind, Value.bool x.goal, Value.string x.id, Value.slice B1 x.attr.length d1, Value.slice B2 x.value.length d2, Value.bool x.acc, Value.slice A1 L.length c1] : Array Value).size from hR9.there)
    have HRG := Lib.hid (show W9.rangeAt w.heap.size 0 [Value.int IntKind.i64 x.kind, Value.bool x.goal, Value.string x.id, Value.slice B1 x.attr.length d1, Value.slice B2 x.value.length d2, Value.bool x.acc, Value.slice A1 L.length c1] from hX9b.range)
    have hrl9 := hR9.lt
    have l3 := r3.keep (w' := W9.setCells (w.heap.size + 1) 0 [Value.int IntKind.i64 x.kind, Value.bool x.goal, Value.string x.id, Value.slice B1 x.attr.length d1, Value.slice B2 x.value.length d2, Value.bool x.acc, Value.slice A1 L.length c1]) (D' := NewD w.heap.size (W9.setCells (w.heap.size + 1) 0 [Value.int IntKind.i64 x.kind, Value.bool x.goal, Value.string x.id, Value.slice B1 x.attr.length d1, Value.slice B2 x.value.length d2, Value.bool x.acc, Value.slice A1 L.length c1])) (by rw [size_setCells]; omega) (fun j hj hl => ⟨⟨by have := hj.1; have := HB3.out.size; omega, by rw [size_setCells]; omega⟩, (blk_setCells _ _ _ _ _ (by have := hj.1; have := HZ1.out; have := HZ3.out; omega)).trans (hk9 j (by have := hj.1; have := HZ1.out; have := HZ3.out; omega))⟩)
    have l1 := HK1b.out.keep (w' := W9.setCells (w.heap.size + 1) 0 [Value.int IntKind.i64 x.kind, Value.bool x.goal, Value.string x.id, Value.slice B1 x.attr.length d1, Value.slice B2 x.value.length d2, Value.bool x.acc, Value.slice A1 L.length c1]) (D' := NewD w.heap.size (W9.setCells (w.heap.size + 1) 0 [Value.int IntKind.i64 x.kind, Value.bool x.goal, Value.string x.id, Value.slice B1 x.attr.length d1, Value.slice B2 x.value.length d2, Value.bool x.acc, Value.slice A1 L.length c1])) (by rw [size_setCells]; omega) (fun j hj hl => ⟨⟨by have := hj.1; have := HZ1.out; omega, by rw [size_setCells]; omega⟩, (blk_setCells _ _ _ _ _ (by have := hj.1; have := HZ1.out; omega)).trans ((hk9 j (by have := hj.1; have := HZ1.out; omega)).trans (hBf.block j hl))⟩)
    have l2 := HK2.out.keep (w' := W9.setCells (w.heap.size + 1) 0 [Value.int IntKind.i64 x.kind, Value.bool x.goal, Value.string x.id, Value.slice B1 x.attr.length d1, Value.slice B2 x.value.length d2, Value.bool x.acc, Value.slice A1 L.length c1]) (D' := NewD w.heap.size (W9.setCells (w.heap.size + 1) 0 [Value.int IntKind.i64 x.kind, Value.bool x.goal, Value.string x.id, Value.slice B1 x.attr.length d1, Value.slice B2 x.value.length d2, Value.bool x.acc, Value.slice A1 L.length c1])) (by rw [size_setCells]; omega) (fun j hj hl => ⟨⟨by have := hj.1; have := HZ1.out; omega, by rw [size_setCells]; omega⟩, (blk_setCells _ _ _ _ _ (by have := hj.1; have := HZ1.out; omega)).trans ((hk9 j (by have := hj.1; have := HZ1.out; omega)).trans (hBf.block j hl))⟩)
    have R1 := Lib.hid l1
    have R2 := Lib.hid l2
    have R3 := Lib.hid l3
    clear hX9 hX9b hR9 hB9 hBf r3 hE3 l1 l2 l3 hz9 hk9 hzf x6
    go_upto_region 10 with fail
    rw [← hW9]
    clear hW9 u6 g6
    go_wp2_with (first | (with_reducible refine wpList_load_mid rfl 60 _ rfl w.heap.size 0 rfl [Value.int IntKind.i64 x.kind, Value.bool x.goal, Value.string x.id, Value.slice B1 x.attr.length d1, Value.slice B2 x.value.length d2, Value.bool x.acc, Value.slice A1 L.length c1] _ HRG.out Try.underlying60 rfl (by kernel_rfl) ?_) | (with_reducible refine wpList_store_mid rfl 60 _ _ rfl (w.heap.size + 1) 0 #[Value.int IntKind.i64 x.kind, Value.bool x.goal, Value.string x.id, Value.slice B1 x.attr.length d1, Value.slice B2 x.value.length d2, Value.bool x.acc, Value.slice A1 L.length c1] rfl rfl HT9.out (by kernel_rfl) (by kernel_rfl) ?_))
    try simp only [Exit.inBlock, Exit.then]
    have hBe : Below w.heap.size w (W9.setCells (w.heap.size + 1) 0 [Value.int IntKind.i64 x.kind, Value.bool x.goal, Value.string x.id, Value.slice B1 x.attr.length d1, Value.slice B2 x.value.length d2, Value.bool x.acc, Value.slice A1 L.length c1]) := Below.setCells' _ _ HB9.out (by omega)
    refine bodyPost_ret (v := .agg #[.int .i64 x.kind, .bool x.goal, .string x.id, .slice B1 x.attr.length d1, .slice B2 x.value.length d2, .bool x.acc, .slice A1 L.length c1]) ?_ rfl ?_
    · exact results_cell (t := 2) (T := 60) rfl _ _ (w.heap.size + 1) [Value.int IntKind.i64 x.kind, Value.bool x.goal, Value.string x.id, Value.slice B1 x.attr.length d1, Value.slice B2 x.value.length d2, Value.bool x.acc, Value.slice A1 L.length c1] _ rfl (World.rangeAt_setCells_same W9 (w.heap.size + 1) 0 [Value.int IntKind.i64 x.kind, Value.bool x.goal, Value.string x.id, Value.slice B1 x.attr.length d1, Value.slice B2 x.value.length d2, Value.bool x.acc, Value.slice A1 L.length c1] HT9.out) Try.underlying60 rfl (by kernel_rfl)
    · have hxc := HXC.out
      subst hxc
      exact ⟨B1, d1, B2, d2, A1, c1, rfl, R1.out, R2.out, R3.out, hBe⟩
theorem copied_is : ∀ n, CopyOk 44 n
 | 0 => copied_body 0 (fun m h => by omega)
 | n + 1 => copied_body (n + 1) (fun m h => by obtain rfl : m = n := by omega
                                               exact copied_is m)
end Go.Proofs.Ytnfgilbaglfkeaa
namespace Go.Proofs.Ytnfgilbaglfkeaa
open Go.RowKit
def Only (ts : List Nat) (w w' : World) : Prop := ∀ (g : Nat) (t : TypeId) (cs : Array Value), t ∉ ts → Blk w g t cs → Blk w' g t cs
structure Mine (ts : List Nat) (K : Nat → Prop) (w w' : World) : Prop where
 only : Only ts w w'
 fr : Fr (fun k => ¬ K k) w w'
section
variable {ts ts' : List Nat} {K K' E : Nat → Prop} {a b c w w' : World}
theorem Mine.trans (h : Mine ts K a b) (k : Mine ts K b c) : Mine ts K a c := ⟨fun g t cs hn hb => k.only g t cs hn (h.only g t cs hn hb), h.fr.trans k.fr⟩
theorem Mine.refl (ts : List Nat) (K : Nat → Prop) (w : World) : Mine ts K w w := ⟨fun _ _ _ _ h => h, Fr.refl _ _⟩
theorem Mine.new_ (h : Below w.heap.size w w') : Mine ts K w w' := ⟨fun _ _ _ _ hb => hb.new_ h, Fr.of_new h⟩
theorem Mine.up (h : Mine ts K w w') (hs : ∀ t, t ∈ ts → t ∈ ts') : Mine ts' K w w' := ⟨fun g t cs hn hb => h.only g t cs (fun hm => hn (hs t hm)) hb, h.fr⟩
theorem Mine.cell {p : Addr} {t : TypeId} {cs : Array Value} (hb : Blk w p.block t cs) (ht : t ∈ ts) (hK : ¬ K p.block) (u : Value) : Mine ts K w (w.setCell p u) :=
 ⟨fun g t' cs' hn hg => hg.far (fun e => by subst e; exact hg.ne_ hb (fun e => hn (e ▸ ht)) rfl) u, (Fr.refl _ w).setCell (.inl hK) u⟩
theorem ownsRow_only {e : TypeId} {size n : Nat} {v : Value} {xs : List Value} (h : w.ownsRow 0 e size v n xs) (ho : Only ts w w') (he : e ∉ ts) : w'.ownsRow 0 e size v n xs :=
 ⟨h.1, h.2.imp id fun ⟨g, cap, cur, hv, h0, hg, hr⟩ => ⟨g, cap, cur, hv, h0, ho g e cur he hg, hr⟩⟩
theorem SetAt.only {α : Type} {tSet tE size : Nat} {cells : α → List Value} {b : Nat} {sn : Bool} {A : Option Addr} {c : Nat} {l : List α} (h : SetAt tSet tE size cells w b sn A c l) (ho : Only ts w w') (h1 : tSet ∉ ts) (h2 : tE ∉ ts) : SetAt tSet tE size cells w' b sn A c l :=
 ⟨ho _ _ _ h1 h.blk, ownsRow_only h.row ho h2⟩
theorem blk_farB {α : Type} {tSet tE size : Nat} {cells : α → List Value} {b : Nat} {sn : Bool} {A : Option Addr} {c : Nat} {l : List α} {g : Nat} {t : TypeId} {cs : Array Value}
 (hS : SetAt tSet tE size cells w b sn A c l) (hB : Blk w g t cs) (h1 : t ≠ tSet) (h2 : t ≠ tE) : ¬ SetMod b sn A g := by
 rintro (rfl | ⟨_, a, ha, rfl⟩)
 · exact hB.ne_ hS.blk h1 rfl
 · have := own_blk_ne hS.row hB (Ne.symm h2)
   subst ha
   exact this (by simp [Value.ownBlock])
theorem Mine.set_ {α : Type} {tSet tE size : Nat} {cells : α → List Value} {b : Nat} {sn : Bool} {A : Option Addr} {c : Nat} {l : List α} (hS : SetAt tSet tE size cells w b sn A c l) (hF : Fr (SetMod b sn A) w w') (hb : ¬ K b) (hA : AIn A (fun k => ¬ K k)) : Mine [tSet, tE] K w w' :=
 ⟨fun g t cs hn hg => hg.fr hF (blk_farB hS hg (fun e => hn (by simp [e])) (fun e => hn (by simp [e]))), hF.mono (fun k _ hk => by
  rcases hk with rfl | ⟨_, a, ha, rfl⟩
  · exact hb
  · exact hA a ha)⟩
def OSet {α : Type} (tSet tE size : Nat) (cells : α → List Value) (K : Nat → Prop) (w : World) (b : Nat) (l : List α) : Prop :=
 ∃ sn A c, SetAt tSet tE size cells w b sn A c l ∧ ¬ K b ∧ AIn A (fun k => ¬ K k)
section
variable {α : Type} {tSet tE size : Nat} {cells : α → List Value} {bb : Nat} {l l' : List α}
theorem OSet.mine (h : OSet tSet tE size cells K w bb l) (hm : Mine ts K w w') (h1 : tSet ∉ ts) (h2 : tE ∉ ts) : OSet tSet tE size cells K w' bb l := by
 obtain ⟨sn, A, c, g1, g2, g3⟩ := h
 exact ⟨sn, A, c, g1.only hm.only h1 h2, g2, g3⟩
theorem OSet.theirs {M : Nat → Prop} (h : OSet tSet tE size cells K w bb l) (hF : Fr M w w') (hM : ∀ k, M k → K k) (hK : ∀ k, K' k → K k ∨ w.heap.size ≤ k) : OSet tSet tE size cells K' w' bb l := by
 obtain ⟨sn, A, c, g1, g2, g3⟩ := h
 have hl := g1.lt
 have hr := g1.row_lt
 refine ⟨sn, A, c, g1.fr hF (fun h => g2 (hM _ h)) (fun a ha h => g3 a ha (hM _ h)), fun h => (hK _ h).elim g2 (fun h => by omega), fun a ha h => (hK _ h).elim (g3 a ha) (fun h => by have := hr a ha; omega)⟩
theorem OSet.moved {sn : Bool} {A : Option Addr} {sn' : Bool} {A' : Option Addr} {c' : Nat} (hl : ∀ k, K k → k < w.heap.size) (h1 : SetAt tSet tE size cells w' bb sn' A' c' l') (hM : Moved w sn A sn' A') (hb : ¬ K bb) (hA : AIn A (fun k => ¬ K k)) : OSet tSet tE size cells K w' bb l' := by
 refine ⟨sn', A', c', h1, hb, ?_⟩
 rcases hM with ⟨_, rfl⟩ | ⟨_, g, hg, rfl⟩
 · exact hA
 · intro a ha hk
   cases ha
   have := hl _ hk
   dsimp only at this
   omega
end
abbrev OBnum := OSet (α := Int) 125 83 1 Bnum.cells
abbrev OPgR := OSet (α := PgR) 163 120 7 PgR.cells
abbrev OPgT := OSet (α := PgT) 168 135 15 PgT.cells
abbrev OSym := OSet (α := Sym) 139 51 3 Sym.cells
theorem oput_Bnum {sb : Nat} {l : List Int} (k : Int) (h : OBnum K w sb l) (hs : Srt cmpBnum l) (hl : ∀ k, K k → k < w.heap.size) (hn : (l.length : Int) ≤ 100000000) :
 Calls Try.prog 36 #[.pointer (some ⟨sb, 0, none⟩), .int .i64 k] w fun e w' => e = .returned (.bool (!has cmpBnum l k)) ∧ OBnum K w' sb (put cmpBnum l k) ∧ Mine [125, 83] K w w' := by
 obtain ⟨sn, A, c, g1, g2, g3⟩ := h
 refine (put_Bnum sb c sn A l k w g1 hs hn).mono ?_
 rintro e w' ⟨he, sn', A', c', h1, hF, hM⟩
 exact ⟨he, OSet.moved hl h1 hM g2 g3, Mine.set_ g1 hF g2 g3⟩
theorem oput_Sym {sb : Nat} {l : List Sym} (x : Sym) (h : OSym K w sb l) (hs : Srt cmpSym l) (hl : ∀ k, K k → k < w.heap.size) (hn : (l.length : Int) ≤ 100000000) :
 Calls Try.prog 45 #[.pointer (some ⟨sb, 0, none⟩), .agg #[.int .i64 x.kind, .string x.text, .int .i64 x.n]] w fun e w' => e = .returned (.bool (!has cmpSym l x)) ∧ OSym K w' sb (put cmpSym l x) ∧ Mine [139, 51] K w w' := by
 obtain ⟨sn, A, c, g1, g2, g3⟩ := h
 refine (put_Sym sb c sn A l x w g1 hs hn).mono ?_
 rintro e w' ⟨he, sn', A', c', h1, hF, hM⟩
 exact ⟨he, OSet.moved hl h1 hM g2 g3, Mine.set_ g1 hF g2 g3⟩
def OMapR (K : Nat → Prop) (w : World) (bm bp : Nat) (m : List PgR) : Prop := Blk w bm 122 #[.pointer (some ⟨bp, 0, none⟩)] ∧ ¬ K bm ∧ OPgR K w bp m
def OMapT (K : Nat → Prop) (w : World) (bm bp : Nat) (m : List PgT) : Prop := Blk w bm 137 #[.pointer (some ⟨bp, 0, none⟩)] ∧ ¬ K bm ∧ OPgT K w bp m
theorem OMapR.mine {bm bp : Nat} {m : List PgR} (h : OMapR K w bm bp m) (hm : Mine ts K w w') (h0 : 122 ∉ ts) (h1 : 163 ∉ ts) (h2 : 120 ∉ ts) : OMapR K w' bm bp m := ⟨hm.only _ _ _ h0 h.1, h.2.1, h.2.2.mine hm h1 h2⟩
theorem OMapT.mine {bm bp : Nat} {m : List PgT} (h : OMapT K w bm bp m) (hm : Mine ts K w w') (h0 : 137 ∉ ts) (h1 : 168 ∉ ts) (h2 : 135 ∉ ts) : OMapT K w' bm bp m := ⟨hm.only _ _ _ h0 h.1, h.2.1, h.2.2.mine hm h1 h2⟩
theorem OMapR.theirs {M : Nat → Prop} {bm bp : Nat} {m : List PgR} (h : OMapR K w bm bp m) (hF : Fr M w w') (hM : ∀ k, M k → K k) (hK : ∀ k, K' k → K k ∨ w.heap.size ≤ k) : OMapR K' w' bm bp m :=
 ⟨h.1.fr hF (fun hm => h.2.1 (hM _ hm)), fun hk => (hK _ hk).elim h.2.1 (fun hk => by have := h.1.lt; omega), h.2.2.theirs hF hM hK⟩
theorem OMapT.theirs {M : Nat → Prop} {bm bp : Nat} {m : List PgT} (h : OMapT K w bm bp m) (hF : Fr M w w') (hM : ∀ k, M k → K k) (hK : ∀ k, K' k → K k ∨ w.heap.size ≤ k) : OMapT K' w' bm bp m :=
 ⟨h.1.fr hF (fun hm => h.2.1 (hM _ hm)), fun hk => (hK _ hk).elim h.2.1 (fun hk => by have := h.1.lt; omega), h.2.2.theirs hF hM hK⟩
theorem oput_R {bm bp : Nat} {m : List PgR} (x : PgR) (h : OMapR K w bm bp m) (hs : Srt cmpPgR m) (hl : ∀ k, K k → k < w.heap.size) (hn : (m.length : Int) ≤ 1000000) (hh : has cmpPgR m x = false) :
 Calls Try.prog 37 #[.pointer (some ⟨bm, 0, none⟩), .int .i64 x.kk, .agg #[.int .i64 x.num, .int .i64 x.level, .slice x.elems.A x.elems.n x.elems.c, .slice x.holes.A x.holes.n x.holes.c, .slice x.aparts.A x.aparts.n x.aparts.c, .slice x.news.A x.news.n x.news.c]] w fun e w' => e = .returned (.bool true) ∧ OMapR K w' bm bp (put cmpPgR m x) ∧ Mine [163, 120] K w w' := by
 obtain ⟨hb, hbk, sn, A, c, g1, g2, g3⟩ := h
 refine (bkput_PgR bm bp c sn A m x w hb g1 hs hn hh).mono ?_
 rintro e w' ⟨he, sn', A', c', h1, hF, hM⟩
 have hm := Mine.set_ g1 hF g2 g3
 exact ⟨he, ⟨hm.only _ _ _ (by decide) hb, hbk, OSet.moved hl h1 hM g2 g3⟩, hm⟩
theorem oput_T {bm bp : Nat} {m : List PgT} (x : PgT) (h : OMapT K w bm bp m) (hs : Srt cmpPgT m) (hl : ∀ k, K k → k < w.heap.size) (hn : (m.length : Int) ≤ 1000000) (hh : has cmpPgT m x = false) :
 Calls Try.prog 43 #[.pointer (some ⟨bm, 0, none⟩), .int .i64 x.kk, .agg #[.int .i64 x.tr.elem.id.kind, .string x.tr.elem.id.text, .int .i64 x.tr.elem.id.n, .int .i64 x.tr.elem.attr.kind, .string x.tr.elem.attr.text, .int .i64 x.tr.elem.attr.n, .int .i64 x.tr.elem.value.kind, .string x.tr.elem.value.text, .int .i64 x.tr.elem.value.n, .bool x.tr.elem.acc, .bool x.tr.elem.goal, .int .i64 x.tr.elem.tag, .int .i64 x.tr.level, .int .i64 x.tr.cause]] w fun e w' => e = .returned (.bool true) ∧ OMapT K w' bm bp (put cmpPgT m x) ∧ Mine [168, 135] K w w' := by
 obtain ⟨hb, hbk, sn, A, c, g1, g2, g3⟩ := h
 refine (bkput_PgT bm bp c sn A m x w hb g1 hs hn hh).mono ?_
 rintro e w' ⟨he, sn', A', c', h1, hF, hM⟩
 have hm := Mine.set_ g1 hF g2 g3
 exact ⟨he, ⟨hm.only _ _ _ (by decide) hb, hbk, OSet.moved hl h1 hM g2 g3⟩, hm⟩
theorem oget_T {bm bp : Nat} {m : List PgT} (k : Int) (h : OMapT K w bm bp m) (hs : Srt cmpPgT m) (hn : (m.length : Int) ≤ 1000000) :
 Calls Try.prog 42 #[.pointer (some ⟨bm, 0, none⟩), .int .i64 k] w fun e w' => ∃ y : TraceT, e = .returned (.tuple #[.agg #[.int .i64 y.elem.id.kind, .string y.elem.id.text, .int .i64 y.elem.id.n, .int .i64 y.elem.attr.kind, .string y.elem.attr.text, .int .i64 y.elem.attr.n, .int .i64 y.elem.value.kind, .string y.elem.value.text, .int .i64 y.elem.value.n, .bool y.elem.acc, .bool y.elem.goal, .int .i64 y.elem.tag, .int .i64 y.level, .int .i64 y.cause], .bool (has cmpPgT m (zPgT k))]) ∧ Below w.heap.size w w' := by
 obtain ⟨hb, hbk, sn, A, c, g1, g2, g3⟩ := h
 cases hh : has cmpPgT m (zPgT k) with
 | false =>
   refine (bkget_no_PgT bm bp c sn A m k w hb g1 hs hn hh).mono ?_
   rintro e w' ⟨he, hB⟩
   exact ⟨(zPgT 0).tr, he, hB⟩
 | true =>
   obtain ⟨_, _, hk, _⟩ := drop_eq tc_pgt hs hh
   refine (bkget_is_PgT bm bp c sn A m k m[rank cmpPgT m (zPgT k)] w hb g1 hs hn hh (List.getElem?_eq_getElem hk)).mono ?_
   rintro e w' ⟨he, hB⟩
   exact ⟨_, he, hB⟩
structure Prot (B : Nat) (G : (Nat → Prop) → List Int → World → Prop) (K E : Nat → Prop) (done : List Int) (w : World) : Prop where
 g : G E done w
 sub : ∀ k, E k → K k
 low : ∀ k, k < B → K k
 lt : ∀ k, K k → k < w.heap.size
def OPages (n : Nat) (K E : Nat → Prop) (w : World) (bm bp : Nat) (R : List KR) : Prop := ∃ m, OMapR K w bm bp m ∧ Srt cmpPgR m ∧ Each2 (PgRel n (fun j => K j ∧ ¬ E j) w) R m
theorem OPages.mine {n bm bp : Nat} {R : List KR} (h : OPages n K E w bm bp R) (hm : Mine ts K w w') (h0 : 122 ∉ ts) (h1 : 163 ∉ ts) (h2 : 120 ∉ ts) : OPages n K E w' bm bp R := by
 obtain ⟨m, g1, g2, g3⟩ := h
 exact ⟨m, g1.mine hm h0 h1 h2, g2, g3.imp fun a b hr => hr.keep hm.fr.size (fun k hk hl => ⟨hk, hm.fr.block k hl (fun h => h hk.1)⟩)⟩
def OTodo (K : Nat → Prop) (w : World) (v : Value) (todo : List Int) : Prop := QRow w 3 1 v todo.length (todo.flatMap Int.cells1) ∧ ∀ k, v.ownBlock = some k → k < w.heap.size ∧ ¬ K k
theorem QRow.only {e : TypeId} {size n : Nat} {v : Value} {xs : List Value} (h : QRow w e size v n xs) (ho : Only ts w w') (he : e ∉ ts) (_ : 0 < size) : QRow w' e size v n xs := by
 obtain ⟨A, cap, rfl, h1, h2, h3, h4, h5⟩ := h
 refine ⟨A, cap, rfl, h1, h2, h3, h4, fun b hb => ?_⟩
 obtain ⟨g1, g2, g3⟩ := h5 b hb
 refine ⟨g1, g2.imp id (fun ⟨cur, hc, hz⟩ => ⟨cur, ho _ _ _ he hc, hz⟩), fun j u hu => ?_⟩
 rcases g2 with g2 | ⟨cur, hc, hz⟩
 · have : xs = [] := List.eq_nil_of_length_eq_zero (by rw [h3]; have : n = 0 := by omega
                                                       rw [this]; omega)
   subst this
   simp at hu
 · have := g3 j u hu
   rw [hc.cell] at this
   rw [(ho _ _ _ he hc).cell]; exact this
theorem OTodo.mine {v : Value} {todo : List Int} (h : OTodo K w v todo) (hm : Mine ts K w w') (h1 : 3 ∉ ts) : OTodo K w' v todo := ⟨h.1.only hm.only h1 (by decide), fun k hk => ⟨Nat.lt_of_lt_of_le (h.2 k hk).1 hm.fr.size, (h.2 k hk).2⟩⟩
theorem OTodo.theirs {M : Nat → Prop} {v : Value} {todo : List Int} (h : OTodo K w v todo) (hF : Fr M w w') (hM : ∀ k, M k → K k) (hK : ∀ k, K' k → K k ∨ w.heap.size ≤ k) : OTodo K' w' v todo :=
 ⟨h.1.keep hF (fun k hk hm => (h.2 k hk).2 (hM k hm)) (fun k hk => (h.2 k hk).1), fun k hk => ⟨Nat.lt_of_lt_of_le (h.2 k hk).1 hF.size, fun hq => (hK k hq).elim (h.2 k hk).2 (fun hq => by have := (h.2 k hk).1; omega)⟩⟩
end
section
variable {ts : List Nat} {n B gf : Nat} {lb : Array Value} {look : Int → RecordT × Bool} {G : (Nat → Prop) → List Int → World → Prop} {K E : Nat → Prop} {done todo : List Int} {w w' : World} {sb bm bp : Nat} {v : Value}
theorem Prot.mine (hf : FindSpec n B gf lb look G) (h : Prot B G K E done w) (hm : Mine ts K w w') : Prot B G K E done w' :=
 ⟨hf.steady h.g hm.fr (fun k hk => ⟨fun he => hk (h.sub k he), Nat.le_of_not_lt fun hl => hk (h.low k hl)⟩), h.sub, h.low, fun k hk => Nat.lt_of_lt_of_le (h.lt k hk) hm.fr.size⟩
structure St1 (n B : Nat) (look : Int → RecordT × Bool) (G : (Nat → Prop) → List Int → World → Prop) (K E : Nat → Prop) (done todo : List Int) (sb bm bp : Nat) (v : Value) (w : World) : Prop where
 p : Prot B G K E done w
 s : OBnum K w sb (puts cmpBnum [] done)
 m : OPages n K E w bm bp (recsOf look done)
 q : OTodo K w v todo
theorem St1.new_ (hf : FindSpec n B gf lb look G) (h : St1 n B look G K E done todo sb bm bp v w) (hb : Below w.heap.size w w') : St1 n B look G K E done todo sb bm bp v w' :=
 have hm : Mine [] K w w' := Mine.new_ hb
 ⟨h.p.mine hf hm, h.s.mine hm (by simp) (by simp), h.m.mine hm (by simp) (by simp) (by simp), h.q.mine hm (by simp)⟩
end
section
variable {n B gf : Nat} {lb : Array Value} {look : Int → RecordT × Bool} {G : (Nat → Prop) → List Int → World → Prop} {K E E' : Nat → Prop} {done todo : List Int} {w w' : World} {sb bm bp : Nat} {v : Value} {k : Int}
theorem plus_or {K : Nat → Prop} {w w' : World} : ∀ j, Plus K w w' j → K j ∨ w.heap.size ≤ j := fun _ hj => hj.imp id (fun h => h.1)
theorem St1.seen (hf : FindSpec n B gf lb look G) (h : St1 n B look G K E done todo sb bm bp v w) (hs : OBnum K w' sb (put cmpBnum (puts cmpBnum [] done) k)) (hm : Mine [125, 83] K w w') :
 Prot B G K E done w' ∧ OBnum K w' sb (puts cmpBnum [] (done ++ [k])) ∧ OPages n K E w' bm bp (recsOf look done) ∧ OTodo K w' v todo :=
 ⟨h.p.mine hf hm, by rw [puts_snoc]; exact hs, h.m.mine hm (by decide) (by decide) (by decide), h.q.mine hm (by decide)⟩
theorem St1.found (hE : ∀ j, E j → K j) (hp : Prot B G K E done w) (hs : OBnum K w sb (puts cmpBnum [] (done ++ [k]))) (hm : OPages n K E w bm bp (recsOf look done)) (hq : OTodo K w v todo)
 (g1 : G E' (done ++ [k]) w') (g2 : ∀ j, E' j → Plus E w w' j) (g3 : Fr E w w') :
 Prot B G (Plus K w w') E' (done ++ [k]) w' ∧ OBnum (Plus K w w') w' sb (puts cmpBnum [] (done ++ [k])) ∧ OPages n (Plus K w w') E' w' bm bp (recsOf look done) ∧ OTodo (Plus K w w') w' v todo := by
 refine ⟨⟨g1, fun j hj => (g2 j hj).imp (hE j) id, fun j hj => .inl (hp.low j hj), fun j hj => ?_⟩, hs.theirs g3 hE plus_or, ?_, hq.theirs g3 hE plus_or⟩
 · rcases hj with hj | hj
   · exact Nat.lt_of_lt_of_le (hp.lt j hj) g3.size
   · exact hj.2
 · obtain ⟨m, h1, h2, h3⟩ := hm
   refine ⟨m, h1.theirs g3 hE plus_or, h2, h3.imp fun a b hr => hr.keep g3.size (fun j hj hl => ⟨⟨.inl hj.1, fun he => ?_⟩, g3.block j hl hj.2⟩)⟩
   rcases g2 j he with h | h
   · exact hj.2 h
   · omega
theorem opages_put {R : List KR} {r : RecordT} {A1 : Option Addr} {c1 : Nat} {A2 : Option Addr} {c2 : Nat} {A3 : Option Addr} {c3 : Nat} {A4 : Option Addr} {c4 : Nat} (hm : OPages n K E w bm bp R) (hl : ∀ k, K k → k < w.heap.size) (hR : R.length ≤ 100000) (hh : has cmpKR R (k, r) = false)
 (hr : RecAt n (fun j => K j ∧ ¬ E j) w r A1 c1 A2 c2 A3 c3 A4 c4) :
 Calls Try.prog 37 #[.pointer (some ⟨bm, 0, none⟩), .int .i64 k, .agg #[.int .i64 r.num, .int .i64 r.level, .slice A1 r.elems.length c1, .slice A2 r.holes.length c2, .slice A3 r.aparts.length c3, .slice A4 r.news.length c4]] w fun e w' => e = .returned (.bool true) ∧ OPages n K E w' bm bp (put cmpKR R (k, r)) ∧ Mine [163, 120] K w w' := by
 obtain ⟨m, h1, h2, h3⟩ := hm
 have hrel : PgRel n (fun j => K j ∧ ¬ E j) w (k, r) ⟨k, r.num, r.level, ⟨A1, r.elems.length, c1⟩, ⟨A2, r.holes.length, c2⟩, ⟨A3, r.aparts.length, c3⟩, ⟨A4, r.news.length, c4⟩⟩ := ⟨rfl, rfl, rfl, rfl, rfl, rfl, rfl, hr⟩
 obtain ⟨p1, p2⟩ := Each2.put (fun a b h => h.1) h3 hrel
 rw [hh] at p1
 have hml := h3.length
 refine (oput_R ⟨k, r.num, r.level, ⟨A1, r.elems.length, c1⟩, ⟨A2, r.holes.length, c2⟩, ⟨A3, r.aparts.length, c3⟩, ⟨A4, r.news.length, c4⟩⟩ h1 h2 hl (by omega) p1.symm).mono ?_
 rintro e w' ⟨he, g1, g2⟩
 exact ⟨he, ⟨_, g1, h2.put tc_pgr _, p2.imp fun a b hr => hr.keep g2.fr.size (fun j hj hl => ⟨hj, g2.fr.block j hl (fun h => h hj.1)⟩)⟩, g2⟩
end
end Go.Proofs.Ytnfgilbaglfkeaa
namespace Go.Proofs.Ytnfgilbaglfkeaa
open Go.RowKit Go.Shelf
attribute [local go_sem] Oper.semAt_some
theorem trace_at {D : Nat → Prop} {w : World} {A : Option Addr} {c k : Nat} {l : List TraceT} (h : RowR repTraceT D w A c l) (hk : k < l.length) : ∃ g off, A = some ⟨g, off, none⟩ ∧ D g ∧ g < w.heap.size ∧ w.rangeAt g (off + k * 14) [Value.int IntKind.i64 l[k].elem.id.kind, Value.string l[k].elem.id.text, Value.int IntKind.i64 l[k].elem.id.n, Value.int IntKind.i64 l[k].elem.attr.kind, Value.string l[k].elem.attr.text, Value.int IntKind.i64 l[k].elem.attr.n, Value.int IntKind.i64 l[k].elem.value.kind, Value.string l[k].elem.value.text, Value.int IntKind.i64 l[k].elem.value.n, Value.bool l[k].elem.acc, Value.bool l[k].elem.goal, Value.int IntKind.i64 l[k].elem.tag, Value.int IntKind.i64 l[k].level, Value.int IntKind.i64 l[k].cause] := by
 obtain ⟨g, off, cs, hA, hD, hg, hr, hc⟩ := h.at_ hk
 have hr2 : cs = TraceT.cells l[k] := hr
 subst hr2
 refine ⟨g, off, hA, hD, hg, fun j u hu => ?_⟩
 have := hc j u hu
 simpa [repTraceT, RepT.flat] using this
def pushesTo (lv : Int) (l : List TraceT) (k : Nat) : List Int := ((l.take k).filter fun e => decide (lv ≤ e.level) && decide (0 < e.cause)).map TraceT.cause
theorem pushesTo_zero (lv : Int) (l : List TraceT) : pushesTo lv l 0 = [] := by simp [pushesTo]
theorem pushesTo_all (lv : Int) (r : RecordT) : pushesTo lv r.elems r.elems.length = pushes lv r := by simp [pushesTo, pushes]
theorem pushesTo_yes {lv : Int} {l : List TraceT} {k : Nat} (hk : k < l.length) (h1 : lv ≤ l[k].level) (h2 : 0 < l[k].cause) : pushesTo lv l (k + 1) = pushesTo lv l k ++ [l[k].cause] := by
 unfold pushesTo
 rw [← take_snoc hk, List.filter_append, List.map_append]
 simp [h1, h2]
theorem pushesTo_no {lv : Int} {l : List TraceT} {k : Nat} (hk : k < l.length) (h : ¬ (lv ≤ l[k].level ∧ 0 < l[k].cause)) : pushesTo lv l (k + 1) = pushesTo lv l k := by
 unfold pushesTo
 rw [← take_snoc hk, List.filter_append, List.map_append]
 have : (decide (lv ≤ l[k].level) && decide (0 < l[k].cause)) = false := by
  simp only [Bool.and_eq_false_iff, decide_eq_false_iff_not]
  rcases Classical.em (lv ≤ l[k].level) with h3 | h3
  · exact .inr (fun h4 => h ⟨h3, h4⟩)
  · exact .inl h3
 simp [this]
end Go.Proofs.Ytnfgilbaglfkeaa
namespace Go.Proofs.Ytnfgilbaglfkeaa
open Go.RowKit
def pg (e : TraceT) : PgT := ⟨e.elem.tag, e⟩
def lowsTo (lv : Int) (l : List TraceT) (m : Nat) : List TraceT := ((l.take m).filter fun e => decide (e.level < lv)).map bare
theorem lowsTo_zero (lv : Int) (l : List TraceT) : lowsTo lv l 0 = [] := by simp [lowsTo]
theorem lowsTo_all (lv : Int) (r : RecordT) : lowsTo lv r.elems r.elems.length = lows lv r := by simp [lowsTo, lows]
theorem lowsTo_yes {lv : Int} {l : List TraceT} {k : Nat} (hk : k < l.length) (h1 : l[k].level < lv) : lowsTo lv l (k + 1) = lowsTo lv l k ++ [bare l[k]] := by
 unfold lowsTo
 rw [← take_snoc hk, List.filter_append, List.map_append]
 simp [h1]
theorem lowsTo_no {lv : Int} {l : List TraceT} {k : Nat} (hk : k < l.length) (h : ¬ l[k].level < lv) : lowsTo lv l (k + 1) = lowsTo lv l k := by
 unfold lowsTo
 rw [← take_snoc hk, List.filter_append, List.map_append]
 simp [h]
theorem lowsTo_len (lv : Int) (l : List TraceT) (m : Nat) : (lowsTo lv l m).length ≤ l.length := by
 unfold lowsTo
 rw [List.length_map]
 exact Nat.le_trans (List.length_filter_le _ _) (by simp; omega)
def gpg (lv : Int) (R : List KR) : List PgT := puts cmpPgT [] ((R.flatMap fun p => lows lv p.2).map pg)
theorem srt_gpg (lv : Int) (R : List KR) : Srt cmpPgT (gpg lv R) := Srt.puts tc_pgt _ Srt.nil
theorem gpg_snoc (lv : Int) (R : List KR) (p : KR) : gpg lv (R ++ [p]) = puts cmpPgT (gpg lv R) ((lows lv p.2).map pg) := by
 unfold gpg puts
 rw [List.flatMap_append, List.map_append, List.foldl_append]
 simp
theorem flat_le {α β : Type} (f : α → List β) (N : Nat) : ∀ (l : List α), (∀ x ∈ l, (f x).length ≤ N) → (l.flatMap f).length ≤ N * l.length
 | [], _ => by simp
 | x :: l, h => by
   have h1 := h x (by simp)
   have h2 := flat_le f N l (fun y hy => h y (by simp [hy]))
   rw [List.flatMap_cons, List.length_append, List.length_cons, Nat.mul_add]
   omega
theorem len_gpg {lv : Int} {R : List KR} (h : ∀ p ∈ R, p.2.elems.length ≤ 1000) : (gpg lv R).length ≤ 1000 * R.length := by
 have h1 := length_puts_le tc_pgt ((R.flatMap fun p => lows lv p.2).map pg) (l := []) Srt.nil
 have h2 := flat_le (fun p : KR => lows lv p.2) 1000 R (fun p hp => by
  have := h p hp
  unfold lows
  rw [List.length_map]
  exact Nat.le_trans (List.length_filter_le _ _) this)
 simp only [List.length_nil, List.length_map] at h1
 unfold gpg
 omega
theorem any_map {α β : Type} (f : α → β) (p : β → Bool) (l : List α) : (l.map f).any p = l.any fun x => p (f x) := by induction l <;> simp_all
theorem put_map (l : List TraceT) (e : TraceT) : put cmpPgT (l.map pg) (pg e) = (put cmpTag l e).map pg := by
 have h1 : has cmpPgT (l.map pg) (pg e) = has cmpTag l e := by unfold has; rw [any_map]; rfl
 unfold put
 rw [h1]
 split
 · rfl
 · unfold below above
   rw [List.filter_map, List.filter_map, List.map_append, List.map_cons]
   rfl
theorem gpg_eq (lv : Int) (R : List KR) : gpg lv R = (groundsOf lv R).map pg := by
 unfold gpg groundsOf puts
 generalize (R.flatMap fun p => lows lv p.2) = L
 have : ∀ (L : List TraceT) (l : List TraceT), (L.map pg).foldl (put cmpPgT) (l.map pg) = (L.foldl (put cmpTag) l).map pg := by
  intro L
  induction L with
  | nil => intro l; rfl
  | cons e L ih => intro l; rw [List.map_cons, List.foldl_cons, List.foldl_cons, put_map, ih]
 exact this L []
theorem newsOf_snoc (R : List KR) (p : KR) : newsOf (R ++ [p]) = p.2.news.foldl once (newsOf R) := by
 unfold newsOf
 rw [List.flatMap_append, List.foldl_append]
 simp
theorem mem_putsS {done l : List Sym} {k : Sym} : k ∈ puts cmpSym l done ↔ k ∈ l ∨ k ∈ done := by
 induction done generalizing l with
 | nil => simp [puts]
 | cons x done ih =>
   have e : puts cmpSym l (x :: done) = puts cmpSym (put cmpSym l x) done := rfl
   rw [e, ih, List.mem_cons]
   have hp : k ∈ put cmpSym l x ↔ k ∈ l ∨ k = x := by
    constructor
    · exact mem_put
    · intro h
      unfold put
      split
      · rename_i hh
        rcases h with h | h
        · exact h
        · obtain ⟨y, hy, e⟩ := has_iff.1 hh
          rw [h, ← cmpSym_eq.1 e]; exact hy
      · rename_i hh
        simp only [List.mem_append, List.mem_cons]
        rcases h with h | h
        · have := has_false.1 (by simpa using hh) k h
          rcases Int.lt_trichotomy (cmpSym k x) 0 with h2 | h2 | h2
          · exact .inl (mem_below.2 ⟨h, h2⟩)
          · exact absurd h2 this
          · exact .inr (.inr (mem_above.2 ⟨h, h2⟩))
        · exact .inr (.inl h)
   rw [hp]
   constructor
   · rintro ((h | h) | h)
     · exact .inl h
     · exact .inr (.inl h)
     · exact .inr (.inr h)
   · rintro (h | h | h)
     · exact .inl (.inl h)
     · exact .inl (.inr h)
     · exact .inr h
theorem has_putsS (l : List Sym) (k : Sym) : has cmpSym (puts cmpSym [] l) k = decide (k ∈ l) := by
 by_cases h : k ∈ l
 · rw [decide_eq_true h]
   exact has_iff.2 ⟨k, mem_putsS.2 (.inr h), cmpSym_eq.2 rfl⟩
 · rw [decide_eq_false h, has_false]
   intro y hy e
   rcases mem_putsS.1 hy with h2 | h2
   · cases h2
   · exact h (by rw [← cmpSym_eq.1 e]; exact h2)
theorem once_len (L l : List Sym) : (L.foldl once l).length ≤ l.length + L.length := by
 induction L generalizing l with
 | nil => simp
 | cons s L ih =>
   rw [List.foldl_cons]
   have := ih (once l s)
   have h2 : (once l s).length ≤ l.length + 1 := by unfold once; split <;> simp
   simp only [List.length_cons]
   omega
theorem len_news {R : List KR} (h : ∀ p ∈ R, p.2.news.length ≤ 1000) : (newsOf R).length ≤ 1000 * R.length := by
 have h1 := once_len (R.flatMap fun p => p.2.news) []
 have h2 := flat_le (fun p : KR => p.2.news) 1000 R h
 unfold newsOf
 simp only [List.length_nil] at h1
 omega
def Solid {α : Type} (r : RepT α) : Prop := ∀ {D : Nat → Prop} {w : World} {a : α} {cs : List Value}, r.rep D w a cs → r.rep (fun k => D k ∧ cellsAt w k) w a cs
theorem RowR.solid {α : Type} {r : RepT α} (hs : Solid r) (h0 : 0 < r.size) {D : Nat → Prop} {w : World} {A : Option Addr} {c : Nat} {l : List α} (h : RowR r D w A c l) : RowR r (fun k => D k ∧ cellsAt w k) w A c l := by
 refine ⟨h.1, h.2.1, fun hl => ?_⟩
 obtain ⟨b, off, h1, h2, h3, h4⟩ := h.2.2 hl
 refine ⟨b, off, h1, ⟨h2, ?_⟩, h3, fun k hk => ?_⟩
 · obtain ⟨cs, g1, g2⟩ := h4 0 hl
   have hlen := r.len g1
   have := g2 0 cs[0] (List.getElem?_eq_getElem (by omega))
   exact cell_at this
 · obtain ⟨cs, g1, g2⟩ := h4 k hk
   exact ⟨cs, hs g1, g2⟩
theorem solid_flat {α : Type} (size : Nat) (cells : α → List Value) (h : ∀ a, (cells a).length = size) : Solid (RepT.flat size cells h) := fun h => h
theorem solid_test : Solid repTestT := by
 rintro D w a cs ⟨A1, c1, h0, h1⟩
 exact ⟨A1, c1, h0, h1.solid (solid_flat _ _ _) (by decide)⟩
theorem solid_cond1 {n : Nat} (ih : Solid (repCondT n)) : Solid (repCondT (n + 1)) := by
 rintro D w a cs ⟨A1, c1, A2, c2, A3, c3, h0, h1, h2, h3⟩
 exact ⟨A1, c1, A2, c2, A3, c3, h0, h1.solid solid_test (by decide), h2.solid solid_test (by decide), h3.solid ih (by rw [repCondT_size]; decide)⟩
theorem solid_cond (n : Nat) : Solid (repCondT n) := by
 induction n with
 | zero => intro D w a cs h; exact h.elim
 | succ n ih => exact solid_cond1 ih
end Go.Proofs.Ytnfgilbaglfkeaa
namespace Go.Proofs.Ytnfgilbaglfkeaa
open Go.RowKit
section
variable {B : Nat} {K K' C : Nat → Prop} {w w' : World}
theorem OSet.priv {α : Type} {tSet tE size : Nat} {cells : α → List Value} {b : Nat} {l : List α} (h : OSet tSet tE size cells K w b l) (hp : Priv B w w') : OSet tSet tE size cells K w' b l := by
 obtain ⟨sn, A, c, g1, g2, g3⟩ := h
 exact ⟨sn, A, c, g1.priv hp, g2, g3⟩
theorem OSet.cls {α : Type} {tSet tE size : Nat} {cells : α → List Value} {b : Nat} {l : List α} (h : OSet tSet tE size cells K w b l) (hk : ∀ k, cellsAt w k → K' k → K k) : OSet tSet tE size cells K' w b l := by
 obtain ⟨sn, A, c, g1, g2, g3⟩ := h
 refine ⟨sn, A, c, g1, fun h => g2 (hk _ g1.blk.at_ h), fun a ha h => g3 a ha (hk _ ?_ h)⟩
 subst ha
 rcases ownsRow_form g1.row with ⟨hv, _⟩ | ⟨g, cap, hv, _, _, ⟨cur, hc, _⟩, _⟩
 · cases hv
 · injection hv with hv
   injection hv with hv
   subst hv
   exact ⟨cur, tE, (0, 0), hc⟩
theorem OwnC.priv {α : Type} {r : RepT α} {e : TypeId} {v : Value} {l : List α} (h : OwnC r e C w v l) (hp : Priv B w w') (hC : ∀ k, C k → k < B ∨ cellsAt w k) : OwnC r e C w' v l := by
 obtain ⟨css, h1, h2, h3⟩ := h
 exact ⟨css, ownsRow_priv h1 hp, h2.imp fun a cs hr => r.keep hp.size (fun k hk hl => ⟨hk, hp.block k hl (hC k hk)⟩) hr, h3⟩
theorem own_cells {e : TypeId} {size n : Nat} {v : Value} {xs : List Value} (h : w.ownsRow 0 e size v n xs) : ∀ k, v.ownBlock = some k → cellsAt w k := by
 intro k hk
 rcases h.2 with ⟨rfl, _⟩ | ⟨g, cap, cur, rfl, _, hg, _⟩
 · cases hk
 · simp only [Value.ownBlock, Option.some.injEq] at hk
   subst hk
   exact ⟨cur, e, (0, 0), hg⟩
end
structure SR (n B : Nat) (K C : Nat → Prop) (w : World) (gt gm gp ns : Nat) (vis lost : Int) (es : List TraceT) (gs : List PgT) (hs : List HoleT) (ap : List ApartT) (nw : List Sym) (v0 v1 v2 v3 : Value) : Prop where
 blk : Blk w gt 32 #[v0, v1, v2, v3, .int .i64 vis, .int .i64 lost]
 o0 : w.ownsRow 0 55 14 v0 es.length (es.flatMap TraceT.cells)
 n0 : ∀ k, v0.ownBlock = some k → ¬ K k
 o1 : OwnC (repHoleT n) 76 C w v1 hs
 n1 : ∀ k, v1.ownBlock = some k → ¬ K k
 o2 : w.ownsRow 0 111 7 v2 ap.length (ap.flatMap ApartT.cells)
 n2 : ∀ k, v2.ownBlock = some k → ¬ K k
 o3 : w.ownsRow 0 51 3 v3 nw.length (nw.flatMap Sym.cells)
 n3 : ∀ k, v3.ownBlock = some k → ¬ K k
 set_ : OSym (fun k => K k ∨ v3.ownBlock = some k) w ns (puts cmpSym [] nw)
 map_ : OMapT K w gm gp gs
 srt : Srt cmpPgT gs
 nog : ¬ K gt
 sub : ∀ k, C k → K k
 lt : ∀ k, K k → k < w.heap.size
 cel : ∀ k, C k → k < B ∨ cellsAt w k
section
variable {n B : Nat} {K K' C : Nat → Prop} {w w' : World} {gt gm gp ns : Nat} {vis lost : Int} {es : List TraceT} {gs : List PgT} {hs : List HoleT} {ap : List ApartT} {nw : List Sym} {v0 v1 v2 v3 : Value}
theorem SR.mine {ts : List Nat} (h : SR n B K C w gt gm gp ns vis lost es gs hs ap nw v0 v1 v2 v3) (hm : Mine ts K w w') (h3 : 32 ∉ ts) (h4 : 55 ∉ ts) (h5 : 76 ∉ ts) (h6 : 111 ∉ ts) (h7 : 51 ∉ ts) (h8 : 139 ∉ ts) (h9 : 137 ∉ ts) (h10 : 168 ∉ ts) (h11 : 135 ∉ ts) :
 SR n B K C w' gt gm gp ns vis lost es gs hs ap nw v0 v1 v2 v3 := by
 obtain ⟨css, q1, q2, q3⟩ := h.o1
 have hc : ∀ k, C k → k < w.heap.size → w'.heap[k]? = w.heap[k]? := fun k hk hl => hm.fr.block k hl (fun hn => hn (h.sub k hk))
 refine ⟨hm.only _ _ _ h3 h.blk, ownsRow_only h.o0 hm.only h4, h.n0, ⟨css, ownsRow_only q1 hm.only h5, q2.imp fun a cs hr => (repHoleT n).keep hm.fr.size (fun k hk hl => ⟨hk, hc k hk hl⟩) hr, q3⟩, h.n1, ownsRow_only h.o2 hm.only h6, h.n2, ownsRow_only h.o3 hm.only h7, h.n3, ?_, h.map_.mine hm h9 h10 h11, h.srt, h.nog, h.sub, fun k hk => Nat.lt_of_lt_of_le (h.lt k hk) hm.fr.size, fun k hk => (h.cel k hk).imp id (fun ⟨c, t, f, hh⟩ => ⟨c, t, f, (hc k hk (Array.getElem?_eq_some_iff.1 hh).1).trans hh⟩)⟩
 obtain ⟨sn, A, c, g1, g2, g3⟩ := h.set_
 exact ⟨sn, A, c, g1.only hm.only h8 h7, g2, g3⟩
theorem SR.new_ (h : SR n B K C w gt gm gp ns vis lost es gs hs ap nw v0 v1 v2 v3) (hb : Below w.heap.size w w') : SR n B K C w' gt gm gp ns vis lost es gs hs ap nw v0 v1 v2 v3 :=
 h.mine (ts := []) (Mine.new_ hb) (by simp) (by simp) (by simp) (by simp) (by simp) (by simp) (by simp) (by simp) (by simp)
theorem SR.priv (h : SR n B K C w gt gm gp ns vis lost es gs hs ap nw v0 v1 v2 v3) (hp : Priv B w w') : SR n B K C w' gt gm gp ns vis lost es gs hs ap nw v0 v1 v2 v3 :=
 ⟨h.blk.priv hp, ownsRow_priv h.o0 hp, h.n0, h.o1.priv hp h.cel, h.n1, ownsRow_priv h.o2 hp, h.n2, ownsRow_priv h.o3 hp, h.n3, h.set_.priv hp, ⟨h.map_.1.priv hp, h.map_.2.1, h.map_.2.2.priv hp⟩, h.srt, h.nog, h.sub, fun k hk => Nat.lt_of_lt_of_le (h.lt k hk) hp.size, fun k hk => (h.cel k hk).imp id (fun ⟨c, t, f, hh⟩ => ⟨c, t, f, (hp.block k (Array.getElem?_eq_some_iff.1 hh).1 (.inr ⟨c, t, f, hh⟩)).trans hh⟩)⟩
theorem SR.cls (h : SR n B K C w gt gm gp ns vis lost es gs hs ap nw v0 v1 v2 v3) (hk : ∀ k, cellsAt w k → K' k → K k) (hC : ∀ k, C k → K' k) (hl : ∀ k, K' k → k < w.heap.size) : SR n B K' C w gt gm gp ns vis lost es gs hs ap nw v0 v1 v2 v3 := by
 obtain ⟨css, q1, q2, q3⟩ := h.o1
 exact ⟨h.blk, h.o0, fun k e hK => h.n0 k e (hk k (own_cells h.o0 k e) hK), h.o1, fun k e hK => h.n1 k e (hk k (own_cells q1 k e) hK), h.o2, fun k e hK => h.n2 k e (hk k (own_cells h.o2 k e) hK), h.o3, fun k e hK => h.n3 k e (hk k (own_cells h.o3 k e) hK),
  h.set_.cls (fun k hc hK => hK.imp (hk k hc) id), ⟨h.map_.1, fun hK => h.map_.2.1 (hk _ h.map_.1.at_ hK), h.map_.2.2.cls hk⟩, h.srt, fun hK => h.nog (hk _ h.blk.at_ hK), hC, hl, h.cel⟩
theorem SR.frB {M : Nat → Prop} (h : SR n B K C w gt gm gp ns vis lost es gs hs ap nw v0 v1 v2 v3) (hF : Fr M w w') (hM : ∀ k, M k → K k ∧ ¬ C k) : SR n B K C w' gt gm gp ns vis lost es gs hs ap nw v0 v1 v2 v3 := by
 have hc : ∀ k, C k → ¬ M k := fun k hk hm => (hM k hm).2 hk
 obtain ⟨sn, A, c, g1, g2, g3⟩ := h.set_
 refine ⟨h.blk.fr hF (fun hm => h.nog (hM _ hm).1), ownsRow_fr h.o0 hF (fun k e hm => h.n0 k e (hM k hm).1), h.n0, h.o1.fr hF hc (fun k e hm => h.n1 k e (hM k hm).1), h.n1, ownsRow_fr h.o2 hF (fun k e hm => h.n2 k e (hM k hm).1), h.n2, ownsRow_fr h.o3 hF (fun k e hm => h.n3 k e (hM k hm).1), h.n3,
  ⟨sn, A, c, g1.fr hF (fun hm => g2 (.inl (hM _ hm).1)) (fun a ha hm => g3 a ha (.inl (hM _ hm).1)), g2, g3⟩, h.map_.theirs hF (fun k hm => (hM k hm).1) (fun k hk => .inl hk), h.srt, h.nog, h.sub, fun k hk => Nat.lt_of_lt_of_le (h.lt k hk) hF.size, fun k hk => (h.cel k hk).imp id (fun ⟨c, t, f, hh⟩ => ⟨c, t, f, (hF.block k (Array.getElem?_eq_some_iff.1 hh).1 (hc k hk)).trans hh⟩)⟩
theorem SR.ground {gs' : List PgT} (h : SR n B K C w gt gm gp ns vis lost es gs hs ap nw v0 v1 v2 v3) (hm : Mine [168, 135] K w w') (h1 : OMapT K w' gm gp gs') (h2 : Srt cmpPgT gs') : SR n B K C w' gt gm gp ns vis lost es gs' hs ap nw v0 v1 v2 v3 := by
 obtain ⟨css, q1, q2, q3⟩ := h.o1
 have hc : ∀ k, C k → k < w.heap.size → w'.heap[k]? = w.heap[k]? := fun k hk hl => hm.fr.block k hl (fun hn => hn (h.sub k hk))
 refine ⟨hm.only _ _ _ (by decide) h.blk, ownsRow_only h.o0 hm.only (by decide), h.n0, ⟨css, ownsRow_only q1 hm.only (by decide), q2.imp fun a cs hr => (repHoleT n).keep hm.fr.size (fun k hk hl => ⟨hk, hc k hk hl⟩) hr, q3⟩, h.n1, ownsRow_only h.o2 hm.only (by decide), h.n2, ownsRow_only h.o3 hm.only (by decide), h.n3, ?_, h1, h2, h.nog, h.sub, fun k hk => Nat.lt_of_lt_of_le (h.lt k hk) hm.fr.size, fun k hk => (h.cel k hk).imp id (fun ⟨c, t, f, hh⟩ => ⟨c, t, f, (hc k hk (Array.getElem?_eq_some_iff.1 hh).1).trans hh⟩)⟩
 obtain ⟨sn, A, c, g1, g2, g3⟩ := h.set_
 exact ⟨sn, A, c, g1.only hm.only (by decide) (by decide), g2, g3⟩
end
end Go.Proofs.Ytnfgilbaglfkeaa
