/-
  Texts put together: BookPut, BookPut2, SymWord, SymDigits, SymValid, TabNew, TabPut, TabFresh.
-/
import Derived.Test.YthogokcbbkjcdaaMc
import Derived.Deep.Cut
import Derived.Test.YthogokcbbkjcdaaMa
import Derived.Test.YthogokcbbkjcdaaMb
import Derived.Lib.SlBytesRow

namespace Go.Proofs.Ythogokcbbkjcdaa
open Go.RowKit
/-- Behind a map's Put. -/
def MapPut (D : Nat → Prop) (w : World) (S : Nat → Option (List Sym)) (σ : Nat → St) (S2 : Nat → Option (List Page)) (σ2 : Nat → St) (bp : Nat) (m : List Page) (w' : World) : Prop :=
  (∃ σ2', Tabs D w' S σ (upd S2 bp (some m)) σ2' ∧ ∀ k, k < w.heap.size → Off k S2 σ2 → Off k (upd S2 bp (some m)) σ2') ∧ KB w w' ∧ Fr (fun k => ¬ D k) w w'
set_option maxRecDepth 100000 in
set_option maxHeartbeats 4000000 in
theorem mapput_no {D : Nat → Prop} {w : World} {S : Nat → Option (List Sym)} {σ : Nat → St} {S2 : Nat → Option (List Page)} {σ2 : Nat → St} (bm bp : Nat) (m : List Page) (c : UInt8) (v : Int) (hT : Tabs D w S σ S2 σ2) (hb : S2 bp = some m) (hM : Blk w bm 75 #[.pointer (some ⟨bp, 0, none⟩)]) (hl : (m.length : Int) ≤ 1000000) (hh : has cmpPage m ⟨c, 0⟩ = false) :
    Calls Try.prog 44 #[.pointer (some ⟨bm, 0, none⟩), .int .u8 (c.toNat : Int), .int .i64 v] w fun e w' => e = .returned (.bool true) ∧ MapPut D w S σ S2 σ2 bp (mput m ⟨c, v⟩) w' := by
  have hS := hT.pages.at_ bp m hb
  have hs := hT.pages.srt bp m hb
  obtain ⟨sn, hsn⟩ : ∃ sn, sn = (σ2 bp).sn := ⟨_, rfl⟩
  obtain ⟨A, hA⟩ : ∃ A, A = (σ2 bp).A := ⟨_, rfl⟩
  obtain ⟨cc, hcc⟩ : ∃ cc, cc = (σ2 bp).c := ⟨_, rfl⟩
  rw [← hsn, ← hA, ← hcc] at hS
  clear hsn hA hcc
  have s0 := (hM.cell 0).trans rfl
  have hml := hM.lt
  have HS := Lib.hid hS
  have HO := Lib.hid hs
  have HM := Lib.hid hM
  have HH := Lib.hid hh
  have HT := Lib.hid hT
  have HBB := Lib.hid hb
  clear hS hs hM hh hT hb
  go_enter Try.func44, Try.ntmps44
  go_upto_region 3 with (fail)
  go_cut [8] from 11 (fun b wc => b = .bool false ∧ Below w.heap.size w wc)
  case first =>
    refine wp_region_Pl (fun w9 => Below w.heap.size w w9) [0, 1, 2, 3, 4, 7, 8, 9, 12] [3] (.fork [(0, 0), (1, 0), (2, 0), (3, 1), (4, 0)] 5 (.fork [] 6 (.fin [(7, 0), (8, 0), (9, 0), (10, 2), (11, 2), (12, 0)]) 10 (.fin [(6, 2), (7, 0), (8, 0), (9, 0), (11, 2), (12, 0)])) 10 (.fin [(5, 2), (6, 2), (7, 0), (8, 0), (9, 0), (11, 2), (12, 0)])) (by kernel_rfl) (by kernel_rfl) (by kernel_rfl) (fun KK hKK => ?_)
    simp only [wpPl, beside, List.filterMap_cons, List.filterMap_nil, List.getElem?_toArray, List.getElem?_cons_zero, List.getElem?_cons_succ, Option.map_some]
    repeat (first | (refine wpY_w ?_ (Or.inl ⟨by rfl, fun w9 => ?_⟩) ?_; rotate_left 1; go_simp; with_reducible rfl; simp only [Act.put, List.setIfInBounds_toArray, List.set_cons_zero, List.set_cons_succ]) | (refine wpY_l ?_ ((Below.refl _ _).drew) (Or.inl ⟨by rfl, fun w9 hw9 => ?_⟩) ?_; rotate_left 1; obtain ⟨hc9, hf9⟩ := bcell hw9; go_simp; with_reducible rfl; simp only [Act.put, List.setIfInBounds_toArray, List.set_cons_zero, List.set_cons_succ]) | (refine wpY_w undef (Or.inr ⟨by rfl, rfl⟩) ?_; simp only [Act.put, List.setIfInBounds_toArray, List.set_cons_zero, List.set_cons_succ]) | (refine wpY_l undef ((Below.refl _ _).drew) (Or.inr ⟨by rfl, rfl⟩) ?_; simp only [Act.put, List.setIfInBounds_toArray, List.set_cons_zero, List.set_cons_succ]))
    refine wpY_nil ⟨?_, ?_⟩
    · refine wpOp_cs rfl (fun K9 hK9 => ?_)
      go_simp
      refine (at_is c _).mono ?_
      rintro e wa ⟨rfl, hba⟩
      have HBa := Lib.hid (((Below.refl w.heap.size w).drew).trans (hba.mono (by first | omega | simp)))
      clear hba
      have hza := HBa.out.size
      refine hK9 _ _ (fun _ => HBa.out) ?_
      clear hK9 K9
      try simp only [Act.put, List.setIfInBounds_toArray, List.set_cons_zero, List.set_cons_succ]
      try simp only [beside, List.filterMap_nil]
      refine wpY_nil ⟨?_, ?_⟩
      · refine wpOp_cs rfl (fun K9 hK9 => ?_)
        go_simp
        refine (get_no_Page bp cc sn A m ⟨c, 0⟩ _ (HS.out.new_ (HBa.out)) HO.out (by omega) HH.out).mono ?_
        rintro e wg ⟨rfl, hbg⟩
        have HBg := Lib.hid ((HBa.out).trans (hbg.mono (by have := HBa.out.size; first | omega | (simp; done) | (simp; omega))))
        clear hbg
        have hzg := HBg.out.size
        refine hK9 _ _ (fun _ => HBg.out) ?_
        clear hK9 K9
        try simp only [Act.put, List.setIfInBounds_toArray, List.set_cons_zero, List.set_cons_succ]
        try simp only [beside, List.filterMap_nil]
        repeat (first | (refine wpY_w ?_ (Or.inl ⟨by rfl, fun w9 => ?_⟩) ?_; rotate_left 1; go_simp; with_reducible rfl; simp only [Act.put, List.setIfInBounds_toArray, List.set_cons_zero, List.set_cons_succ]) | (refine wpY_l ?_ (HBg.out) (Or.inl ⟨by rfl, fun w9 hw9 => ?_⟩) ?_; rotate_left 1; obtain ⟨hc9, hf9⟩ := bcell hw9; go_simp; with_reducible rfl; simp only [Act.put, List.setIfInBounds_toArray, List.set_cons_zero, List.set_cons_succ]) | (refine wpY_w undef (Or.inr ⟨by rfl, rfl⟩) ?_; simp only [Act.put, List.setIfInBounds_toArray, List.set_cons_zero, List.set_cons_succ]) | (refine wpY_l undef (HBg.out) (Or.inr ⟨by rfl, rfl⟩) ?_; simp only [Act.put, List.setIfInBounds_toArray, List.set_cons_zero, List.set_cons_succ]))
        refine wpY_es (fun K9 hK9 => ?_)
        go_simp
        have hB9 := (HBg.out).alloc (by have := HBg.out.size; first | omega | (simp; done) | (simp; omega)) (.cells #[.int .u8 0, .int .i64 0] 73)
        have HB9 := Lib.hid hB9
        have hk9 : Blk (wg.alloc (.cells #[.int .u8 0, .int .i64 0] 73)) wg.heap.size 73 #[.int .u8 0, .int .i64 0] := Blk.new wg 73 #[.int .u8 0, .int .i64 0]
        have HK9 := Lib.hid hk9
        clear hB9 hk9
        have hz9 := HB9.out.size
        refine hK9 _ _ (HB9.out) ?_
        clear hK9 K9
        try simp only [Act.put, List.setIfInBounds_toArray, List.set_cons_zero, List.set_cons_succ]
        refine wpY_es (fun K9 hK9 => ?_)
        have u0 := ((HK9.out).cell 0).trans rfl
        have u1 := ((HK9.out).cell 1).trans rfl
        have f0 := (HK9.out).frozen 0
        have f1 := (HK9.out).frozen 1
        have hgl := (HK9.out).lt
        go_simp
        refine hK9 _ _ (by (repeat (first | exact Below.refl _ _ | exact HBa.out | exact HBg.out | exact HB9.out | (refine Below.drew ?_) | (refine Below.alloc ?_ (by first | omega | (simp; done) | (simp; omega)) _) | (refine Below.setCell ?_ (by first | omega | (simp; done) | (simp; omega)) _)))) ?_
        clear hK9 K9
        try simp only [Act.put, List.setIfInBounds_toArray, List.set_cons_zero, List.set_cons_succ]
        repeat (first | (refine wpY_w ?_ (Or.inl ⟨by rfl, fun w9 => ?_⟩) ?_; rotate_left 1; go_simp; with_reducible rfl; simp only [Act.put, List.setIfInBounds_toArray, List.set_cons_zero, List.set_cons_succ]) | (refine wpY_l ?_ (by (repeat (first | exact Below.refl _ _ | exact HBa.out | exact HBg.out | exact HB9.out | (refine Below.drew ?_) | (refine Below.alloc ?_ (by first | omega | (simp; done) | (simp; omega)) _) | (refine Below.setCell ?_ (by first | omega | (simp; done) | (simp; omega)) _)))) (Or.inl ⟨by rfl, fun w9 hw9 => ?_⟩) ?_; rotate_left 1; obtain ⟨hc9, hf9⟩ := bcell hw9; go_simp; with_reducible rfl; simp only [Act.put, List.setIfInBounds_toArray, List.set_cons_zero, List.set_cons_succ]) | (refine wpY_w undef (Or.inr ⟨by rfl, rfl⟩) ?_; simp only [Act.put, List.setIfInBounds_toArray, List.set_cons_zero, List.set_cons_succ]) | (refine wpY_l undef (by (repeat (first | exact Below.refl _ _ | exact HBa.out | exact HBg.out | exact HB9.out | (refine Below.drew ?_) | (refine Below.alloc ?_ (by first | omega | (simp; done) | (simp; omega)) _) | (refine Below.setCell ?_ (by first | omega | (simp; done) | (simp; omega)) _)))) (Or.inr ⟨by rfl, rfl⟩) ?_; simp only [Act.put, List.setIfInBounds_toArray, List.set_cons_zero, List.set_cons_succ]))
        refine wpY_nil ?_
        simp only [OnlyN_normal]
        refine hKK _ _ ?_
        clear hKK KK
        go_wp2_with fail
        go_meet
        case rel => exact ⟨rfl, by (repeat (first | exact Below.refl _ _ | exact HBa.out | exact HBg.out | exact HB9.out | (refine Below.drew ?_) | (refine Below.alloc ?_ (by first | omega | (simp; done) | (simp; omega)) _) | (refine Below.setCell ?_ (by first | omega | (simp; done) | (simp; omega)) _)))⟩
      · refine wpOp_cs rfl (fun K9 hK9 => ?_)
        go_simp
        have hB9 := (HBa.out).alloc (by have := HBa.out.size; first | omega | (simp; done) | (simp; omega)) (.cells #[.int .u8 0, .int .i64 0] 73)
        have HB9 := Lib.hid hB9
        have hk9 : Blk (wa.alloc (.cells #[.int .u8 0, .int .i64 0] 73)) wa.heap.size 73 #[.int .u8 0, .int .i64 0] := Blk.new wa 73 #[.int .u8 0, .int .i64 0]
        have HK9 := Lib.hid hk9
        clear hB9 hk9
        have hz9 := HB9.out.size
        refine hK9 _ _ (fun _ => HB9.out) ?_
        clear hK9 K9
        try simp only [Act.put, List.setIfInBounds_toArray, List.set_cons_zero, List.set_cons_succ]
        try simp only [beside, List.filterMap_nil]
        refine wpY_es (fun K9 hK9 => ?_)
        go_simp
        refine (get_no_Page bp cc sn A m ⟨c, 0⟩ _ (HS.out.new_ (HB9.out)) HO.out (by omega) HH.out).mono ?_
        rintro e wg ⟨rfl, hbg⟩
        have hkg := (HK9.out).new_ hbg
        have HKg := Lib.hid hkg
        clear hkg
        have HBg := Lib.hid ((HB9.out).trans (hbg.mono (by have := HB9.out.size; first | omega | (simp at this ⊢; done) | (simp at this ⊢; omega))))
        clear hbg
        have hzg := HBg.out.size
        refine hK9 _ _ (HBg.out) ?_
        clear hK9 K9
        try simp only [Act.put, List.setIfInBounds_toArray, List.set_cons_zero, List.set_cons_succ]
        repeat (first | (refine wpY_w ?_ (Or.inl ⟨by rfl, fun w9 => ?_⟩) ?_; rotate_left 1; go_simp; with_reducible rfl; simp only [Act.put, List.setIfInBounds_toArray, List.set_cons_zero, List.set_cons_succ]) | (refine wpY_l ?_ (HBg.out) (Or.inl ⟨by rfl, fun w9 hw9 => ?_⟩) ?_; rotate_left 1; obtain ⟨hc9, hf9⟩ := bcell hw9; go_simp; with_reducible rfl; simp only [Act.put, List.setIfInBounds_toArray, List.set_cons_zero, List.set_cons_succ]) | (refine wpY_w undef (Or.inr ⟨by rfl, rfl⟩) ?_; simp only [Act.put, List.setIfInBounds_toArray, List.set_cons_zero, List.set_cons_succ]) | (refine wpY_l undef (HBg.out) (Or.inr ⟨by rfl, rfl⟩) ?_; simp only [Act.put, List.setIfInBounds_toArray, List.set_cons_zero, List.set_cons_succ]))
        refine wpY_es (fun K9 hK9 => ?_)
        have u0 := ((HKg.out).cell 0).trans rfl
        have u1 := ((HKg.out).cell 1).trans rfl
        have f0 := (HKg.out).frozen 0
        have f1 := (HKg.out).frozen 1
        have hgl := (HKg.out).lt
        go_simp
        refine hK9 _ _ (by (repeat (first | exact Below.refl _ _ | exact HBa.out | exact HB9.out | exact HBg.out | (refine Below.drew ?_) | (refine Below.alloc ?_ (by first | omega | (simp; done) | (simp; omega)) _) | (refine Below.setCell ?_ (by first | omega | (simp; done) | (simp; omega)) _)))) ?_
        clear hK9 K9
        try simp only [Act.put, List.setIfInBounds_toArray, List.set_cons_zero, List.set_cons_succ]
        repeat (first | (refine wpY_w ?_ (Or.inl ⟨by rfl, fun w9 => ?_⟩) ?_; rotate_left 1; go_simp; with_reducible rfl; simp only [Act.put, List.setIfInBounds_toArray, List.set_cons_zero, List.set_cons_succ]) | (refine wpY_l ?_ (by (repeat (first | exact Below.refl _ _ | exact HBa.out | exact HB9.out | exact HBg.out | (refine Below.drew ?_) | (refine Below.alloc ?_ (by first | omega | (simp; done) | (simp; omega)) _) | (refine Below.setCell ?_ (by first | omega | (simp; done) | (simp; omega)) _)))) (Or.inl ⟨by rfl, fun w9 hw9 => ?_⟩) ?_; rotate_left 1; obtain ⟨hc9, hf9⟩ := bcell hw9; go_simp; with_reducible rfl; simp only [Act.put, List.setIfInBounds_toArray, List.set_cons_zero, List.set_cons_succ]) | (refine wpY_w undef (Or.inr ⟨by rfl, rfl⟩) ?_; simp only [Act.put, List.setIfInBounds_toArray, List.set_cons_zero, List.set_cons_succ]) | (refine wpY_l undef (by (repeat (first | exact Below.refl _ _ | exact HBa.out | exact HB9.out | exact HBg.out | (refine Below.drew ?_) | (refine Below.alloc ?_ (by first | omega | (simp; done) | (simp; omega)) _) | (refine Below.setCell ?_ (by first | omega | (simp; done) | (simp; omega)) _)))) (Or.inr ⟨by rfl, rfl⟩) ?_; simp only [Act.put, List.setIfInBounds_toArray, List.set_cons_zero, List.set_cons_succ]))
        refine wpY_nil ?_
        simp only [OnlyN_normal]
        refine hKK _ _ ?_
        clear hKK KK
        go_wp2_with fail
        go_meet
        case rel => exact ⟨rfl, by (repeat (first | exact Below.refl _ _ | exact HBa.out | exact HB9.out | exact HBg.out | (refine Below.drew ?_) | (refine Below.alloc ?_ (by first | omega | (simp; done) | (simp; omega)) _) | (refine Below.setCell ?_ (by first | omega | (simp; done) | (simp; omega)) _)))⟩
    · refine wpOp_cs rfl (fun K9 hK9 => ?_)
      go_simp
      have hB9 := ((Below.refl w.heap.size w).drew).alloc (by first | omega | simp) (.cells #[.int .u8 0, .int .i64 0] 73)
      have HB9 := Lib.hid hB9
      have hk9 : Blk (w.drew.alloc (.cells #[.int .u8 0, .int .i64 0] 73)) w.heap.size 73 #[.int .u8 0, .int .i64 0] := Blk.new w.drew 73 #[.int .u8 0, .int .i64 0]
      have HK9 := Lib.hid hk9
      clear hB9 hk9
      have hz9 := HB9.out.size
      refine hK9 _ _ (fun _ => HB9.out) ?_
      clear hK9 K9
      try simp only [Act.put, List.setIfInBounds_toArray, List.set_cons_zero, List.set_cons_succ]
      try simp only [beside, List.filterMap_nil]
      refine wpY_es (fun K9 hK9 => ?_)
      go_simp
      refine (at_is c _).mono ?_
      rintro e wa ⟨rfl, hba⟩
      have hka := (HK9.out).new_ hba
      have HKa := Lib.hid hka
      clear hka
      have HBa := Lib.hid ((HB9.out).trans (hba.mono (by have := HB9.out.size; first | omega | (simp at this ⊢; done) | (simp at this ⊢; omega))))
      clear hba
      have hza := HBa.out.size
      refine hK9 _ _ (HBa.out) ?_
      clear hK9 K9
      try simp only [Act.put, List.setIfInBounds_toArray, List.set_cons_zero, List.set_cons_succ]
      refine wpY_es (fun K9 hK9 => ?_)
      go_simp
      refine (get_no_Page bp cc sn A m ⟨c, 0⟩ _ (HS.out.new_ (HBa.out)) HO.out (by omega) HH.out).mono ?_
      rintro e wg ⟨rfl, hbg⟩
      have hkg := (HKa.out).new_ hbg
      have HKg := Lib.hid hkg
      clear hkg
      have HBg := Lib.hid ((HBa.out).trans (hbg.mono (by have := HBa.out.size; first | omega | (simp; done) | (simp; omega))))
      clear hbg
      have hzg := HBg.out.size
      refine hK9 _ _ (HBg.out) ?_
      clear hK9 K9
      try simp only [Act.put, List.setIfInBounds_toArray, List.set_cons_zero, List.set_cons_succ]
      repeat (first | (refine wpY_w ?_ (Or.inl ⟨by rfl, fun w9 => ?_⟩) ?_; rotate_left 1; go_simp; with_reducible rfl; simp only [Act.put, List.setIfInBounds_toArray, List.set_cons_zero, List.set_cons_succ]) | (refine wpY_l ?_ (HBg.out) (Or.inl ⟨by rfl, fun w9 hw9 => ?_⟩) ?_; rotate_left 1; obtain ⟨hc9, hf9⟩ := bcell hw9; go_simp; with_reducible rfl; simp only [Act.put, List.setIfInBounds_toArray, List.set_cons_zero, List.set_cons_succ]) | (refine wpY_w undef (Or.inr ⟨by rfl, rfl⟩) ?_; simp only [Act.put, List.setIfInBounds_toArray, List.set_cons_zero, List.set_cons_succ]) | (refine wpY_l undef (HBg.out) (Or.inr ⟨by rfl, rfl⟩) ?_; simp only [Act.put, List.setIfInBounds_toArray, List.set_cons_zero, List.set_cons_succ]))
      refine wpY_es (fun K9 hK9 => ?_)
      have u0 := ((HKg.out).cell 0).trans rfl
      have u1 := ((HKg.out).cell 1).trans rfl
      have f0 := (HKg.out).frozen 0
      have f1 := (HKg.out).frozen 1
      have hgl := (HKg.out).lt
      go_simp
      refine hK9 _ _ (by (repeat (first | exact Below.refl _ _ | exact HB9.out | exact HBa.out | exact HBg.out | (refine Below.drew ?_) | (refine Below.alloc ?_ (by first | omega | (simp; done) | (simp; omega)) _) | (refine Below.setCell ?_ (by first | omega | (simp; done) | (simp; omega)) _)))) ?_
      clear hK9 K9
      try simp only [Act.put, List.setIfInBounds_toArray, List.set_cons_zero, List.set_cons_succ]
      repeat (first | (refine wpY_w ?_ (Or.inl ⟨by rfl, fun w9 => ?_⟩) ?_; rotate_left 1; go_simp; with_reducible rfl; simp only [Act.put, List.setIfInBounds_toArray, List.set_cons_zero, List.set_cons_succ]) | (refine wpY_l ?_ (by (repeat (first | exact Below.refl _ _ | exact HB9.out | exact HBa.out | exact HBg.out | (refine Below.drew ?_) | (refine Below.alloc ?_ (by first | omega | (simp; done) | (simp; omega)) _) | (refine Below.setCell ?_ (by first | omega | (simp; done) | (simp; omega)) _)))) (Or.inl ⟨by rfl, fun w9 hw9 => ?_⟩) ?_; rotate_left 1; obtain ⟨hc9, hf9⟩ := bcell hw9; go_simp; with_reducible rfl; simp only [Act.put, List.setIfInBounds_toArray, List.set_cons_zero, List.set_cons_succ]) | (refine wpY_w undef (Or.inr ⟨by rfl, rfl⟩) ?_; simp only [Act.put, List.setIfInBounds_toArray, List.set_cons_zero, List.set_cons_succ]) | (refine wpY_l undef (by (repeat (first | exact Below.refl _ _ | exact HB9.out | exact HBa.out | exact HBg.out | (refine Below.drew ?_) | (refine Below.alloc ?_ (by first | omega | (simp; done) | (simp; omega)) _) | (refine Below.setCell ?_ (by first | omega | (simp; done) | (simp; omega)) _)))) (Or.inr ⟨by rfl, rfl⟩) ?_; simp only [Act.put, List.setIfInBounds_toArray, List.set_cons_zero, List.set_cons_succ]))
      refine wpY_nil ?_
      simp only [OnlyN_normal]
      refine hKK _ _ ?_
      clear hKK KK
      go_wp2_with fail
      go_meet
      case rel => exact ⟨rfl, by (repeat (first | exact Below.refl _ _ | exact HB9.out | exact HBa.out | exact HBg.out | (refine Below.drew ?_) | (refine Below.alloc ?_ (by first | omega | (simp; done) | (simp; omega)) _) | (refine Below.setCell ?_ (by first | omega | (simp; done) | (simp; omega)) _)))⟩
  case rest =>
    obtain ⟨rfl, hB⟩ := hcut
    have r0 := ((HM.out.new_ hB).cell 0).trans rfl
    have hT2 := HT.out.below hB
    have HB := Lib.hid hB
    have HT2 := Lib.hid hT2
    clear hB hT2 s0
    go_wp2_with fail
    refine (tPut_Page ⟨c, v⟩ HT2.out HBB.out (by omega)).mono ?_
    rintro e w5 ⟨rfl, hch⟩
    have HP := Lib.hid hch
    clear hch
    go_wp2_with fail
    go_ret
    have hd : drop cmpPage m ⟨c, v⟩ = m := drop_self (by
      have h1 := HH.out
      rw [has_false] at h1 ⊢
      intro y hy e
      exact h1 y hy (cmpPage_eq.2 (cmpPage_eq.1 e)))
    have hf : has cmpPage m ⟨c, v⟩ = false := by
      have h1 := HH.out
      rw [has_false] at h1 ⊢
      intro y hy e
      exact h1 y hy (cmpPage_eq.2 (cmpPage_eq.1 e))
    obtain ⟨⟨σ5, h1, h6⟩, h2, h3, _⟩ := HP.out
    refine ⟨by rw [hf] <;> rfl, ?_, (KB.of_below HB.out).trans h2, (Fr.of_new HB.out).trans h3⟩
    unfold mput
    rw [hd]
    exact ⟨σ5, h1, fun k hk ho => h6 k (Nat.lt_of_lt_of_le hk HB.out.size) ho⟩
end Go.Proofs.Ythogokcbbkjcdaa

namespace Go.Proofs.Ythogokcbbkjcdaa
open Go.RowKit

theorem drop_key {m : List Page} {x y : Page} (h : x.key = y.key) : drop cmpPage m x = drop cmpPage m y := by
  unfold drop
  apply List.filter_congr
  intro z _
  have e : cmpPage z x = cmpPage z y := by unfold cmpPage Page.kk; rw [h]
  rw [e]
set_option maxRecDepth 100000 in
set_option maxHeartbeats 4000000 in
theorem mapput_is {D : Nat → Prop} {w : World} {S : Nat → Option (List Sym)} {σ : Nat → St} {S2 : Nat → Option (List Page)} {σ2 : Nat → St} (bm bp : Nat) (m : List Page) (c : UInt8) (v : Int) (y : Page) (hT : Tabs D w S σ S2 σ2) (hb : S2 bp = some m) (hM : Blk w bm 75 #[.pointer (some ⟨bp, 0, none⟩)]) (hl : (m.length : Int) ≤ 1000000) (hh : has cmpPage m ⟨c, 0⟩ = true) (hy : m[rank cmpPage m ⟨c, 0⟩]? = some y) (hyc : y.key = c) :
    Calls Try.prog 44 #[.pointer (some ⟨bm, 0, none⟩), .int .u8 (c.toNat : Int), .int .i64 v] w fun e w' => e = .returned (.bool false) ∧ MapPut D w S σ S2 σ2 bp (mput m ⟨c, v⟩) w' := by
  have hS := hT.pages.at_ bp m hb
  have hs := hT.pages.srt bp m hb
  have hA0 := hS.row_lt
  have hbp := hS.lt
  obtain ⟨sn, hsn⟩ : ∃ sn, sn = (σ2 bp).sn := ⟨_, rfl⟩
  obtain ⟨A, hA⟩ : ∃ A, A = (σ2 bp).A := ⟨_, rfl⟩
  obtain ⟨cc, hcc⟩ : ∃ cc, cc = (σ2 bp).c := ⟨_, rfl⟩
  rw [← hsn, ← hA, ← hcc] at hS
  clear hsn hA hcc
  have s0 := (hM.cell 0).trans rfl
  have hml := hM.lt
  have HS := Lib.hid hS
  have HO := Lib.hid hs
  have HM := Lib.hid hM
  have HH := Lib.hid hh
  have HT := Lib.hid hT
  have HBB := Lib.hid hb
  have HY := Lib.hid hy
  have HYC := Lib.hid hyc
  have HA0 := Lib.hid hA0
  clear hS hs hM hh hT hb hy hyc hA0
  go_enter Try.func44, Try.ntmps44
  go_upto_region 3 with (fail)
  go_cut [7, 8] from 11 (fun p b wc => b = .bool true ∧ Below w.heap.size w wc ∧ ∃ g, p = .pointer (some ⟨g, 0, none⟩) ∧ w.heap.size ≤ g ∧ g < wc.heap.size ∧ wc.cell? ⟨g, 0, none⟩ = some (.int .u8 y.kk) ∧ wc.cell? ⟨g, 1, none⟩ = some (.int .i64 y.v))
  case first =>
    refine wp_region_Pl (fun w9 => Below w.heap.size w w9) [0, 1, 2, 3, 4, 7, 8, 9, 12] [3] (.fork [(0, 0), (1, 0), (2, 0), (3, 1), (4, 0)] 5 (.fork [] 6 (.fin [(7, 0), (8, 0), (9, 0), (10, 2), (11, 2), (12, 0)]) 10 (.fin [(6, 2), (7, 0), (8, 0), (9, 0), (11, 2), (12, 0)])) 10 (.fin [(5, 2), (6, 2), (7, 0), (8, 0), (9, 0), (11, 2), (12, 0)])) (by kernel_rfl) (by kernel_rfl) (by kernel_rfl) (fun KK hKK => ?_)
    simp only [wpPl, beside, List.filterMap_cons, List.filterMap_nil, List.getElem?_toArray, List.getElem?_cons_zero, List.getElem?_cons_succ, Option.map_some]
    repeat (first | (refine wpY_w ?_ (Or.inl ⟨by rfl, fun w9 => ?_⟩) ?_; rotate_left 1; go_simp; with_reducible rfl; simp only [Act.put, List.setIfInBounds_toArray, List.set_cons_zero, List.set_cons_succ]) | (refine wpY_l ?_ ((Below.refl _ _).drew) (Or.inl ⟨by rfl, fun w9 hw9 => ?_⟩) ?_; rotate_left 1; obtain ⟨hc9, hf9⟩ := bcell hw9; go_simp; with_reducible rfl; simp only [Act.put, List.setIfInBounds_toArray, List.set_cons_zero, List.set_cons_succ]) | (refine wpY_w undef (Or.inr ⟨by rfl, rfl⟩) ?_; simp only [Act.put, List.setIfInBounds_toArray, List.set_cons_zero, List.set_cons_succ]) | (refine wpY_l undef ((Below.refl _ _).drew) (Or.inr ⟨by rfl, rfl⟩) ?_; simp only [Act.put, List.setIfInBounds_toArray, List.set_cons_zero, List.set_cons_succ]))
    refine wpY_nil ⟨?_, ?_⟩
    · refine wpOp_cs rfl (fun K9 hK9 => ?_)
      go_simp
      refine (at_is c _).mono ?_
      rintro e wa ⟨rfl, hba⟩
      have HBa := Lib.hid (((Below.refl w.heap.size w).drew).trans (hba.mono (by first | omega | simp)))
      clear hba
      have hza := HBa.out.size
      refine hK9 _ _ (fun _ => HBa.out) ?_
      clear hK9 K9
      try simp only [Act.put, List.setIfInBounds_toArray, List.set_cons_zero, List.set_cons_succ]
      try simp only [beside, List.filterMap_nil]
      refine wpY_nil ⟨?_, ?_⟩
      · refine wpOp_cs rfl (fun K9 hK9 => ?_)
        go_simp
        refine (get_is_Page bp cc sn A m ⟨c, 0⟩ y _ (HS.out.new_ (HBa.out)) HO.out (by omega) HH.out HY.out).mono ?_
        rintro e wg ⟨rfl, hbg⟩
        have HBg := Lib.hid ((HBa.out).trans (hbg.mono (by have := HBa.out.size; first | omega | (simp; done) | (simp; omega))))
        clear hbg
        have hzg := HBg.out.size
        refine hK9 _ _ (fun _ => HBg.out) ?_
        clear hK9 K9
        try simp only [Act.put, List.setIfInBounds_toArray, List.set_cons_zero, List.set_cons_succ]
        try simp only [beside, List.filterMap_nil]
        repeat (first | (refine wpY_w ?_ (Or.inl ⟨by rfl, fun w9 => ?_⟩) ?_; rotate_left 1; go_simp; with_reducible rfl; simp only [Act.put, List.setIfInBounds_toArray, List.set_cons_zero, List.set_cons_succ]) | (refine wpY_l ?_ (HBg.out) (Or.inl ⟨by rfl, fun w9 hw9 => ?_⟩) ?_; rotate_left 1; obtain ⟨hc9, hf9⟩ := bcell hw9; go_simp; with_reducible rfl; simp only [Act.put, List.setIfInBounds_toArray, List.set_cons_zero, List.set_cons_succ]) | (refine wpY_w undef (Or.inr ⟨by rfl, rfl⟩) ?_; simp only [Act.put, List.setIfInBounds_toArray, List.set_cons_zero, List.set_cons_succ]) | (refine wpY_l undef (HBg.out) (Or.inr ⟨by rfl, rfl⟩) ?_; simp only [Act.put, List.setIfInBounds_toArray, List.set_cons_zero, List.set_cons_succ]))
        refine wpY_es (fun K9 hK9 => ?_)
        go_simp
        have hB9 := (HBg.out).alloc (by have := HBg.out.size; first | omega | (simp; done) | (simp; omega)) (.cells #[.int .u8 0, .int .i64 0] 73)
        have HB9 := Lib.hid hB9
        have hk9 : Blk (wg.alloc (.cells #[.int .u8 0, .int .i64 0] 73)) wg.heap.size 73 #[.int .u8 0, .int .i64 0] := Blk.new wg 73 #[.int .u8 0, .int .i64 0]
        have HK9 := Lib.hid hk9
        clear hB9 hk9
        have hz9 := HB9.out.size
        refine hK9 _ _ (HB9.out) ?_
        clear hK9 K9
        try simp only [Act.put, List.setIfInBounds_toArray, List.set_cons_zero, List.set_cons_succ]
        refine wpY_es (fun K9 hK9 => ?_)
        have u0 := ((HK9.out).cell 0).trans rfl
        have u1 := ((HK9.out).cell 1).trans rfl
        have f0 := (HK9.out).frozen 0
        have f1 := (HK9.out).frozen 1
        have hgl := (HK9.out).lt
        go_simp
        refine hK9 _ _ (by (repeat (first | exact Below.refl _ _ | exact HBa.out | exact HBg.out | exact HB9.out | (refine Below.drew ?_) | (refine Below.alloc ?_ (by first | omega | (simp; done) | (simp; omega)) _) | (refine Below.setCell ?_ (by first | omega | (simp; done) | (simp; omega)) _)))) ?_
        clear hK9 K9
        try simp only [Act.put, List.setIfInBounds_toArray, List.set_cons_zero, List.set_cons_succ]
        repeat (first | (refine wpY_w ?_ (Or.inl ⟨by rfl, fun w9 => ?_⟩) ?_; rotate_left 1; go_simp; with_reducible rfl; simp only [Act.put, List.setIfInBounds_toArray, List.set_cons_zero, List.set_cons_succ]) | (refine wpY_l ?_ (by (repeat (first | exact Below.refl _ _ | exact HBa.out | exact HBg.out | exact HB9.out | (refine Below.drew ?_) | (refine Below.alloc ?_ (by first | omega | (simp; done) | (simp; omega)) _) | (refine Below.setCell ?_ (by first | omega | (simp; done) | (simp; omega)) _)))) (Or.inl ⟨by rfl, fun w9 hw9 => ?_⟩) ?_; rotate_left 1; obtain ⟨hc9, hf9⟩ := bcell hw9; go_simp; with_reducible rfl; simp only [Act.put, List.setIfInBounds_toArray, List.set_cons_zero, List.set_cons_succ]) | (refine wpY_w undef (Or.inr ⟨by rfl, rfl⟩) ?_; simp only [Act.put, List.setIfInBounds_toArray, List.set_cons_zero, List.set_cons_succ]) | (refine wpY_l undef (by (repeat (first | exact Below.refl _ _ | exact HBa.out | exact HBg.out | exact HB9.out | (refine Below.drew ?_) | (refine Below.alloc ?_ (by first | omega | (simp; done) | (simp; omega)) _) | (refine Below.setCell ?_ (by first | omega | (simp; done) | (simp; omega)) _)))) (Or.inr ⟨by rfl, rfl⟩) ?_; simp only [Act.put, List.setIfInBounds_toArray, List.set_cons_zero, List.set_cons_succ]))
        refine wpY_nil ?_
        simp only [OnlyN_normal]
        refine hKK _ _ ?_
        clear hKK KK
        go_wp2_with fail
        go_meet
        case rel => exact ⟨rfl, by (repeat (first | exact Below.refl _ _ | exact HBa.out | exact HBg.out | exact HB9.out | (refine Below.drew ?_) | (refine Below.alloc ?_ (by first | omega | (simp; done) | (simp; omega)) _) | (refine Below.setCell ?_ (by first | omega | (simp; done) | (simp; omega)) _))), _, rfl, by first | exact hzg | exact hza | omega | simp, by first | (simp; done) | (simp; omega), by first | (simp; done) | (go_simp; done) | (go_simp; rfl), by first | (simp; done) | (go_simp; done) | (go_simp; rfl)⟩
      · refine wpOp_cs rfl (fun K9 hK9 => ?_)
        go_simp
        have hB9 := (HBa.out).alloc (by have := HBa.out.size; first | omega | (simp; done) | (simp; omega)) (.cells #[.int .u8 0, .int .i64 0] 73)
        have HB9 := Lib.hid hB9
        have hk9 : Blk (wa.alloc (.cells #[.int .u8 0, .int .i64 0] 73)) wa.heap.size 73 #[.int .u8 0, .int .i64 0] := Blk.new wa 73 #[.int .u8 0, .int .i64 0]
        have HK9 := Lib.hid hk9
        clear hB9 hk9
        have hz9 := HB9.out.size
        refine hK9 _ _ (fun _ => HB9.out) ?_
        clear hK9 K9
        try simp only [Act.put, List.setIfInBounds_toArray, List.set_cons_zero, List.set_cons_succ]
        try simp only [beside, List.filterMap_nil]
        refine wpY_es (fun K9 hK9 => ?_)
        go_simp
        refine (get_is_Page bp cc sn A m ⟨c, 0⟩ y _ (HS.out.new_ (HB9.out)) HO.out (by omega) HH.out HY.out).mono ?_
        rintro e wg ⟨rfl, hbg⟩
        have hkg := (HK9.out).new_ hbg
        have HKg := Lib.hid hkg
        clear hkg
        have HBg := Lib.hid ((HB9.out).trans (hbg.mono (by have := HB9.out.size; first | omega | (simp at this ⊢; done) | (simp at this ⊢; omega))))
        clear hbg
        have hzg := HBg.out.size
        refine hK9 _ _ (HBg.out) ?_
        clear hK9 K9
        try simp only [Act.put, List.setIfInBounds_toArray, List.set_cons_zero, List.set_cons_succ]
        repeat (first | (refine wpY_w ?_ (Or.inl ⟨by rfl, fun w9 => ?_⟩) ?_; rotate_left 1; go_simp; with_reducible rfl; simp only [Act.put, List.setIfInBounds_toArray, List.set_cons_zero, List.set_cons_succ]) | (refine wpY_l ?_ (HBg.out) (Or.inl ⟨by rfl, fun w9 hw9 => ?_⟩) ?_; rotate_left 1; obtain ⟨hc9, hf9⟩ := bcell hw9; go_simp; with_reducible rfl; simp only [Act.put, List.setIfInBounds_toArray, List.set_cons_zero, List.set_cons_succ]) | (refine wpY_w undef (Or.inr ⟨by rfl, rfl⟩) ?_; simp only [Act.put, List.setIfInBounds_toArray, List.set_cons_zero, List.set_cons_succ]) | (refine wpY_l undef (HBg.out) (Or.inr ⟨by rfl, rfl⟩) ?_; simp only [Act.put, List.setIfInBounds_toArray, List.set_cons_zero, List.set_cons_succ]))
        refine wpY_es (fun K9 hK9 => ?_)
        have u0 := ((HKg.out).cell 0).trans rfl
        have u1 := ((HKg.out).cell 1).trans rfl
        have f0 := (HKg.out).frozen 0
        have f1 := (HKg.out).frozen 1
        have hgl := (HKg.out).lt
        go_simp
        refine hK9 _ _ (by (repeat (first | exact Below.refl _ _ | exact HBa.out | exact HB9.out | exact HBg.out | (refine Below.drew ?_) | (refine Below.alloc ?_ (by first | omega | (simp; done) | (simp; omega)) _) | (refine Below.setCell ?_ (by first | omega | (simp; done) | (simp; omega)) _)))) ?_
        clear hK9 K9
        try simp only [Act.put, List.setIfInBounds_toArray, List.set_cons_zero, List.set_cons_succ]
        repeat (first | (refine wpY_w ?_ (Or.inl ⟨by rfl, fun w9 => ?_⟩) ?_; rotate_left 1; go_simp; with_reducible rfl; simp only [Act.put, List.setIfInBounds_toArray, List.set_cons_zero, List.set_cons_succ]) | (refine wpY_l ?_ (by (repeat (first | exact Below.refl _ _ | exact HBa.out | exact HB9.out | exact HBg.out | (refine Below.drew ?_) | (refine Below.alloc ?_ (by first | omega | (simp; done) | (simp; omega)) _) | (refine Below.setCell ?_ (by first | omega | (simp; done) | (simp; omega)) _)))) (Or.inl ⟨by rfl, fun w9 hw9 => ?_⟩) ?_; rotate_left 1; obtain ⟨hc9, hf9⟩ := bcell hw9; go_simp; with_reducible rfl; simp only [Act.put, List.setIfInBounds_toArray, List.set_cons_zero, List.set_cons_succ]) | (refine wpY_w undef (Or.inr ⟨by rfl, rfl⟩) ?_; simp only [Act.put, List.setIfInBounds_toArray, List.set_cons_zero, List.set_cons_succ]) | (refine wpY_l undef (by (repeat (first | exact Below.refl _ _ | exact HBa.out | exact HB9.out | exact HBg.out | (refine Below.drew ?_) | (refine Below.alloc ?_ (by first | omega | (simp; done) | (simp; omega)) _) | (refine Below.setCell ?_ (by first | omega | (simp; done) | (simp; omega)) _)))) (Or.inr ⟨by rfl, rfl⟩) ?_; simp only [Act.put, List.setIfInBounds_toArray, List.set_cons_zero, List.set_cons_succ]))
        refine wpY_nil ?_
        simp only [OnlyN_normal]
        refine hKK _ _ ?_
        clear hKK KK
        go_wp2_with fail
        go_meet
        case rel => exact ⟨rfl, by (repeat (first | exact Below.refl _ _ | exact HBa.out | exact HB9.out | exact HBg.out | (refine Below.drew ?_) | (refine Below.alloc ?_ (by first | omega | (simp; done) | (simp; omega)) _) | (refine Below.setCell ?_ (by first | omega | (simp; done) | (simp; omega)) _))), _, rfl, by first | exact hzg | exact hza | omega | simp, by first | (simp; done) | (simp; omega), by first | (simp; done) | (go_simp; done) | (go_simp; rfl), by first | (simp; done) | (go_simp; done) | (go_simp; rfl)⟩
    · refine wpOp_cs rfl (fun K9 hK9 => ?_)
      go_simp
      have hB9 := ((Below.refl w.heap.size w).drew).alloc (by first | omega | simp) (.cells #[.int .u8 0, .int .i64 0] 73)
      have HB9 := Lib.hid hB9
      have hk9 : Blk (w.drew.alloc (.cells #[.int .u8 0, .int .i64 0] 73)) w.heap.size 73 #[.int .u8 0, .int .i64 0] := Blk.new w.drew 73 #[.int .u8 0, .int .i64 0]
      have HK9 := Lib.hid hk9
      clear hB9 hk9
      have hz9 := HB9.out.size
      refine hK9 _ _ (fun _ => HB9.out) ?_
      clear hK9 K9
      try simp only [Act.put, List.setIfInBounds_toArray, List.set_cons_zero, List.set_cons_succ]
      try simp only [beside, List.filterMap_nil]
      refine wpY_es (fun K9 hK9 => ?_)
      go_simp
      refine (at_is c _).mono ?_
      rintro e wa ⟨rfl, hba⟩
      have hka := (HK9.out).new_ hba
      have HKa := Lib.hid hka
      clear hka
      have HBa := Lib.hid ((HB9.out).trans (hba.mono (by have := HB9.out.size; first | omega | (simp at this ⊢; done) | (simp at this ⊢; omega))))
      clear hba
      have hza := HBa.out.size
      refine hK9 _ _ (HBa.out) ?_
      clear hK9 K9
      try simp only [Act.put, List.setIfInBounds_toArray, List.set_cons_zero, List.set_cons_succ]
      refine wpY_es (fun K9 hK9 => ?_)
      go_simp
      refine (get_is_Page bp cc sn A m ⟨c, 0⟩ y _ (HS.out.new_ (HBa.out)) HO.out (by omega) HH.out HY.out).mono ?_
      rintro e wg ⟨rfl, hbg⟩
      have hkg := (HKa.out).new_ hbg
      have HKg := Lib.hid hkg
      clear hkg
      have HBg := Lib.hid ((HBa.out).trans (hbg.mono (by have := HBa.out.size; first | omega | (simp; done) | (simp; omega))))
      clear hbg
      have hzg := HBg.out.size
      refine hK9 _ _ (HBg.out) ?_
      clear hK9 K9
      try simp only [Act.put, List.setIfInBounds_toArray, List.set_cons_zero, List.set_cons_succ]
      repeat (first | (refine wpY_w ?_ (Or.inl ⟨by rfl, fun w9 => ?_⟩) ?_; rotate_left 1; go_simp; with_reducible rfl; simp only [Act.put, List.setIfInBounds_toArray, List.set_cons_zero, List.set_cons_succ]) | (refine wpY_l ?_ (HBg.out) (Or.inl ⟨by rfl, fun w9 hw9 => ?_⟩) ?_; rotate_left 1; obtain ⟨hc9, hf9⟩ := bcell hw9; go_simp; with_reducible rfl; simp only [Act.put, List.setIfInBounds_toArray, List.set_cons_zero, List.set_cons_succ]) | (refine wpY_w undef (Or.inr ⟨by rfl, rfl⟩) ?_; simp only [Act.put, List.setIfInBounds_toArray, List.set_cons_zero, List.set_cons_succ]) | (refine wpY_l undef (HBg.out) (Or.inr ⟨by rfl, rfl⟩) ?_; simp only [Act.put, List.setIfInBounds_toArray, List.set_cons_zero, List.set_cons_succ]))
      refine wpY_es (fun K9 hK9 => ?_)
      have u0 := ((HKg.out).cell 0).trans rfl
      have u1 := ((HKg.out).cell 1).trans rfl
      have f0 := (HKg.out).frozen 0
      have f1 := (HKg.out).frozen 1
      have hgl := (HKg.out).lt
      go_simp
      refine hK9 _ _ (by (repeat (first | exact Below.refl _ _ | exact HB9.out | exact HBa.out | exact HBg.out | (refine Below.drew ?_) | (refine Below.alloc ?_ (by first | omega | (simp; done) | (simp; omega)) _) | (refine Below.setCell ?_ (by first | omega | (simp; done) | (simp; omega)) _)))) ?_
      clear hK9 K9
      try simp only [Act.put, List.setIfInBounds_toArray, List.set_cons_zero, List.set_cons_succ]
      repeat (first | (refine wpY_w ?_ (Or.inl ⟨by rfl, fun w9 => ?_⟩) ?_; rotate_left 1; go_simp; with_reducible rfl; simp only [Act.put, List.setIfInBounds_toArray, List.set_cons_zero, List.set_cons_succ]) | (refine wpY_l ?_ (by (repeat (first | exact Below.refl _ _ | exact HB9.out | exact HBa.out | exact HBg.out | (refine Below.drew ?_) | (refine Below.alloc ?_ (by first | omega | (simp; done) | (simp; omega)) _) | (refine Below.setCell ?_ (by first | omega | (simp; done) | (simp; omega)) _)))) (Or.inl ⟨by rfl, fun w9 hw9 => ?_⟩) ?_; rotate_left 1; obtain ⟨hc9, hf9⟩ := bcell hw9; go_simp; with_reducible rfl; simp only [Act.put, List.setIfInBounds_toArray, List.set_cons_zero, List.set_cons_succ]) | (refine wpY_w undef (Or.inr ⟨by rfl, rfl⟩) ?_; simp only [Act.put, List.setIfInBounds_toArray, List.set_cons_zero, List.set_cons_succ]) | (refine wpY_l undef (by (repeat (first | exact Below.refl _ _ | exact HB9.out | exact HBa.out | exact HBg.out | (refine Below.drew ?_) | (refine Below.alloc ?_ (by first | omega | (simp; done) | (simp; omega)) _) | (refine Below.setCell ?_ (by first | omega | (simp; done) | (simp; omega)) _)))) (Or.inr ⟨by rfl, rfl⟩) ?_; simp only [Act.put, List.setIfInBounds_toArray, List.set_cons_zero, List.set_cons_succ]))
      refine wpY_nil ?_
      simp only [OnlyN_normal]
      refine hKK _ _ ?_
      clear hKK KK
      go_wp2_with fail
      go_meet
      case rel => exact ⟨rfl, by (repeat (first | exact Below.refl _ _ | exact HB9.out | exact HBa.out | exact HBg.out | (refine Below.drew ?_) | (refine Below.alloc ?_ (by first | omega | (simp; done) | (simp; omega)) _) | (refine Below.setCell ?_ (by first | omega | (simp; done) | (simp; omega)) _))), _, rfl, by first | exact hzg | exact hza | omega | simp, by first | (simp; done) | (simp; omega), by first | (simp; done) | (go_simp; done) | (go_simp; rfl), by first | (simp; done) | (go_simp; done) | (go_simp; rfl)⟩
  case rest =>
    obtain ⟨rfl, hB, g, rfl, hg, hgl, q0, q1⟩ := hcut
    have hMc := HM.out.new_ hB
    have r0 := (hMc.cell 0).trans rfl
    have hml2 := hMc.lt
    have hT2 := HT.out.below hB
    have HMc := Lib.hid hMc
    have HB := Lib.hid hB
    have HT2 := Lib.hid hT2
    clear hB hT2 s0 hMc
    go_wp2_with fail
    refine wp_region_E (fun w9 => Below wc.heap.size wc w9) [(0, 0), (1, 0), (2, 0), (3, 1), (4, 1), (5, 2)] (by kernel_rfl) (by kernel_rfl) (fun KK hKK => ?_)
    simp only [beside, List.filterMap_cons, List.filterMap_nil, List.getElem?_toArray, List.getElem?_cons_zero, List.getElem?_cons_succ, Option.map_some]
    repeat (first | (refine wpX_w ?_ (Or.inl ⟨by rfl, fun w9 => ?_⟩) ?_; rotate_left 1; go_simp; with_reducible rfl; simp only [Act.put, List.setIfInBounds_toArray, List.set_cons_zero, List.set_cons_succ]) | (refine wpX_l ?_ (((Below.refl _ _).drew)) (Or.inl ⟨by rfl, fun w9 hw9 => ?_⟩) ?_; rotate_left 1; obtain ⟨hc9, hf9⟩ := bcell hw9; go_simp; with_reducible rfl; simp only [Act.put, List.setIfInBounds_toArray, List.set_cons_zero, List.set_cons_succ]) | (refine wpX_w undef (Or.inr ⟨by rfl, rfl⟩) ?_; simp only [Act.put, List.setIfInBounds_toArray, List.set_cons_zero, List.set_cons_succ]) | (refine wpX_l undef (((Below.refl _ _).drew)) (Or.inr ⟨by rfl, rfl⟩) ?_; simp only [Act.put, List.setIfInBounds_toArray, List.set_cons_zero, List.set_cons_succ]))
    refine wpX_e (by kernel_rfl) (fun K9 hK9 => ?_)
    go_simp
    refine (tDrop_Page y (HT2.out.below ((Below.refl _ _).drew)) HBB.out (by omega)).mono ?_
    rintro e w5 ⟨rfl, hch⟩
    have HP := Lib.hid hch
    obtain ⟨_, _, _, hM5⟩ := hch
    have hng : ¬ SetMod bp (σ2 bp).sn (σ2 bp).A g := (by
      rintro (h | ⟨_, a, ha, h⟩)
      · omega
      · have := HA0.out a ha; omega)
    have p0 := (hM5.cell (p := ⟨g, 0, none⟩) hgl hng).trans q0
    have p1 := (hM5.cell (p := ⟨g, 1, none⟩) hgl hng).trans q1
    have hMd := HP.out.2.1 bm _ _ (by decide) (by decide) (by decide) (by decide) HMc.out.drew
    have t0 := (hMd.cell 0).trans rfl
    have hl5 := hM5.size
    have hgl5 : g < w5.heap.size := (by have := hl5; simp at this; omega)
    have hml5 : bm < w5.heap.size := hMd.lt
    obtain ⟨σ5, hT5, hO5⟩ := HP.out.1
    have HT5 := Lib.hid hT5
    have HO5 := Lib.hid hO5
    clear hM5 hng q0 q1 r0 hMd hT5 hl5 hO5
    refine hK9 _ _ ?_
    clear hK9 K9
    refine wpX_nil ?_
    simp only [OnlyN_normal]
    refine hKK _ _ ?_
    clear hKK KK
    go_wp2_with fail
    refine wp_region_E (fun w9 => Below w5.heap.size w5 w9) [(0, 0), (1, 0), (2, 0), (3, 1), (4, 0), (5, 1), (6, 0), (7, 0), (8, 2)] (by kernel_rfl) (by kernel_rfl) (fun KK hKK => ?_)
    simp only [beside, List.filterMap_cons, List.filterMap_nil, List.getElem?_toArray, List.getElem?_cons_zero, List.getElem?_cons_succ, Option.map_some]
    repeat (first | (refine wpX_w ?_ (Or.inl ⟨by rfl, fun w9 => ?_⟩) ?_; rotate_left 1; go_simp; with_reducible rfl; simp only [Act.put, List.setIfInBounds_toArray, List.set_cons_zero, List.set_cons_succ]) | (refine wpX_l ?_ (((Below.refl _ _).drew)) (Or.inl ⟨by rfl, fun w9 hw9 => ?_⟩) ?_; rotate_left 1; obtain ⟨hc9, hf9⟩ := bcell hw9; go_simp; with_reducible rfl; simp only [Act.put, List.setIfInBounds_toArray, List.set_cons_zero, List.set_cons_succ]) | (refine wpX_w undef (Or.inr ⟨by rfl, rfl⟩) ?_; simp only [Act.put, List.setIfInBounds_toArray, List.set_cons_zero, List.set_cons_succ]) | (refine wpX_l undef (((Below.refl _ _).drew)) (Or.inr ⟨by rfl, rfl⟩) ?_; simp only [Act.put, List.setIfInBounds_toArray, List.set_cons_zero, List.set_cons_succ]))
    refine wpX_e (by kernel_rfl) (fun K9 hK9 => ?_)
    go_simp
    refine (tPut_Page ⟨y.key, v⟩ (HT5.out.below ((Below.refl _ _).drew)) (upd_same _ _ _) (by have := length_drop_le (cmp := cmpPage) m y; omega)).mono ?_
    rintro e w6 ⟨rfl, hch⟩
    have HP2 := Lib.hid hch
    clear hch
    refine hK9 _ _ ?_
    clear hK9 K9
    refine wpX_nil ?_
    simp only [OnlyN_normal]
    refine hKK _ _ ?_
    clear hKK KK
    go_wp2_with fail
    go_ret
    obtain ⟨⟨σ6, h1, h6⟩, h2, h3, _⟩ := HP2.out
    obtain ⟨_, h4, h5, _⟩ := HP.out
    have hz5 := HB.out.size
    have hz6 := h5.size
    have h7 : ∀ k, k < w.heap.size → Off k S2 σ2 → Off k (upd (upd S2 bp (some (drop cmpPage m y))) bp (some (put cmpPage (drop cmpPage m y) ⟨y.key, v⟩))) σ6 := fun k hk ho => h6 k (by simp at hz6 ⊢; omega) (HO5.out k (by simp; omega) ho)
    refine ⟨rfl, ?_, ((KB.of_below HB.out).trans h4).trans h2, (((Fr.of_new HB.out).trans ((Fr.refl _ wc).drew.trans h5)).trans ((Fr.refl _ w5).drew.trans h3))⟩
    have e1 : drop cmpPage m y = drop cmpPage m ⟨c, v⟩ := drop_key HYC.out
    have e2 : (⟨y.key, v⟩ : Page) = ⟨c, v⟩ := by rw [HYC.out]
    rw [upd_upd, e1, e2] at h1 h7
    exact ⟨σ6, h1, h7⟩
theorem mapput {D : Nat → Prop} {w : World} {S : Nat → Option (List Sym)} {σ : Nat → St} {S2 : Nat → Option (List Page)} {σ2 : Nat → St} (bm bp : Nat) (m : List Page) (c : UInt8) (v : Int) (hT : Tabs D w S σ S2 σ2) (hb : S2 bp = some m) (hM : Blk w bm 75 #[.pointer (some ⟨bp, 0, none⟩)]) (hl : (m.length : Int) ≤ 1000000) :
    Calls Try.prog 44 #[.pointer (some ⟨bm, 0, none⟩), .int .u8 (c.toNat : Int), .int .i64 v] w fun e w' => (∃ r, e = .returned (.bool r)) ∧ MapPut D w S σ S2 σ2 bp (mput m ⟨c, v⟩) w' := by
  cases hh : has cmpPage m ⟨c, 0⟩
  · exact (mapput_no bm bp m c v hT hb hM hl hh).mono fun _ _ ⟨h1, h2⟩ => ⟨⟨_, h1⟩, h2⟩
  · obtain ⟨y, hy, hyc, _⟩ := found_page (hT.pages.srt bp m hb) hh
    exact (mapput_is bm bp m c v y hT hb hM hl hh hy hyc).mono fun _ _ ⟨h1, h2⟩ => ⟨⟨_, h1⟩, h2⟩
end Go.Proofs.Ythogokcbbkjcdaa

namespace Go.Proofs.Ythogokcbbkjcdaa
open Go.RowKit

def smallB (c : UInt8) : Bool := decide (97 ≤ c.toNat) && decide (c.toNat ≤ 122)
def greatB (c : UInt8) : Bool := decide (65 ≤ c.toNat) && decide (c.toNat ≤ 90)
def digitB (c : UInt8) : Bool := decide (48 ≤ c.toNat) && decide (c.toNat ≤ 57)
def partB (c : UInt8) : Bool := smallB c || digitB c || c.toNat == 45 || c.toNat == 95
/-- A word: 1 to 32 bytes, the first a small letter, all of them letters, digits or - or _. -/
def isWord (t : ByteArray) : Bool := decide (1 ≤ t.size) && decide (t.size ≤ 32) && t.data.toList.head?.any smallB && t.data.toList.all partB
theorem isWord_iff {t : ByteArray} : isWord t = true ↔ ∃ h : 0 < t.size, t.size ≤ 32 ∧ smallB t[0] = true ∧ ∀ k, (h : k < t.size) → partB t[k] = true := by
  unfold isWord
  rw [Bool.and_eq_true, Bool.and_eq_true, Bool.and_eq_true, decide_eq_true_iff, decide_eq_true_iff, List.all_eq_true]
  have hs : t.data.toList.length = t.size := Array.length_toList
  constructor
  · rintro ⟨⟨⟨h1, h2⟩, h3⟩, h4⟩
    refine ⟨h1, h2, ?_, fun k h => h4 _ ?_⟩
    · rw [List.head?_eq_getElem?, List.getElem?_eq_getElem (by omega)] at h3
      exact (by simpa only [Option.any_some, Array.getElem_toList] using h3 : smallB t.data[0] = true)
    · have : t[k] = t.data.toList[k]'(by omega) := by rw [Array.getElem_toList]; rfl
      rw [this]; exact List.getElem_mem _
  · rintro ⟨h1, h2, h3, h4⟩
    refine ⟨⟨⟨h1, h2⟩, ?_⟩, fun x hx => ?_⟩
    · rw [List.head?_eq_getElem?, List.getElem?_eq_getElem (by omega)]
      rw [Option.any_some, Array.getElem_toList]
      exact h3
    · obtain ⟨k, hk, rfl⟩ := List.getElem_of_mem hx
      have := h4 k (by omega)
      rw [Array.getElem_toList]
      exact this
theorem isWord_no {t : ByteArray} (h : ¬ ∃ h : 0 < t.size, t.size ≤ 32 ∧ smallB t[0] = true ∧ ∀ k, (h : k < t.size) → partB t[k] = true) : isWord t = false := by
  cases e : isWord t
  · rfl
  · exact absurd (isWord_iff.1 e) h

set_option maxHeartbeats 400000 in
theorem small_is (c : UInt8) (w : World) : Calls Try.prog 48 #[.int .u8 (c.toNat : Int)] w fun e w' => e = .returned (.bool (smallB c)) ∧ w = w' := by
  by_cases h1 : 97 ≤ c.toNat
  · have t1 : decide ((97 : Int) ≤ (c.toNat : Int)) = true := by simp; omega
    by_cases h2 : c.toNat ≤ 122
    · have t2 : decide ((c.toNat : Int) ≤ 122) = true := by simp; omega
      have HF : Hid (smallB c = true) := by simp [Hid, smallB, h1, h2]
      clear h1 h2
      go_enter Try.func48, Try.ntmps48
      go_wp2
      go_ret
      exact ⟨by rw [HF.out]; rfl, rfl⟩
    · have t2 : decide ((c.toNat : Int) ≤ 122) = false := by simp; omega
      have HF : Hid (smallB c = false) := by simp [Hid, smallB, h2]
      clear h1 h2
      go_enter Try.func48, Try.ntmps48
      go_wp2
      go_ret
      exact ⟨by rw [HF.out]; rfl, rfl⟩
  · have t1 : decide ((97 : Int) ≤ (c.toNat : Int)) = false := by simp; omega
    have HF : Hid (smallB c = false) := by simp [Hid, smallB, h1]
    clear h1
    go_enter Try.func48, Try.ntmps48
    go_wp2
    go_ret
    exact ⟨by rw [HF.out]; rfl, rfl⟩

set_option maxHeartbeats 400000 in
theorem great_is (c : UInt8) (w : World) : Calls Try.prog 34 #[.int .u8 (c.toNat : Int)] w fun e w' => e = .returned (.bool (greatB c)) ∧ w = w' := by
  by_cases h1 : 65 ≤ c.toNat
  · have t1 : decide ((65 : Int) ≤ (c.toNat : Int)) = true := by simp; omega
    by_cases h2 : c.toNat ≤ 90
    · have t2 : decide ((c.toNat : Int) ≤ 90) = true := by simp; omega
      have HF : Hid (greatB c = true) := by simp [Hid, greatB, h1, h2]
      clear h1 h2
      go_enter Try.func34, Try.ntmps34
      go_wp2
      go_ret
      exact ⟨by rw [HF.out]; rfl, rfl⟩
    · have t2 : decide ((c.toNat : Int) ≤ 90) = false := by simp; omega
      have HF : Hid (greatB c = false) := by simp [Hid, greatB, h2]
      clear h1 h2
      go_enter Try.func34, Try.ntmps34
      go_wp2
      go_ret
      exact ⟨by rw [HF.out]; rfl, rfl⟩
  · have t1 : decide ((65 : Int) ≤ (c.toNat : Int)) = false := by simp; omega
    have HF : Hid (greatB c = false) := by simp [Hid, greatB, h1]
    clear h1
    go_enter Try.func34, Try.ntmps34
    go_wp2
    go_ret
    exact ⟨by rw [HF.out]; rfl, rfl⟩

set_option maxHeartbeats 400000 in
theorem digit_is (c : UInt8) (w : World) : Calls Try.prog 49 #[.int .u8 (c.toNat : Int)] w fun e w' => e = .returned (.bool (digitB c)) ∧ w = w' := by
  by_cases h1 : 48 ≤ c.toNat
  · have t1 : decide ((48 : Int) ≤ (c.toNat : Int)) = true := by simp; omega
    by_cases h2 : c.toNat ≤ 57
    · have t2 : decide ((c.toNat : Int) ≤ 57) = true := by simp; omega
      have HF : Hid (digitB c = true) := by simp [Hid, digitB, h1, h2]
      clear h1 h2
      go_enter Try.func49, Try.ntmps49
      go_wp2
      go_ret
      exact ⟨by rw [HF.out]; rfl, rfl⟩
    · have t2 : decide ((c.toNat : Int) ≤ 57) = false := by simp; omega
      have HF : Hid (digitB c = false) := by simp [Hid, digitB, h2]
      clear h1 h2
      go_enter Try.func49, Try.ntmps49
      go_wp2
      go_ret
      exact ⟨by rw [HF.out]; rfl, rfl⟩
  · have t1 : decide ((48 : Int) ≤ (c.toNat : Int)) = false := by simp; omega
    have HF : Hid (digitB c = false) := by simp [Hid, digitB, h1]
    clear h1
    go_enter Try.func49, Try.ntmps49
    go_wp2
    go_ret
    exact ⟨by rw [HF.out]; rfl, rfl⟩

set_option maxRecDepth 100000 in
set_option maxHeartbeats 2000000 in
theorem word_is (t : ByteArray) (w : World) : Calls Try.prog 40 #[.string t] w fun e w' => e = .returned (.bool (isWord t)) ∧ w = w' := by
  by_cases h1 : t.size < 1
  · have t1 : decide ((t.size : Int) < 1) = true := by simp; omega
    have HF := Lib.hid (isWord_no (t := t) (fun ⟨h, _⟩ => by omega))
    clear h1
    go_enter Try.func40, Try.ntmps40
    go_wp2
    go_ret
    exact ⟨by rw [HF.out]; rfl, rfl⟩
  have t1 : decide ((t.size : Int) < 1) = false := by simp; omega
  by_cases h2 : 32 < t.size
  · have t2 : decide ((32 : Int) < (t.size : Int)) = true := by simp; omega
    have HF := Lib.hid (isWord_no (t := t) (fun ⟨h, h3, _⟩ => by omega))
    clear h1 h2
    go_enter Try.func40, Try.ntmps40
    go_wp2
    go_ret
    exact ⟨by rw [HF.out]; rfl, rfl⟩
  have t2 : decide ((32 : Int) < (t.size : Int)) = false := by simp; omega
  have h0 : 0 < t.size := by omega
  have h32 : t.size ≤ 32 := by omega
  clear h1 h2
  cases h3 : smallB t[0]
  · have HF := Lib.hid (isWord_no (t := t) (fun ⟨h, _, h4, _⟩ => by rw [h3] at h4; cases h4))
    go_enter Try.func40, Try.ntmps40
    go_wp2_with (go_at_call 48; refine (small_is _ _).mono ?_; rintro e w' ⟨rfl, rfl⟩)
    go_ret
    exact ⟨by rw [HF.out]; rfl, rfl⟩
  go_enter Try.func40, Try.ntmps40
  go_wp2_with (go_at_call 48; refine (small_is _ _).mono ?_; rintro e w' ⟨rfl, rfl⟩)
  have H3 := Lib.hid h3
  clear h3 t1 t2
  go_loop [3] (fun s => ∃ i : Nat, s = .int .i64 i ∧ 1 ≤ i ∧ i ≤ t.size ∧ ∀ k, (h : k < t.size) → k < i → partB t[k] = true) (fun s => t.size - (intOf s).toNat)
  case atStart => exact ⟨1, rfl, Nat.le_refl _, h0, fun k h hk => by obtain rfl : k = 0 := by omega
                                                                     simp [partB, H3.out]⟩
  case round =>
    obtain ⟨i, rfl, hi1, hi, hall⟩ := hrel
    have HALL := Lib.hid hall
    clear hall
    by_cases hlt : i < t.size
    · have HP : Hid (partB t[i] = (smallB t[i] || digitB t[i] || decide (t[i].toNat = 45) || decide (t[i].toNat = 95))) := rfl
      have t5 : ((t[i].toNat : Int) != 45) = !decide (t[i].toNat = 45) := by rw [Bool.eq_iff_iff]; simp; omega
      have t6 : ((t[i].toNat : Int) != 95) = !decide (t[i].toNat = 95) := by rw [Bool.eq_iff_iff]; simp; omega
      cases hs : smallB t[i] <;> cases hd : digitB t[i] <;> cases h5 : decide (t[i].toNat = 45) <;> cases h6 : decide (t[i].toNat = 95)
      all_goals
        rw [h5] at t5; rw [h6] at t6
        simp only [Bool.not_true, Bool.not_false] at t5 t6
        have HF1 := HP.out
        rw [hs, hd, h5, h6] at HF1
        have HF2 := Lib.hid HF1
        clear h5 h6 HP HF1
        go_wp2_with (first | (go_at_call 48; refine (small_is _ _).mono ?_; rintro e w' ⟨rfl, rfl⟩) | (go_at_call 49; refine (digit_is _ _).mono ?_; rintro e w' ⟨rfl, rfl⟩))
        first
          | (go_ret
             refine ⟨?_, rfl⟩
             rw [isWord_no (t := t) (fun ⟨_, _, _, h⟩ => by have h2 := h i hlt; rw [HF2.out] at h2; exact absurd h2 (by decide))]; rfl)
          | (go_round
             case rel => exact ⟨i + 1, by go_num, by omega, by omega, fun k h hk => by
                 rcases Nat.lt_or_ge k i with h3 | h3
                 · exact HALL.out k h h3
                 · obtain rfl : k = i := by omega
                   rw [HF2.out]; rfl⟩
             case measure => simp [intOf] <;> omega)
    · have hie : i = t.size := by omega
      subst hie
      go_wp2
      go_ret
      exact ⟨by rw [isWord_iff.2 ⟨h0, h32, H3.out, fun k h => HALL.out k h h⟩]; rfl, rfl⟩
end Go.Proofs.Ythogokcbbkjcdaa

namespace Go.Proofs.Ythogokcbbkjcdaa
open Go.RowKit
/-- One byte. -/
def byte1 (n : Nat) : ByteArray := ⟨#[UInt8.ofNat (48 + n)]⟩
theorem conv1 (n : Nat) (h : n < 10) (W : World) (g : Nat) (hc : W.cell? ⟨g, 0, none⟩ = some (.int .u8 (48 + (n : Int)))) : (convert 83 9 (.slice (some ⟨g, 0, none⟩) 1 1)).run Try.prog W = .ok (.string (byte1 n)) W :=
  Lib.run_convert_whole (P := Try.prog) W 83 5 9 Try.underlying83 Try.underlying5 Try.underlying9 g 0 (byte1 n) (fun i hi => by
    have : i = 0 := by have : (byte1 n).size = 1 := rfl; omega
    subst this
    rw [Nat.add_zero, hc]
    have e : (byte1 n)[0].toNat = 48 + n := by show (UInt8.ofNat (48 + n)).toNat = 48 + n; simp; omega
    rw [e]
    simp) 1
def decB (n : Nat) : ByteArray := if n < 10 then byte1 n else decB (n / 10) ++ byte1 (n % 10)
theorem byte1_size (n : Nat) : (byte1 n).size = 1 := rfl
theorem decB_size (n : Nat) : (decB n).size ≤ n + 1 := by
  induction n using Nat.strongRecOn with
  | _ n ih =>
    rw [decB]
    split
    · rw [byte1_size]; omega
    · have h1 := ih (n / 10) (by omega)
      rw [ByteArray.size_append, byte1_size]; omega
def numB (n : Int) : ByteArray := if n < 0 then ⟨#[45]⟩ ++ decB (-n).toNat else decB n.toNat
end Go.Proofs.Ythogokcbbkjcdaa

namespace Go.Proofs.Ythogokcbbkjcdaa
open Go.RowKit
def headB (f : UInt8 → Bool) (t : ByteArray) : Bool := t.data.toList.head?.any f
theorem headB_eq {f : UInt8 → Bool} {t : ByteArray} (h : 0 < t.size) : headB f t = f t[0] := by
  have hs : t.data.toList.length = t.size := Array.length_toList
  unfold headB
  rw [List.head?_eq_getElem?, List.getElem?_eq_getElem (by omega), Option.any_some, Array.getElem_toList]
  rfl
/-- Is a symbol right? -/
def validB (s : Sym) : Bool :=
  if s.kind = 1 then decide (s.text.size = 1) && headB greatB s.text && decide (1 ≤ s.n) && decide (s.n ≤ 1048576)
  else if s.kind = 2 then decide (s.text.toList = []) && decide (-2147483647 ≤ s.n) && decide (s.n ≤ 2147483647)
  else if s.kind = 3 then decide (s.n = 0) && isWord s.text else false
theorem ret_bool {a b : Bool} (h : a = b) : Ending.returned (.bool a) = .returned (.bool b) := by rw [h]

theorem validB_id {t : ByteArray} {n : Int} (h : validB ⟨1, t, n⟩ = true) : t.size = 1 ∧ headB greatB t = true ∧ 1 ≤ n ∧ n ≤ 1048576 := by
  simp only [validB, if_true, Bool.and_eq_true, decide_eq_true_eq] at h
  exact ⟨h.1.1.1, h.1.1.2, h.1.2, h.2⟩
theorem validB_int {t : ByteArray} {n : Int} (h : validB ⟨2, t, n⟩ = true) : t.toList = [] ∧ -2147483647 ≤ n ∧ n ≤ 2147483647 := by
  simp [validB] at h
  exact ⟨h.1.1, h.1.2, h.2⟩
theorem validB_kind {k n : Int} {t : ByteArray} (h : validB ⟨k, t, n⟩ = true) : k = 1 ∨ k = 2 ∨ k = 3 := by
  unfold validB at h
  dsimp only at h
  split at h
  · exact .inl ‹_›
  · split at h
    · exact .inr (.inl ‹_›)
    · split at h
      · exact .inr (.inr ‹_›)
      · cases h
/-- A right symbol's text. -/
def textB (s : Sym) : ByteArray := if validB s = true then (if s.kind = 1 then s.text ++ numB s.n else if s.kind = 2 then numB s.n else s.text) else ⟨#[]⟩
theorem numB_nat (k : Nat) : numB (k : Int) = decB k := by unfold numB; rw [if_neg (by omega)]; simp
theorem numB_neg (k : Nat) (h : 0 < k) : numB (-(k : Int)) = ⟨#[45]⟩ ++ decB k := by unfold numB; rw [if_pos (by omega)]; simp
theorem textB_no {s : Sym} (h : validB s = false) : textB s = ⟨#[]⟩ := by unfold textB; rw [h]; simp
set_option maxRecDepth 100000 in
set_option maxHeartbeats 4000000 in
theorem valid_is (s : Sym) (w : World) : Calls Try.prog 29 #[.agg #[.int .i64 s.kind, .string s.text, .int .i64 s.n]] w fun e w' => e = .returned (.bool (validB s)) ∧ Below w.heap.size w w' := by
  obtain ⟨k, t, n⟩ := s
  dsimp only
  by_cases k1 : k = 1
  · subst k1
    by_cases a1 : t.size = 1
    · have h0 : 0 < t.size := by omega
      have t1 : ((t.size : Int) == 1) = true := by simp; omega
      have HV := Lib.hid (show validB ⟨1, t, n⟩ = (greatB t[0] && decide (1 ≤ n) && decide (n ≤ 1048576)) by simp [validB, a1, headB_eq h0])
      go_enter Try.func29, Try.ntmps29
      go_wp2_with (go_at_call 34; refine (great_is _ _).mono ?_; rintro e w' ⟨rfl, rfl⟩)
      all_goals
        go_ret
        refine ⟨?_, (Below.refl _ _).alloc (Nat.le_refl _) _⟩
        rw [HV.out]
        first | rfl | (refine ret_bool ?_; simp_all; done) | (refine ret_bool ?_; simp_all; omega) | (refine ret_bool ?_; simp_all [greatB]; done) | (refine ret_bool ?_; simp_all [greatB]; omega)
    · have t1 : ((t.size : Int) == 1) = false := by simp; omega
      have HV := Lib.hid (show validB ⟨1, t, n⟩ = false by simp [validB, a1])
      go_enter Try.func29, Try.ntmps29
      go_wp2_with fail
      all_goals
        go_ret
        refine ⟨?_, (Below.refl _ _).alloc (Nat.le_refl _) _⟩
        rw [HV.out]
        rfl
  · by_cases k2 : k = 2
    · subst k2
      have HV := Lib.hid (show validB ⟨2, t, n⟩ = (decide (t.toList = []) && decide (-2147483647 ≤ n) && decide (n ≤ 2147483647)) by simp [validB])
      clear k1
      go_enter Try.func29, Try.ntmps29
      go_wp2_with fail
      all_goals
        go_ret
        refine ⟨?_, (Below.refl _ _).alloc (Nat.le_refl _) _⟩
        rw [HV.out]
        first | rfl | (refine ret_bool ?_; simp_all; done) | (refine ret_bool ?_; simp_all; omega) | (refine ret_bool ?_; simp_all [greatB]; done) | (refine ret_bool ?_; simp_all [greatB]; omega)
    · by_cases k3 : k = 3
      · subst k3
        have HV := Lib.hid (show validB ⟨3, t, n⟩ = (decide (n = 0) && isWord t) by simp [validB])
        clear k1 k2
        go_enter Try.func29, Try.ntmps29
        go_wp2_with (go_at_call 40; refine (word_is _ _).mono ?_; rintro e w' ⟨rfl, rfl⟩)
        all_goals
          go_ret
          refine ⟨?_, (Below.refl _ _).alloc (Nat.le_refl _) _⟩
          rw [HV.out]
          first | rfl | (refine ret_bool ?_; simp_all; done) | (refine ret_bool ?_; simp_all; omega) | (refine ret_bool ?_; simp_all [greatB]; done) | (refine ret_bool ?_; simp_all [greatB]; omega)
      · have HV := Lib.hid (show validB ⟨k, t, n⟩ = false by simp [validB, k1, k2, k3])
        have t1 : (k == 1) = false := by simp [k1]
        have t2 : (k == 2) = false := by simp [k2]
        have t3 : (k == 3) = false := by simp [k3]
        clear k1 k2 k3
        go_enter Try.func29, Try.ntmps29
        go_wp2_with fail
        all_goals
          go_ret
          refine ⟨?_, (Below.refl _ _).alloc (Nat.le_refl _) _⟩
          rw [HV.out]
          rfl
end Go.Proofs.Ythogokcbbkjcdaa

namespace Go.Proofs.Ythogokcbbkjcdaa
open Go.RowKit
/-- Where a table lies: its block, its room, its set of symbols, its map, that one's set of pages. -/
structure TB where
  b : Nat
  room : Int
  bs : Nat
  bm : Nat
  bp : Nat
def TabBlk (w : World) (T : TB) : Prop := Blk w T.b 48 #[.int .i64 T.room, .pointer (some ⟨T.bs, 0, none⟩), .pointer (some ⟨T.bm, 0, none⟩)] ∧ Blk w T.bm 75 #[.pointer (some ⟨T.bp, 0, none⟩)]
theorem TabBlk.kb {w w' : World} {T : TB} (h : TabBlk w T) (hk : KB w w') : TabBlk w' T := ⟨hk _ _ _ (by decide) (by decide) (by decide) (by decide) h.1, hk _ _ _ (by decide) (by decide) (by decide) (by decide) h.2⟩
theorem TabBlk.below {w w' : World} {T : TB} (h : TabBlk w T) (hk : Below w.heap.size w w') : TabBlk w' T := ⟨h.1.new_ hk, h.2.new_ hk⟩
section
variable {D : Nat → Prop} {w : World} {S : Nat → Option (List Sym)} {σ : Nat → St} {S2 : Nat → Option (List Page)} {σ2 : Nat → St}
/-- A new map. -/
def MadeMap (D : Nat → Prop) (w : World) (S : Nat → Option (List Sym)) (σ : Nat → St) (S2 : Nat → Option (List Page)) (e : Ending) (w' : World) : Prop :=
  ∃ bm bp, e = .returned (.pointer (some ⟨bm, 0, none⟩)) ∧ Blk w' bm 75 #[.pointer (some ⟨bp, 0, none⟩)] ∧ (∃ σ2', Tabs D w' S σ (upd S2 bp (some [])) σ2') ∧ Below w.heap.size w w' ∧ w.heap.size ≤ bm ∧ w.heap.size ≤ bp
set_option maxHeartbeats 1000000 in
theorem booknew_is (hT : Tabs D w S σ S2 σ2) : Calls Try.prog 15 #[] w (MadeMap D w S σ S2) := by
  have HT := Lib.hid hT
  clear hT
  go_enter Try.func15, Try.ntmps15
  go_wp2_with fail
  refine (sNew_Page none 0 [] HT.out.pages (RowRd.nil _ _ _) (by simp)).mono ?_
  rintro e w1 ⟨⟨k, rfl, hk, _, σ', h1, _⟩, hB⟩
  have HB := Lib.hid hB
  have H1 := Lib.hid (show Tabs D w1 S σ (upd S2 k (some [])) σ' from ⟨HT.out.syms.below hB, h1⟩)
  clear hB h1
  go_wp2_with fail
  go_ret
  have hz := HB.out.size
  exact ⟨w1.heap.size, k, rfl, Blk.new _ _ _, ⟨σ', H1.out.below ((Below.refl _ _).alloc (Nat.le_refl _) _)⟩, HB.out.alloc hz _, hz, hk⟩
/-- A new table. -/
def MadeTab (D : Nat → Prop) (w : World) (S : Nat → Option (List Sym)) (S2 : Nat → Option (List Page)) (room : Int) (e : Ending) (w' : World) : Prop :=
  ∃ T : TB, e = .returned (.tuple #[.pointer (some ⟨T.b, 0, none⟩), .int .i64 0]) ∧ T.room = room ∧ TabBlk w' T ∧ (∃ σ' σ2', Tabs D w' (upd S T.bs (some [])) σ' (upd S2 T.bp (some [])) σ2') ∧ Below w.heap.size w w' ∧ w.heap.size ≤ T.bs ∧ w.heap.size ≤ T.bp
set_option maxHeartbeats 1000000 in
theorem tabnew_is (room : Int) (h1 : 1 ≤ room) (h2 : room ≤ 4096) (hT : Tabs D w S σ S2 σ2) : Calls Try.prog 5 #[.int .i64 room] w (MadeTab D w S S2 room) := by
  have HT := Lib.hid hT
  have t1 : decide (room < 1) = false := by simp; omega
  have t2 : decide ((4096 : Int) < room) = false := by simp; omega
  clear hT h1 h2
  go_enter Try.func5, Try.ntmps5
  go_wp2_with fail
  refine (sNew_Sym none 0 [] HT.out.syms (RowRd.nil _ _ _) (by simp)).mono ?_
  rintro e w1 ⟨⟨k, rfl, hk, _, σ', h1, _⟩, hB⟩
  have HB := Lib.hid hB
  have H1 := Lib.hid (show Tabs D w1 (upd S k (some [])) σ' S2 σ2 from ⟨h1, HT.out.pages.below hB⟩)
  clear hB h1
  go_wp2_with fail
  refine (booknew_is H1.out).mono ?_
  rintro e w2 ⟨bm, bp, rfl, hM, ⟨σ2', h2⟩, hB2, hbm, hbp⟩
  have HM := Lib.hid hM
  have H2 := Lib.hid h2
  have hz1 := HB.out.size
  have hz2 := hB2.size
  have HB2 := Lib.hid (HB.out.trans (hB2.mono hz1))
  clear hM h2 hB2
  go_wp2_with fail
  go_ret2
  have hnew : Below w2.heap.size w2 (w2.alloc (.cells #[.int .i64 room, .pointer (some ⟨k, 0, none⟩), .pointer (some ⟨bm, 0, none⟩)] 48)) := (Below.refl _ _).alloc (Nat.le_refl _) _
  exact ⟨⟨w2.heap.size, room, k, bm, bp⟩, rfl, rfl, ⟨Blk.new _ _ _, HM.out.new_ hnew⟩, ⟨σ', σ2', H2.out.below hnew⟩, HB2.out.alloc (by omega) _, hk, by dsimp only; omega⟩
set_option maxHeartbeats 1000000 in
theorem tabnew_no (room : Int) (h : room < 1 ∨ 4096 < room) (w : World) : Calls Try.prog 5 #[.int .i64 room] w fun e w' => e = .returned (.tuple #[.pointer none, .int .i64 1]) ∧ w = w' := by
  by_cases h1 : room < 1
  · have t1 : decide (room < 1) = true := by simpa using h1
    clear h
    go_enter Try.func5, Try.ntmps5
    go_wp2_with fail
    go_ret2
    exact ⟨rfl, rfl⟩
  · have t1 : decide (room < 1) = false := by simpa using h1
    have t2 : decide ((4096 : Int) < room) = true := by simp; omega
    clear h
    go_enter Try.func5, Try.ntmps5
    go_wp2_with fail
    go_ret2
    exact ⟨rfl, rfl⟩
/-- One above the greatest number of a letter's identifiers. -/
def nextB (m : List Page) (c : UInt8) : Int := if greatB c = true then (mget m c).getD 1 else 0
set_option maxHeartbeats 1000000 in
theorem next_is (T : TB) (m : List Page) (c : UInt8) (hT : Tabs D w S σ S2 σ2) (hB : TabBlk w T) (hb : S2 T.bp = some m) (hl : (m.length : Int) ≤ 1000000) :
    Calls Try.prog 35 #[.pointer (some ⟨T.b, 0, none⟩), .int .u8 (c.toNat : Int)] w fun e w' => e = .returned (.int .i64 (nextB m c)) ∧ Below w.heap.size w w' := by
  have hS := hT.pages.at_ T.bp m hb
  have hs := hT.pages.srt T.bp m hb
  have HS := Lib.hid hS
  have HO := Lib.hid hs
  have HB := Lib.hid hB
  have s2 := (hB.1.cell 2).trans rfl
  clear hT hB hb hS hs
  cases hg : greatB c
  · have HN : Hid (nextB m c = 0) := Lib.hid (by unfold nextB; rw [hg]; rfl)
    go_enter Try.func35, Try.ntmps35
    go_wp2_with (go_at_call 34; refine (great_is _ _).mono ?_; rintro e w' ⟨rfl, rfl⟩)
    go_ret
    exact ⟨by rw [HN.out] <;> rfl, Below.refl _ _⟩
  · cases hh : has cmpPage m ⟨c, 0⟩
    · have HN : Hid (nextB m c = 1) := Lib.hid (by unfold nextB; rw [hg, mget_none hh]; rfl)
      have HH := Lib.hid hh
      clear hh
      go_enter Try.func35, Try.ntmps35
      go_wp2_with (first | (go_at_call 34; refine (great_is _ _).mono ?_; rintro e w' ⟨rfl, rfl⟩) | (go_at_call 45; refine (mapget_no T.bm T.bp _ _ _ m c _ HB.out.2 HS.out HO.out hl HH.out).mono ?_; rintro e w' ⟨rfl, hb1⟩))
      go_ret
      exact ⟨by rw [HN.out] <;> rfl, hb1⟩
    · obtain ⟨y, hy, _, hm⟩ := found_page HO.out hh
      have HN : Hid (nextB m c = y.v) := Lib.hid (by unfold nextB; rw [hg, hm]; rfl)
      have HH := Lib.hid hh
      have HY := Lib.hid hy
      clear hh hy hm
      go_enter Try.func35, Try.ntmps35
      go_wp2_with (first | (go_at_call 34; refine (great_is _ _).mono ?_; rintro e w' ⟨rfl, rfl⟩) | (go_at_call 45; refine (mapget_is T.bm T.bp _ _ _ m c y _ HB.out.2 HS.out HO.out hl HH.out HY.out).mono ?_; rintro e w' ⟨rfl, hb1⟩))
      go_ret
      exact ⟨by rw [HN.out] <;> rfl, hb1⟩
end
end Go.Proofs.Ythogokcbbkjcdaa

namespace Go.Proofs.Ythogokcbbkjcdaa
open Go.RowKit
def idc (t : ByteArray) : UInt8 := t.data.toList.headD 0
theorem idc_eq {t : ByteArray} (h : 0 < t.size) : idc t = t[0] := by
  obtain ⟨r, hr⟩ : ∃ r, t.data.toList = t[0] :: r := by
    have hs : t.data.toList.length = t.size := Array.length_toList
    refine ⟨t.data.toList.drop 1, ?_⟩
    have e : t[0] = t.data.toList[0]'(by omega) := by rw [Array.getElem_toList]; rfl
    rw [e, List.getElem_cons_drop, List.drop_zero]
  unfold idc
  rw [hr]; rfl
/-- The map of next numbers behind a symbol's put. -/
def tputM (m : List Page) (s : Sym) : List Page := if s.kind = 1 ∧ nextB m (idc s.text) ≤ s.n then mput m ⟨idc s.text, s.n + 1⟩ else m
/-- Behind a table's put. -/
def TabPut (D : Nat → Prop) (w : World) (S : Nat → Option (List Sym)) (σ : Nat → St) (S2 : Nat → Option (List Page)) (σ2 : Nat → St) (T : TB) (l : List Sym) (m : List Page) (w' : World) : Prop :=
  (∃ σ' σ2', Tabs D w' (upd S T.bs (some l)) σ' (upd S2 T.bp (some m)) σ2' ∧ ∀ k, k < w.heap.size → Off k S σ → Off k S2 σ2 → Off k (upd S T.bs (some l)) σ' ∧ Off k (upd S2 T.bp (some m)) σ2') ∧ KB w w' ∧ Fr (fun k => ¬ D k) w w'
section
variable {D : Nat → Prop} {w : World} {S : Nat → Option (List Sym)} {σ : Nat → St} {S2 : Nat → Option (List Page)} {σ2 : Nat → St}
theorem Tabs.noop {b : Nat} {m : List Page} (h : Tabs D w S σ S2 σ2) (hb : S2 b = some m) : Tabs D w S σ (upd S2 b (some m)) σ2 := by rw [upd_id _ _ _ hb]; exact h

set_option maxRecDepth 100000 in
set_option maxHeartbeats 4000000 in
theorem tabput_other (T : TB) (l : List Sym) (m : List Page) (k : Int) (t : ByteArray) (n : Int) (hT : Tabs D w S σ S2 σ2) (hB : TabBlk w T) (hb : S T.bs = some l) (hb2 : S2 T.bp = some m) (hk : ¬ k = 1) (hl : (l.length : Int) ≤ 1000000) (hl2 : (m.length : Int) ≤ 1000000) :
    Calls Try.prog 33 #[.pointer (some ⟨T.b, 0, none⟩), .agg #[.int .i64 k, .string t, .int .i64 n]] w fun e w' => e = .returned (.tuple #[]) ∧ TabPut D w S σ S2 σ2 T (put cmpSym l ⟨k, t, n⟩) m w' := by
  have hA0 := (hT.syms.at_ T.bs l hb).row_lt
  have hbs := (hT.syms.at_ T.bs l hb).lt
  have HT := Lib.hid hT
  have HB := Lib.hid hB
  have HS := Lib.hid hb
  have HP := Lib.hid hb2
  have HA0 := Lib.hid hA0
  have _hl := hl2
  have t1 : (k == 1) = false := by simp [hk]
  clear hk
  clear hT hB hb hb2 hA0
  go_enter Try.func33, Try.ntmps33
  go_wp2_with fail
  obtain ⟨W, hW⟩ : ∃ W, W = w.alloc (Obj.cells #[Value.int IntKind.i64 k, Value.string t, Value.int IntKind.i64 n] 36) := ⟨_, rfl⟩
  have hX : Blk W w.heap.size 36 #[.int .i64 k, .string t, .int .i64 n] := by rw [hW]; exact Blk.new _ _ _
  have hB0 : Below w.heap.size w W := by rw [hW]; exact (Below.refl _ _).alloc (Nat.le_refl _) _
  rw [← hW]
  clear hW
  have y0 := (hX.cell 0).trans rfl
  have y1 := (hX.cell 1).trans rfl
  have y2 := (hX.cell 2).trans rfl
  have hxl := hX.lt
  have hT0 := HT.out.below hB0
  have hBk := HB.out.below hB0
  have s1 := (hBk.1.cell 1).trans rfl
  have hbl := hBk.1.lt
  have HX := Lib.hid hX
  have HB0 := Lib.hid hB0
  have HT0 := Lib.hid hT0
  have HBk := Lib.hid hBk
  clear hX hB0 hT0 hBk
  refine wp_region_E (fun w9 => Below W.heap.size W w9) [(0, 0), (1, 0), (2, 0), (3, 1), (4, 1), (5, 2)] (by kernel_rfl) (by kernel_rfl) (fun KK hKK => ?_)
  simp only [beside, List.filterMap_cons, List.filterMap_nil, List.getElem?_toArray, List.getElem?_cons_zero, List.getElem?_cons_succ, Option.map_some]
  repeat (first | (refine wpX_w ?_ (Or.inl ⟨by rfl, fun w9 => ?_⟩) ?_; rotate_left 1; go_simp; with_reducible rfl; simp only [Act.put, List.setIfInBounds_toArray, List.set_cons_zero, List.set_cons_succ]) | (refine wpX_l ?_ (((Below.refl _ _).drew)) (Or.inl ⟨by rfl, fun w9 hw9 => ?_⟩) ?_; rotate_left 1; obtain ⟨hc9, hf9⟩ := bcell hw9; go_simp; with_reducible rfl; simp only [Act.put, List.setIfInBounds_toArray, List.set_cons_zero, List.set_cons_succ]) | (refine wpX_w undef (Or.inr ⟨by rfl, rfl⟩) ?_; simp only [Act.put, List.setIfInBounds_toArray, List.set_cons_zero, List.set_cons_succ]) | (refine wpX_l undef (((Below.refl _ _).drew)) (Or.inr ⟨by rfl, rfl⟩) ?_; simp only [Act.put, List.setIfInBounds_toArray, List.set_cons_zero, List.set_cons_succ]))
  refine wpX_e (by kernel_rfl) (fun K9 hK9 => ?_)
  go_simp
  refine (tPut_Sym ⟨k, t, n⟩ (HT0.out.below ((Below.refl _ _).drew)) HS.out (by omega)).mono ?_
  rintro e w1 ⟨rfl, hch⟩
  have HP1 := Lib.hid hch
  obtain ⟨_, _, _, hM1⟩ := hch
  have hng : ¬ SetMod T.bs (σ T.bs).sn (σ T.bs).A w.heap.size := (by
    rintro (h | ⟨_, a, ha, h⟩)
    · omega
    · have := HA0.out a ha; omega)
  have hX1 := HX.out.drew.fr hM1 hng
  have z0 := (hX1.cell 0).trans rfl
  have z1 := (hX1.cell 1).trans rfl
  have z2 := (hX1.cell 2).trans rfl
  have hxl1 := hX1.lt
  have hBk1 : TabBlk w1 T := TabBlk.kb HBk.out HP1.out.2.1
  have r2 := (hBk1.1.cell 2).trans rfl
  have hbl1 := hBk1.1.lt
  obtain ⟨σ1, hT1, hO1⟩ := HP1.out.1
  have HT1 := Lib.hid hT1
  have HO1 := Lib.hid hO1
  have HX1 := Lib.hid hX1
  have HBk1 := Lib.hid hBk1
  clear hM1 hng hX1 hBk1 hT1 hO1 y0 y1 y2 s1
  refine hK9 _ _ ?_
  clear hK9 K9
  refine wpX_nil ?_
  simp only [OnlyN_normal]
  refine hKK _ _ ?_
  clear hKK KK
  go_wp2_with fail
  refine wp_region_E (fun w9 => Below w1.heap.size w1 w9) [(0, 0), (1, 1), (2, 0), (3, 0), (4, 0), (5, 1), (6, 0), (7, 0), (8, 1), (9, 0), (10, 2), (11, 0), (12, 0)] (by kernel_rfl) (by kernel_rfl) (fun KK hKK => ?_)
  simp only [beside, List.filterMap_cons, List.filterMap_nil, List.getElem?_toArray, List.getElem?_cons_zero, List.getElem?_cons_succ, Option.map_some]
  repeat (first | (refine wpX_w ?_ (Or.inl ⟨by rfl, fun w9 => ?_⟩) ?_; rotate_left 1; go_simp; with_reducible rfl; simp only [Act.put, List.setIfInBounds_toArray, List.set_cons_zero, List.set_cons_succ]) | (refine wpX_l ?_ (((Below.refl _ _).drew)) (Or.inl ⟨by rfl, fun w9 hw9 => ?_⟩) ?_; rotate_left 1; obtain ⟨hc9, hf9⟩ := bcell hw9; go_simp; with_reducible rfl; simp only [Act.put, List.setIfInBounds_toArray, List.set_cons_zero, List.set_cons_succ]) | (refine wpX_w undef (Or.inr ⟨by rfl, rfl⟩) ?_; simp only [Act.put, List.setIfInBounds_toArray, List.set_cons_zero, List.set_cons_succ]) | (refine wpX_l undef (((Below.refl _ _).drew)) (Or.inr ⟨by rfl, rfl⟩) ?_; simp only [Act.put, List.setIfInBounds_toArray, List.set_cons_zero, List.set_cons_succ]))
  refine wpX_es (fun K9 hK9 => ?_)
  go_simp
  have HB2 := Lib.hid ((Below.refl w1.heap.size w1).drew)
  refine hK9 _ _ HB2.out ?_
  clear hK9 K9
  repeat (first | (refine wpX_w ?_ (Or.inl ⟨by rfl, fun w9 => ?_⟩) ?_; rotate_left 1; go_simp; with_reducible rfl; simp only [Act.put, List.setIfInBounds_toArray, List.set_cons_zero, List.set_cons_succ]) | (refine wpX_l ?_ (HB2.out) (Or.inl ⟨by rfl, fun w9 hw9 => ?_⟩) ?_; rotate_left 1; obtain ⟨hc9, hf9⟩ := bcell hw9; go_simp; with_reducible rfl; simp only [Act.put, List.setIfInBounds_toArray, List.set_cons_zero, List.set_cons_succ]) | (refine wpX_w undef (Or.inr ⟨by rfl, rfl⟩) ?_; simp only [Act.put, List.setIfInBounds_toArray, List.set_cons_zero, List.set_cons_succ]) | (refine wpX_l undef (HB2.out) (Or.inr ⟨by rfl, rfl⟩) ?_; simp only [Act.put, List.setIfInBounds_toArray, List.set_cons_zero, List.set_cons_succ]))
  refine wpX_nil ?_
  simp only [OnlyN_normal]
  refine hKK _ _ ?_
  clear hKK KK
  go_wp2_with fail
  go_end0
  have hz0 := HB0.out.size
  refine ⟨rfl, ⟨σ1, _, (HT1.out.below HB2.out).noop HP.out, fun k hk ho ho2 => ⟨HO1.out k (by simp; omega) ho, by rw [upd_id _ _ _ HP.out]; exact ho2⟩⟩, ((KB.of_below HB0.out).trans HP1.out.2.1).trans (KB.of_below HB2.out), (((Fr.of_new HB0.out).trans ((Fr.refl _ W).drew.trans HP1.out.2.2.1)).trans (Fr.of_new HB2.out))⟩

set_option maxRecDepth 100000 in
set_option maxHeartbeats 4000000 in
theorem tabput_low (T : TB) (l : List Sym) (m : List Page) (t : ByteArray) (n : Int) (hT : Tabs D w S σ S2 σ2) (hB : TabBlk w T) (hb : S T.bs = some l) (hb2 : S2 T.bp = some m) (ht : t.size = 1) (hc : ¬ nextB m (t[0]'(by omega)) ≤ n) (hl : (l.length : Int) ≤ 1000000) (hl2 : (m.length : Int) ≤ 1000000) :
    Calls Try.prog 33 #[.pointer (some ⟨T.b, 0, none⟩), .agg #[.int .i64 1, .string t, .int .i64 n]] w fun e w' => e = .returned (.tuple #[]) ∧ TabPut D w S σ S2 σ2 T (put cmpSym l ⟨1, t, n⟩) m w' := by
  have hA0 := (hT.syms.at_ T.bs l hb).row_lt
  have hbs := (hT.syms.at_ T.bs l hb).lt
  have HT := Lib.hid hT
  have HB := Lib.hid hB
  have HS := Lib.hid hb
  have HP := Lib.hid hb2
  have HA0 := Lib.hid hA0
  have h0 : 0 < t.size := by omega
  have t1 : decide (nextB m t[0] ≤ n) = false := by simpa using hc
  clear hc
  clear hT hB hb hb2 hA0
  go_enter Try.func33, Try.ntmps33
  go_wp2_with fail
  obtain ⟨W, hW⟩ : ∃ W, W = w.alloc (Obj.cells #[Value.int IntKind.i64 1, Value.string t, Value.int IntKind.i64 n] 36) := ⟨_, rfl⟩
  have hX : Blk W w.heap.size 36 #[.int .i64 1, .string t, .int .i64 n] := by rw [hW]; exact Blk.new _ _ _
  have hB0 : Below w.heap.size w W := by rw [hW]; exact (Below.refl _ _).alloc (Nat.le_refl _) _
  rw [← hW]
  clear hW
  have y0 := (hX.cell 0).trans rfl
  have y1 := (hX.cell 1).trans rfl
  have y2 := (hX.cell 2).trans rfl
  have hxl := hX.lt
  have hT0 := HT.out.below hB0
  have hBk := HB.out.below hB0
  have s1 := (hBk.1.cell 1).trans rfl
  have hbl := hBk.1.lt
  have HX := Lib.hid hX
  have HB0 := Lib.hid hB0
  have HT0 := Lib.hid hT0
  have HBk := Lib.hid hBk
  clear hX hB0 hT0 hBk
  refine wp_region_E (fun w9 => Below W.heap.size W w9) [(0, 0), (1, 0), (2, 0), (3, 1), (4, 1), (5, 2)] (by kernel_rfl) (by kernel_rfl) (fun KK hKK => ?_)
  simp only [beside, List.filterMap_cons, List.filterMap_nil, List.getElem?_toArray, List.getElem?_cons_zero, List.getElem?_cons_succ, Option.map_some]
  repeat (first | (refine wpX_w ?_ (Or.inl ⟨by rfl, fun w9 => ?_⟩) ?_; rotate_left 1; go_simp; with_reducible rfl; simp only [Act.put, List.setIfInBounds_toArray, List.set_cons_zero, List.set_cons_succ]) | (refine wpX_l ?_ (((Below.refl _ _).drew)) (Or.inl ⟨by rfl, fun w9 hw9 => ?_⟩) ?_; rotate_left 1; obtain ⟨hc9, hf9⟩ := bcell hw9; go_simp; with_reducible rfl; simp only [Act.put, List.setIfInBounds_toArray, List.set_cons_zero, List.set_cons_succ]) | (refine wpX_w undef (Or.inr ⟨by rfl, rfl⟩) ?_; simp only [Act.put, List.setIfInBounds_toArray, List.set_cons_zero, List.set_cons_succ]) | (refine wpX_l undef (((Below.refl _ _).drew)) (Or.inr ⟨by rfl, rfl⟩) ?_; simp only [Act.put, List.setIfInBounds_toArray, List.set_cons_zero, List.set_cons_succ]))
  refine wpX_e (by kernel_rfl) (fun K9 hK9 => ?_)
  go_simp
  refine (tPut_Sym ⟨1, t, n⟩ (HT0.out.below ((Below.refl _ _).drew)) HS.out (by omega)).mono ?_
  rintro e w1 ⟨rfl, hch⟩
  have HP1 := Lib.hid hch
  obtain ⟨_, _, _, hM1⟩ := hch
  have hng : ¬ SetMod T.bs (σ T.bs).sn (σ T.bs).A w.heap.size := (by
    rintro (h | ⟨_, a, ha, h⟩)
    · omega
    · have := HA0.out a ha; omega)
  have hX1 := HX.out.drew.fr hM1 hng
  have z0 := (hX1.cell 0).trans rfl
  have z1 := (hX1.cell 1).trans rfl
  have z2 := (hX1.cell 2).trans rfl
  have hxl1 := hX1.lt
  have hBk1 : TabBlk w1 T := TabBlk.kb HBk.out HP1.out.2.1
  have r2 := (hBk1.1.cell 2).trans rfl
  have hbl1 := hBk1.1.lt
  obtain ⟨σ1, hT1, hO1⟩ := HP1.out.1
  have HT1 := Lib.hid hT1
  have HO1 := Lib.hid hO1
  have HX1 := Lib.hid hX1
  have HBk1 := Lib.hid hBk1
  clear hM1 hng hX1 hBk1 hT1 hO1 y0 y1 y2 s1
  refine hK9 _ _ ?_
  clear hK9 K9
  refine wpX_nil ?_
  simp only [OnlyN_normal]
  refine hKK _ _ ?_
  clear hKK KK
  go_wp2_with fail
  refine wp_region_E (fun w9 => Below w1.heap.size w1 w9) [(0, 0), (1, 1), (2, 0), (3, 0), (4, 0), (5, 1), (6, 0), (7, 0), (8, 1), (9, 0), (10, 2), (11, 0), (12, 0)] (by kernel_rfl) (by kernel_rfl) (fun KK hKK => ?_)
  simp only [beside, List.filterMap_cons, List.filterMap_nil, List.getElem?_toArray, List.getElem?_cons_zero, List.getElem?_cons_succ, Option.map_some]
  repeat (first | (refine wpX_w ?_ (Or.inl ⟨by rfl, fun w9 => ?_⟩) ?_; rotate_left 1; go_simp; with_reducible rfl; simp only [Act.put, List.setIfInBounds_toArray, List.set_cons_zero, List.set_cons_succ]) | (refine wpX_l ?_ (((Below.refl _ _).drew)) (Or.inl ⟨by rfl, fun w9 hw9 => ?_⟩) ?_; rotate_left 1; obtain ⟨hc9, hf9⟩ := bcell hw9; go_simp; with_reducible rfl; simp only [Act.put, List.setIfInBounds_toArray, List.set_cons_zero, List.set_cons_succ]) | (refine wpX_w undef (Or.inr ⟨by rfl, rfl⟩) ?_; simp only [Act.put, List.setIfInBounds_toArray, List.set_cons_zero, List.set_cons_succ]) | (refine wpX_l undef (((Below.refl _ _).drew)) (Or.inr ⟨by rfl, rfl⟩) ?_; simp only [Act.put, List.setIfInBounds_toArray, List.set_cons_zero, List.set_cons_succ]))
  refine wpX_es (fun K9 hK9 => ?_)
  go_simp
  refine (next_is T m t[0] (HT1.out.below ((Below.refl _ _).drew)) (HBk1.out.below ((Below.refl _ _).drew)) HP.out hl2).mono ?_
  rintro e w2 ⟨rfl, hb2⟩
  have HB2 := Lib.hid ((Below.refl w1.heap.size w1).drew.trans (hb2.mono (by simp)))
  clear hb2
  refine hK9 _ _ HB2.out ?_
  clear hK9 K9
  repeat (first | (refine wpX_w ?_ (Or.inl ⟨by rfl, fun w9 => ?_⟩) ?_; rotate_left 1; go_simp; with_reducible rfl; simp only [Act.put, List.setIfInBounds_toArray, List.set_cons_zero, List.set_cons_succ]) | (refine wpX_l ?_ (HB2.out) (Or.inl ⟨by rfl, fun w9 hw9 => ?_⟩) ?_; rotate_left 1; obtain ⟨hc9, hf9⟩ := bcell hw9; go_simp; with_reducible rfl; simp only [Act.put, List.setIfInBounds_toArray, List.set_cons_zero, List.set_cons_succ]) | (refine wpX_w undef (Or.inr ⟨by rfl, rfl⟩) ?_; simp only [Act.put, List.setIfInBounds_toArray, List.set_cons_zero, List.set_cons_succ]) | (refine wpX_l undef (HB2.out) (Or.inr ⟨by rfl, rfl⟩) ?_; simp only [Act.put, List.setIfInBounds_toArray, List.set_cons_zero, List.set_cons_succ]))
  refine wpX_nil ?_
  simp only [OnlyN_normal]
  refine hKK _ _ ?_
  clear hKK KK
  go_wp2_with fail
  go_end0
  have hz0 := HB0.out.size
  refine ⟨rfl, ⟨σ1, _, (HT1.out.below HB2.out).noop HP.out, fun k hk ho ho2 => ⟨HO1.out k (by simp; omega) ho, by rw [upd_id _ _ _ HP.out]; exact ho2⟩⟩, ((KB.of_below HB0.out).trans HP1.out.2.1).trans (KB.of_below HB2.out), (((Fr.of_new HB0.out).trans ((Fr.refl _ W).drew.trans HP1.out.2.2.1)).trans (Fr.of_new HB2.out))⟩

set_option maxRecDepth 100000 in
set_option maxHeartbeats 4000000 in
theorem tabput_high (T : TB) (l : List Sym) (m : List Page) (t : ByteArray) (n : Int) (hT : Tabs D w S σ S2 σ2) (hB : TabBlk w T) (hb : S T.bs = some l) (hb2 : S2 T.bp = some m) (ht : t.size = 1) (hc : nextB m (t[0]'(by omega)) ≤ n) (hn1 : 1 ≤ n) (hn2 : n ≤ 1048576) (hl : (l.length : Int) ≤ 1000000) (hl2 : (m.length : Int) ≤ 1000000) :
    Calls Try.prog 33 #[.pointer (some ⟨T.b, 0, none⟩), .agg #[.int .i64 1, .string t, .int .i64 n]] w fun e w' => e = .returned (.tuple #[]) ∧ TabPut D w S σ S2 σ2 T (put cmpSym l ⟨1, t, n⟩) (mput m ⟨t[0]'(by omega), n + 1⟩) w' := by
  have hA0 := (hT.syms.at_ T.bs l hb).row_lt
  have hbs := (hT.syms.at_ T.bs l hb).lt
  have HT := Lib.hid hT
  have HB := Lib.hid hB
  have HS := Lib.hid hb
  have HP := Lib.hid hb2
  have HA0 := Lib.hid hA0
  have h0 : 0 < t.size := by omega
  have t1 : decide (nextB m t[0] ≤ n) = true := by simpa using hc
  have v1 : IntKind.i64.wrap (n + 1) = n + 1 := IntWalk.i64_in _ (by omega)
  clear hc
  clear hT hB hb hb2 hA0
  go_enter Try.func33, Try.ntmps33
  go_wp2_with fail
  obtain ⟨W, hW⟩ : ∃ W, W = w.alloc (Obj.cells #[Value.int IntKind.i64 1, Value.string t, Value.int IntKind.i64 n] 36) := ⟨_, rfl⟩
  have hX : Blk W w.heap.size 36 #[.int .i64 1, .string t, .int .i64 n] := by rw [hW]; exact Blk.new _ _ _
  have hB0 : Below w.heap.size w W := by rw [hW]; exact (Below.refl _ _).alloc (Nat.le_refl _) _
  rw [← hW]
  clear hW
  have y0 := (hX.cell 0).trans rfl
  have y1 := (hX.cell 1).trans rfl
  have y2 := (hX.cell 2).trans rfl
  have hxl := hX.lt
  have hT0 := HT.out.below hB0
  have hBk := HB.out.below hB0
  have s1 := (hBk.1.cell 1).trans rfl
  have hbl := hBk.1.lt
  have HX := Lib.hid hX
  have HB0 := Lib.hid hB0
  have HT0 := Lib.hid hT0
  have HBk := Lib.hid hBk
  clear hX hB0 hT0 hBk
  refine wp_region_E (fun w9 => Below W.heap.size W w9) [(0, 0), (1, 0), (2, 0), (3, 1), (4, 1), (5, 2)] (by kernel_rfl) (by kernel_rfl) (fun KK hKK => ?_)
  simp only [beside, List.filterMap_cons, List.filterMap_nil, List.getElem?_toArray, List.getElem?_cons_zero, List.getElem?_cons_succ, Option.map_some]
  repeat (first | (refine wpX_w ?_ (Or.inl ⟨by rfl, fun w9 => ?_⟩) ?_; rotate_left 1; go_simp; with_reducible rfl; simp only [Act.put, List.setIfInBounds_toArray, List.set_cons_zero, List.set_cons_succ]) | (refine wpX_l ?_ (((Below.refl _ _).drew)) (Or.inl ⟨by rfl, fun w9 hw9 => ?_⟩) ?_; rotate_left 1; obtain ⟨hc9, hf9⟩ := bcell hw9; go_simp; with_reducible rfl; simp only [Act.put, List.setIfInBounds_toArray, List.set_cons_zero, List.set_cons_succ]) | (refine wpX_w undef (Or.inr ⟨by rfl, rfl⟩) ?_; simp only [Act.put, List.setIfInBounds_toArray, List.set_cons_zero, List.set_cons_succ]) | (refine wpX_l undef (((Below.refl _ _).drew)) (Or.inr ⟨by rfl, rfl⟩) ?_; simp only [Act.put, List.setIfInBounds_toArray, List.set_cons_zero, List.set_cons_succ]))
  refine wpX_e (by kernel_rfl) (fun K9 hK9 => ?_)
  go_simp
  refine (tPut_Sym ⟨1, t, n⟩ (HT0.out.below ((Below.refl _ _).drew)) HS.out (by omega)).mono ?_
  rintro e w1 ⟨rfl, hch⟩
  have HP1 := Lib.hid hch
  obtain ⟨_, _, _, hM1⟩ := hch
  have hng : ¬ SetMod T.bs (σ T.bs).sn (σ T.bs).A w.heap.size := (by
    rintro (h | ⟨_, a, ha, h⟩)
    · omega
    · have := HA0.out a ha; omega)
  have hX1 := HX.out.drew.fr hM1 hng
  have z0 := (hX1.cell 0).trans rfl
  have z1 := (hX1.cell 1).trans rfl
  have z2 := (hX1.cell 2).trans rfl
  have hxl1 := hX1.lt
  have hBk1 : TabBlk w1 T := TabBlk.kb HBk.out HP1.out.2.1
  have r2 := (hBk1.1.cell 2).trans rfl
  have hbl1 := hBk1.1.lt
  obtain ⟨σ1, hT1, hO1⟩ := HP1.out.1
  have HT1 := Lib.hid hT1
  have HO1 := Lib.hid hO1
  have HX1 := Lib.hid hX1
  have HBk1 := Lib.hid hBk1
  clear hM1 hng hX1 hBk1 hT1 hO1 y0 y1 y2 s1
  refine hK9 _ _ ?_
  clear hK9 K9
  refine wpX_nil ?_
  simp only [OnlyN_normal]
  refine hKK _ _ ?_
  clear hKK KK
  go_wp2_with fail
  refine wp_region_E (fun w9 => Below w1.heap.size w1 w9) [(0, 0), (1, 1), (2, 0), (3, 0), (4, 0), (5, 1), (6, 0), (7, 0), (8, 1), (9, 0), (10, 2), (11, 0), (12, 0)] (by kernel_rfl) (by kernel_rfl) (fun KK hKK => ?_)
  simp only [beside, List.filterMap_cons, List.filterMap_nil, List.getElem?_toArray, List.getElem?_cons_zero, List.getElem?_cons_succ, Option.map_some]
  repeat (first | (refine wpX_w ?_ (Or.inl ⟨by rfl, fun w9 => ?_⟩) ?_; rotate_left 1; go_simp; with_reducible rfl; simp only [Act.put, List.setIfInBounds_toArray, List.set_cons_zero, List.set_cons_succ]) | (refine wpX_l ?_ (((Below.refl _ _).drew)) (Or.inl ⟨by rfl, fun w9 hw9 => ?_⟩) ?_; rotate_left 1; obtain ⟨hc9, hf9⟩ := bcell hw9; go_simp; with_reducible rfl; simp only [Act.put, List.setIfInBounds_toArray, List.set_cons_zero, List.set_cons_succ]) | (refine wpX_w undef (Or.inr ⟨by rfl, rfl⟩) ?_; simp only [Act.put, List.setIfInBounds_toArray, List.set_cons_zero, List.set_cons_succ]) | (refine wpX_l undef (((Below.refl _ _).drew)) (Or.inr ⟨by rfl, rfl⟩) ?_; simp only [Act.put, List.setIfInBounds_toArray, List.set_cons_zero, List.set_cons_succ]))
  refine wpX_es (fun K9 hK9 => ?_)
  go_simp
  refine (next_is T m t[0] (HT1.out.below ((Below.refl _ _).drew)) (HBk1.out.below ((Below.refl _ _).drew)) HP.out hl2).mono ?_
  rintro e w2 ⟨rfl, hb2⟩
  have HB2 := Lib.hid ((Below.refl w1.heap.size w1).drew.trans (hb2.mono (by simp)))
  clear hb2
  refine hK9 _ _ HB2.out ?_
  clear hK9 K9
  repeat (first | (refine wpX_w ?_ (Or.inl ⟨by rfl, fun w9 => ?_⟩) ?_; rotate_left 1; go_simp; with_reducible rfl; simp only [Act.put, List.setIfInBounds_toArray, List.set_cons_zero, List.set_cons_succ]) | (refine wpX_l ?_ (HB2.out) (Or.inl ⟨by rfl, fun w9 hw9 => ?_⟩) ?_; rotate_left 1; obtain ⟨hc9, hf9⟩ := bcell hw9; go_simp; with_reducible rfl; simp only [Act.put, List.setIfInBounds_toArray, List.set_cons_zero, List.set_cons_succ]) | (refine wpX_w undef (Or.inr ⟨by rfl, rfl⟩) ?_; simp only [Act.put, List.setIfInBounds_toArray, List.set_cons_zero, List.set_cons_succ]) | (refine wpX_l undef (HB2.out) (Or.inr ⟨by rfl, rfl⟩) ?_; simp only [Act.put, List.setIfInBounds_toArray, List.set_cons_zero, List.set_cons_succ]))
  refine wpX_nil ?_
  simp only [OnlyN_normal]
  refine hKK _ _ ?_
  clear hKK KK
  go_wp2_with fail
  have hX2 := HX1.out.new_ HB2.out
  have hT2 := HT1.out.below HB2.out
  have hBk2 := HBk1.out.below HB2.out
  have x0 := (hX2.cell 0).trans rfl
  have x1 := (hX2.cell 1).trans rfl
  have x2 := (hX2.cell 2).trans rfl
  have hxl2 := hX2.lt
  have q2 := (hBk2.1.cell 2).trans rfl
  have hbl2 := hBk2.1.lt
  have HT2 := Lib.hid hT2
  have HBk2 := Lib.hid hBk2
  clear hX2 hT2 hBk2 z0 z1 z2 r2
  refine wp_region_E (fun w9 => Below w2.heap.size w2 w9) [(0, 0), (1, 0), (2, 0), (3, 1), (4, 0), (5, 1), (6, 0), (7, 0), (8, 1), (9, 0), (10, 2)] (by kernel_rfl) (by kernel_rfl) (fun KK hKK => ?_)
  simp only [beside, List.filterMap_cons, List.filterMap_nil, List.getElem?_toArray, List.getElem?_cons_zero, List.getElem?_cons_succ, Option.map_some]
  repeat (first | (refine wpX_w ?_ (Or.inl ⟨by rfl, fun w9 => ?_⟩) ?_; rotate_left 1; go_simp; with_reducible rfl; simp only [Act.put, List.setIfInBounds_toArray, List.set_cons_zero, List.set_cons_succ]) | (refine wpX_l ?_ (((Below.refl _ _).drew)) (Or.inl ⟨by rfl, fun w9 hw9 => ?_⟩) ?_; rotate_left 1; obtain ⟨hc9, hf9⟩ := bcell hw9; go_simp; with_reducible rfl; simp only [Act.put, List.setIfInBounds_toArray, List.set_cons_zero, List.set_cons_succ]) | (refine wpX_w undef (Or.inr ⟨by rfl, rfl⟩) ?_; simp only [Act.put, List.setIfInBounds_toArray, List.set_cons_zero, List.set_cons_succ]) | (refine wpX_l undef (((Below.refl _ _).drew)) (Or.inr ⟨by rfl, rfl⟩) ?_; simp only [Act.put, List.setIfInBounds_toArray, List.set_cons_zero, List.set_cons_succ]))
  refine wpX_e (by kernel_rfl) (fun K9 hK9 => ?_)
  go_simp
  refine (mapput T.bm T.bp m t[0] (n + 1) (HT2.out.below ((Below.refl _ _).drew)) HP.out (HBk2.out.below ((Below.refl _ _).drew)).2 hl2).mono ?_
  rintro e w3 ⟨⟨r3, rfl⟩, h3⟩
  have H3 := Lib.hid h3
  clear h3
  refine hK9 _ _ ?_
  clear hK9 K9
  refine wpX_nil ?_
  simp only [OnlyN_normal]
  refine hKK _ _ ?_
  clear hKK KK
  go_wp2_with fail
  go_end0
  obtain ⟨⟨σ3, h3, h6⟩, h4, h5⟩ := H3.out
  have hz0 := HB0.out.size
  have hz1 := HP1.out.2.2.1.size
  have hz2 := HB2.out.size
  refine ⟨rfl, ⟨σ1, σ3, h3, fun k hk ho ho2 => ⟨HO1.out k (by simp; omega) ho, h6 k (by simp at hz1 ⊢; omega) ho2⟩⟩, (((KB.of_below HB0.out).trans HP1.out.2.1).trans (KB.of_below HB2.out)).trans h4, (((Fr.of_new HB0.out).trans ((Fr.refl _ W).drew.trans HP1.out.2.2.1)).trans (Fr.of_new HB2.out)).trans ((Fr.refl _ w2).drew.trans h5)⟩
/-- A right symbol is put. -/
theorem tabput (T : TB) (l : List Sym) (m : List Page) (s : Sym) (hT : Tabs D w S σ S2 σ2) (hB : TabBlk w T) (hb : S T.bs = some l) (hb2 : S2 T.bp = some m) (hv : validB s = true) (hl : (l.length : Int) ≤ 1000000) (hl2 : (m.length : Int) ≤ 1000000) :
    Calls Try.prog 33 #[.pointer (some ⟨T.b, 0, none⟩), .agg #[.int .i64 s.kind, .string s.text, .int .i64 s.n]] w fun e w' => e = .returned (.tuple #[]) ∧ TabPut D w S σ S2 σ2 T (put cmpSym l s) (tputM m s) w' := by
  obtain ⟨k, t, n⟩ := s
  by_cases hk : k = 1
  · subst hk
    obtain ⟨h1, _, h3, h4⟩ := validB_id hv
    have hi : idc t = t[0] := idc_eq (by omega)
    by_cases hc : nextB m t[0] ≤ n
    · have e : tputM m ⟨1, t, n⟩ = mput m ⟨t[0], n + 1⟩ := by unfold tputM; dsimp only; rw [hi, if_pos ⟨rfl, hc⟩]
      rw [e]
      exact tabput_high T l m t n hT hB hb hb2 h1 hc h3 h4 hl hl2
    · have e : tputM m ⟨1, t, n⟩ = m := by unfold tputM; dsimp only; rw [hi, if_neg (fun h => hc h.2)]
      rw [e]
      exact tabput_low T l m t n hT hB hb hb2 h1 hc hl hl2
  · have e : tputM m ⟨k, t, n⟩ = m := by unfold tputM; dsimp only; rw [if_neg (fun h => hk h.1)]
    rw [e]
    exact tabput_other T l m k t n hT hB hb hb2 hk hl hl2
end
end Go.Proofs.Ythogokcbbkjcdaa

namespace Go.Proofs.Ythogokcbbkjcdaa
open Go.RowKit
/-- A text of one byte. -/
def letB (c : UInt8) : ByteArray := ⟨#[c]⟩
theorem letB_size (c : UInt8) : (letB c).size = 1 := rfl
theorem letB_get (c : UInt8) : (letB c)[0]'(by rw [letB_size]; omega) = c := rfl
theorem convL (c : UInt8) (W : World) (g : Nat) (hc : W.cell? ⟨g, 0, none⟩ = some (.int .u8 (c.toNat : Int))) : (convert 83 9 (.slice (some ⟨g, 0, none⟩) 1 1)).run Try.prog W = .ok (.string (letB c)) W :=
  Lib.run_convert_whole (P := Try.prog) W 83 5 9 Try.underlying83 Try.underlying5 Try.underlying9 g 0 (letB c) (fun i hi => by
    have : i = 0 := by have := letB_size c; omega
    subst this
    rw [Nat.add_zero, hc]
    rfl) 1
theorem valid_let {c : UInt8} {n : Int} (h : greatB c = true) (h1 : 1 ≤ n) (h2 : n ≤ 1048576) : validB ⟨1, letB c, n⟩ = true := by
  have e : headB greatB (letB c) = true := by rw [headB_eq (by rw [letB_size]; omega)]; exact h
  simp [validB, letB_size, e, h1, h2]
section
variable {D : Nat → Prop} {w : World} {S : Nat → Option (List Sym)} {σ : Nat → St} {S2 : Nat → Option (List Page)} {σ2 : Nat → St}
set_option maxHeartbeats 1000000 in
theorem fresh_arg (T : TB) (c : UInt8) (hg : greatB c = false) : Calls Try.prog 21 #[.pointer (some ⟨T.b, 0, none⟩), .int .u8 (c.toNat : Int)] w fun e w' => e = .returned (.tuple #[.agg #[.int .i64 0, .string ⟨#[]⟩, .int .i64 0], .int .i64 1]) ∧ Below w.heap.size w w' := by
  go_enter Try.func21, Try.ntmps21
  go_wp2_with (go_at_call 34; refine (great_is _ _).mono ?_; rintro e w' ⟨rfl, rfl⟩)
  exact bodyPost_ret (v := .tuple #[.agg #[.int .i64 0, .string ⟨#[]⟩, .int .i64 0], .int .i64 1]) (by simp [results, Try.results21, go_sem]) rfl ⟨rfl, by (repeat (first | exact Below.refl _ _ | (refine Below.drew ?_) | (refine Below.alloc ?_ (by simp <;> omega) _) | (refine Below.setCell ?_ (by simp <;> omega) _)))⟩

set_option maxRecDepth 100000 in
set_option maxHeartbeats 4000000 in
theorem fresh_full (T : TB) (l : List Sym) (m : List Page) (c : UInt8) (hT : Tabs D w S σ S2 σ2) (hB : TabBlk w T) (hb : S T.bs = some l) (hb2 : S2 T.bp = some m) (hg : greatB c = true) (hf : T.room ≤ l.length) (hl2 : (m.length : Int) ≤ 1000000) :
    Calls Try.prog 21 #[.pointer (some ⟨T.b, 0, none⟩), .int .u8 (c.toNat : Int)] w fun e w' => e = .returned (.tuple #[.agg #[.int .i64 0, .string ⟨#[]⟩, .int .i64 0], .int .i64 20]) ∧ Below w.heap.size w w' := by
  have t1 : decide (T.room ≤ (l.length : Int)) = true := by simpa using hf
  clear hf
  have HT := Lib.hid hT
  have HB := Lib.hid hB
  have HS := Lib.hid hb
  have HP := Lib.hid hb2
  clear hT hB hb hb2
  go_enter Try.func21, Try.ntmps21
  go_wp2_with (go_at_call 34; refine (great_is _ _).mono ?_; rintro e w' ⟨rfl, rfl⟩)
  refine (next_is T m c (HT.out.below ((Below.refl _ _).alloc (Nat.le_refl _) _)) (HB.out.below ((Below.refl _ _).alloc (Nat.le_refl _) _)) HP.out hl2).mono ?_
  rintro e w1 ⟨rfl, hb1⟩
  have hZ : Blk w1 w.heap.size 36 #[.int .i64 0, .string ⟨#[]⟩, .int .i64 0] := (Blk.new _ _ _).new_ hb1
  have hB1 : Below w.heap.size w w1 := ((Below.refl w.heap.size w).alloc (Nat.le_refl _) _).trans (hb1.mono (by simp))
  have hT1 := HT.out.below hB1
  have hBk1 := HB.out.below hB1
  have s0 := (hBk1.1.cell 0).trans rfl
  have s1 := (hBk1.1.cell 1).trans rfl
  have hbl := hBk1.1.lt
  have hzl := hZ.lt
  have HZ := Lib.hid hZ
  have HB1 := Lib.hid hB1
  have HT1 := Lib.hid hT1
  have HBk1 := Lib.hid hBk1
  clear hb1 hZ hB1 hT1 hBk1
  go_wp2_with fail
  refine wp_region_E (fun w9 => Below w1.heap.size w1 w9) [(0, 0), (1, 0), (2, 0), (3, 1), (5, 0), (6, 0), (7, 0), (8, 1), (4, 2), (9, 0), (10, 0), (11, 0), (12, 0), (13, 0)] (by kernel_rfl) (by kernel_rfl) (fun KK hKK => ?_)
  simp only [beside, List.filterMap_cons, List.filterMap_nil, List.getElem?_toArray, List.getElem?_cons_zero, List.getElem?_cons_succ, Option.map_some]
  repeat (first | (refine wpX_w ?_ (Or.inl ⟨by rfl, fun w9 => ?_⟩) ?_; rotate_left 1; go_simp; with_reducible rfl; simp only [Act.put, List.setIfInBounds_toArray, List.set_cons_zero, List.set_cons_succ]) | (refine wpX_l ?_ (((Below.refl _ _).drew)) (Or.inl ⟨by rfl, fun w9 hw9 => ?_⟩) ?_; rotate_left 1; obtain ⟨hc9, hf9⟩ := bcell hw9; go_simp; with_reducible rfl; simp only [Act.put, List.setIfInBounds_toArray, List.set_cons_zero, List.set_cons_succ]) | (refine wpX_w undef (Or.inr ⟨by rfl, rfl⟩) ?_; simp only [Act.put, List.setIfInBounds_toArray, List.set_cons_zero, List.set_cons_succ]) | (refine wpX_l undef (((Below.refl _ _).drew)) (Or.inr ⟨by rfl, rfl⟩) ?_; simp only [Act.put, List.setIfInBounds_toArray, List.set_cons_zero, List.set_cons_succ]))
  refine wpX_es (fun K9 hK9 => ?_)
  go_simp
  refine (len_Sym T.bs _ _ _ l _ ((HT1.out.below ((Below.refl _ _).drew)).syms.at_ T.bs l HS.out)).mono ?_
  rintro e w2 ⟨rfl, rfl⟩
  refine hK9 _ _ ((Below.refl _ _).drew) ?_
  clear hK9 K9
  repeat (first | (refine wpX_w ?_ (Or.inl ⟨by rfl, fun w9 => ?_⟩) ?_; rotate_left 1; go_simp; with_reducible rfl; simp only [Act.put, List.setIfInBounds_toArray, List.set_cons_zero, List.set_cons_succ]) | (refine wpX_l ?_ (((Below.refl _ _).drew)) (Or.inl ⟨by rfl, fun w9 hw9 => ?_⟩) ?_; rotate_left 1; obtain ⟨hc9, hf9⟩ := bcell hw9; go_simp; with_reducible rfl; simp only [Act.put, List.setIfInBounds_toArray, List.set_cons_zero, List.set_cons_succ]) | (refine wpX_w undef (Or.inr ⟨by rfl, rfl⟩) ?_; simp only [Act.put, List.setIfInBounds_toArray, List.set_cons_zero, List.set_cons_succ]) | (refine wpX_l undef (((Below.refl _ _).drew)) (Or.inr ⟨by rfl, rfl⟩) ?_; simp only [Act.put, List.setIfInBounds_toArray, List.set_cons_zero, List.set_cons_succ]))
  refine wpX_nil ?_
  simp only [OnlyN_normal]
  refine hKK _ _ ?_
  clear hKK KK
  have z0 : w1.cell? ⟨w.heap.size, 0, none⟩ = some (.int .i64 0) := (HZ.out.cell 0).trans rfl
  have z1 : w1.cell? ⟨w.heap.size, 1, none⟩ = some (.string ⟨#[]⟩) := (HZ.out.cell 1).trans rfl
  have z2 : w1.cell? ⟨w.heap.size, 2, none⟩ = some (.int .i64 0) := (HZ.out.cell 2).trans rfl
  have f0 := HZ.out.frozen 0
  have f1 := HZ.out.frozen 1
  have f2 := HZ.out.frozen 2
  go_wp2_with fail
  exact bodyPost_ret (v := .tuple #[.agg #[.int .i64 0, .string ⟨#[]⟩, .int .i64 0], .int .i64 20]) (by simp [results, Try.results21, go_sem, z0, z1, z2]) rfl ⟨rfl, by (repeat (first | exact Below.refl _ _ | exact HB1.out | (refine Below.drew ?_) | (refine Below.alloc ?_ (by simp <;> omega) _) | (refine Below.setCell ?_ (by simp <;> omega) _)))⟩

set_option maxRecDepth 100000 in
set_option maxHeartbeats 4000000 in
theorem fresh_far (T : TB) (l : List Sym) (m : List Page) (c : UInt8) (hT : Tabs D w S σ S2 σ2) (hB : TabBlk w T) (hb : S T.bs = some l) (hb2 : S2 T.bp = some m) (hg : greatB c = true) (hf : ¬ T.room ≤ l.length) (hn : 1048576 < nextB m c) (hl2 : (m.length : Int) ≤ 1000000) :
    Calls Try.prog 21 #[.pointer (some ⟨T.b, 0, none⟩), .int .u8 (c.toNat : Int)] w fun e w' => e = .returned (.tuple #[.agg #[.int .i64 0, .string ⟨#[]⟩, .int .i64 0], .int .i64 20]) ∧ Below w.heap.size w w' := by
  have t1 : decide (T.room ≤ (l.length : Int)) = false := by simpa using hf
  have t2 : decide ((1048576 : Int) < nextB m c) = true := by simpa using hn
  clear hf
  have HT := Lib.hid hT
  have HB := Lib.hid hB
  have HS := Lib.hid hb
  have HP := Lib.hid hb2
  clear hT hB hb hb2
  go_enter Try.func21, Try.ntmps21
  go_wp2_with (go_at_call 34; refine (great_is _ _).mono ?_; rintro e w' ⟨rfl, rfl⟩)
  refine (next_is T m c (HT.out.below ((Below.refl _ _).alloc (Nat.le_refl _) _)) (HB.out.below ((Below.refl _ _).alloc (Nat.le_refl _) _)) HP.out hl2).mono ?_
  rintro e w1 ⟨rfl, hb1⟩
  have hZ : Blk w1 w.heap.size 36 #[.int .i64 0, .string ⟨#[]⟩, .int .i64 0] := (Blk.new _ _ _).new_ hb1
  have hB1 : Below w.heap.size w w1 := ((Below.refl w.heap.size w).alloc (Nat.le_refl _) _).trans (hb1.mono (by simp))
  have hT1 := HT.out.below hB1
  have hBk1 := HB.out.below hB1
  have s0 := (hBk1.1.cell 0).trans rfl
  have s1 := (hBk1.1.cell 1).trans rfl
  have hbl := hBk1.1.lt
  have hzl := hZ.lt
  have HZ := Lib.hid hZ
  have HB1 := Lib.hid hB1
  have HT1 := Lib.hid hT1
  have HBk1 := Lib.hid hBk1
  clear hb1 hZ hB1 hT1 hBk1
  go_wp2_with fail
  refine wp_region_E (fun w9 => Below w1.heap.size w1 w9) [(0, 0), (1, 0), (2, 0), (3, 1), (5, 0), (6, 0), (7, 0), (8, 1), (4, 2), (9, 0), (10, 0), (11, 0), (12, 0), (13, 0)] (by kernel_rfl) (by kernel_rfl) (fun KK hKK => ?_)
  simp only [beside, List.filterMap_cons, List.filterMap_nil, List.getElem?_toArray, List.getElem?_cons_zero, List.getElem?_cons_succ, Option.map_some]
  repeat (first | (refine wpX_w ?_ (Or.inl ⟨by rfl, fun w9 => ?_⟩) ?_; rotate_left 1; go_simp; with_reducible rfl; simp only [Act.put, List.setIfInBounds_toArray, List.set_cons_zero, List.set_cons_succ]) | (refine wpX_l ?_ (((Below.refl _ _).drew)) (Or.inl ⟨by rfl, fun w9 hw9 => ?_⟩) ?_; rotate_left 1; obtain ⟨hc9, hf9⟩ := bcell hw9; go_simp; with_reducible rfl; simp only [Act.put, List.setIfInBounds_toArray, List.set_cons_zero, List.set_cons_succ]) | (refine wpX_w undef (Or.inr ⟨by rfl, rfl⟩) ?_; simp only [Act.put, List.setIfInBounds_toArray, List.set_cons_zero, List.set_cons_succ]) | (refine wpX_l undef (((Below.refl _ _).drew)) (Or.inr ⟨by rfl, rfl⟩) ?_; simp only [Act.put, List.setIfInBounds_toArray, List.set_cons_zero, List.set_cons_succ]))
  refine wpX_es (fun K9 hK9 => ?_)
  go_simp
  refine (len_Sym T.bs _ _ _ l _ ((HT1.out.below ((Below.refl _ _).drew)).syms.at_ T.bs l HS.out)).mono ?_
  rintro e w2 ⟨rfl, rfl⟩
  refine hK9 _ _ ((Below.refl _ _).drew) ?_
  clear hK9 K9
  repeat (first | (refine wpX_w ?_ (Or.inl ⟨by rfl, fun w9 => ?_⟩) ?_; rotate_left 1; go_simp; with_reducible rfl; simp only [Act.put, List.setIfInBounds_toArray, List.set_cons_zero, List.set_cons_succ]) | (refine wpX_l ?_ (((Below.refl _ _).drew)) (Or.inl ⟨by rfl, fun w9 hw9 => ?_⟩) ?_; rotate_left 1; obtain ⟨hc9, hf9⟩ := bcell hw9; go_simp; with_reducible rfl; simp only [Act.put, List.setIfInBounds_toArray, List.set_cons_zero, List.set_cons_succ]) | (refine wpX_w undef (Or.inr ⟨by rfl, rfl⟩) ?_; simp only [Act.put, List.setIfInBounds_toArray, List.set_cons_zero, List.set_cons_succ]) | (refine wpX_l undef (((Below.refl _ _).drew)) (Or.inr ⟨by rfl, rfl⟩) ?_; simp only [Act.put, List.setIfInBounds_toArray, List.set_cons_zero, List.set_cons_succ]))
  refine wpX_nil ?_
  simp only [OnlyN_normal]
  refine hKK _ _ ?_
  clear hKK KK
  have z0 : w1.cell? ⟨w.heap.size, 0, none⟩ = some (.int .i64 0) := (HZ.out.cell 0).trans rfl
  have z1 : w1.cell? ⟨w.heap.size, 1, none⟩ = some (.string ⟨#[]⟩) := (HZ.out.cell 1).trans rfl
  have z2 : w1.cell? ⟨w.heap.size, 2, none⟩ = some (.int .i64 0) := (HZ.out.cell 2).trans rfl
  have f0 := HZ.out.frozen 0
  have f1 := HZ.out.frozen 1
  have f2 := HZ.out.frozen 2
  go_wp2_with fail
  exact bodyPost_ret (v := .tuple #[.agg #[.int .i64 0, .string ⟨#[]⟩, .int .i64 0], .int .i64 20]) (by simp [results, Try.results21, go_sem, z0, z1, z2]) rfl ⟨rfl, by (repeat (first | exact Below.refl _ _ | exact HB1.out | (refine Below.drew ?_) | (refine Below.alloc ?_ (by simp <;> omega) _) | (refine Below.setCell ?_ (by simp <;> omega) _)))⟩

set_option maxRecDepth 100000 in
set_option maxHeartbeats 4000000 in
theorem fresh_new (T : TB) (l : List Sym) (m : List Page) (c : UInt8) (hT : Tabs D w S σ S2 σ2) (hB : TabBlk w T) (hb : S T.bs = some l) (hb2 : S2 T.bp = some m) (hg : greatB c = true) (hf : ¬ T.room ≤ l.length) (hn : nextB m c ≤ 1048576) (hn1 : 1 ≤ nextB m c) (hl : (l.length : Int) ≤ 1000000) (hl2 : (m.length : Int) ≤ 1000000) :
    Calls Try.prog 21 #[.pointer (some ⟨T.b, 0, none⟩), .int .u8 (c.toNat : Int)] w fun e w' => e = .returned (.tuple #[.agg #[.int .i64 1, .string (letB c), .int .i64 (nextB m c)], .int .i64 0]) ∧ TabPut D w S σ S2 σ2 T (put cmpSym l ⟨1, letB c, nextB m c⟩) (tputM m ⟨1, letB c, nextB m c⟩) w' := by
  have t1 : decide (T.room ≤ (l.length : Int)) = false := by simpa using hf
  have t2 : decide ((1048576 : Int) < nextB m c) = false := by simpa using hn
  have HV := Lib.hid (valid_let hg hn1 hn)
  clear hf
  have HT := Lib.hid hT
  have HB := Lib.hid hB
  have HS := Lib.hid hb
  have HP := Lib.hid hb2
  clear hT hB hb hb2
  go_enter Try.func21, Try.ntmps21
  go_wp2_with (go_at_call 34; refine (great_is _ _).mono ?_; rintro e w' ⟨rfl, rfl⟩)
  refine (next_is T m c (HT.out.below ((Below.refl _ _).alloc (Nat.le_refl _) _)) (HB.out.below ((Below.refl _ _).alloc (Nat.le_refl _) _)) HP.out hl2).mono ?_
  rintro e w1 ⟨rfl, hb1⟩
  have hZ : Blk w1 w.heap.size 36 #[.int .i64 0, .string ⟨#[]⟩, .int .i64 0] := (Blk.new _ _ _).new_ hb1
  have hB1 : Below w.heap.size w w1 := ((Below.refl w.heap.size w).alloc (Nat.le_refl _) _).trans (hb1.mono (by simp))
  have hT1 := HT.out.below hB1
  have hBk1 := HB.out.below hB1
  have s0 := (hBk1.1.cell 0).trans rfl
  have s1 := (hBk1.1.cell 1).trans rfl
  have hbl := hBk1.1.lt
  have hzl := hZ.lt
  have HZ := Lib.hid hZ
  have HB1 := Lib.hid hB1
  have HT1 := Lib.hid hT1
  have HBk1 := Lib.hid hBk1
  clear hb1 hZ hB1 hT1 hBk1
  go_wp2_with fail
  refine wp_region_E (fun w9 => Below w1.heap.size w1 w9) [(0, 0), (1, 0), (2, 0), (3, 1), (5, 0), (6, 0), (7, 0), (8, 1), (4, 2), (9, 0), (10, 0), (11, 0), (12, 0), (13, 0)] (by kernel_rfl) (by kernel_rfl) (fun KK hKK => ?_)
  simp only [beside, List.filterMap_cons, List.filterMap_nil, List.getElem?_toArray, List.getElem?_cons_zero, List.getElem?_cons_succ, Option.map_some]
  repeat (first | (refine wpX_w ?_ (Or.inl ⟨by rfl, fun w9 => ?_⟩) ?_; rotate_left 1; go_simp; with_reducible rfl; simp only [Act.put, List.setIfInBounds_toArray, List.set_cons_zero, List.set_cons_succ]) | (refine wpX_l ?_ (((Below.refl _ _).drew)) (Or.inl ⟨by rfl, fun w9 hw9 => ?_⟩) ?_; rotate_left 1; obtain ⟨hc9, hf9⟩ := bcell hw9; go_simp; with_reducible rfl; simp only [Act.put, List.setIfInBounds_toArray, List.set_cons_zero, List.set_cons_succ]) | (refine wpX_w undef (Or.inr ⟨by rfl, rfl⟩) ?_; simp only [Act.put, List.setIfInBounds_toArray, List.set_cons_zero, List.set_cons_succ]) | (refine wpX_l undef (((Below.refl _ _).drew)) (Or.inr ⟨by rfl, rfl⟩) ?_; simp only [Act.put, List.setIfInBounds_toArray, List.set_cons_zero, List.set_cons_succ]))
  refine wpX_es (fun K9 hK9 => ?_)
  go_simp
  refine (len_Sym T.bs _ _ _ l _ ((HT1.out.below ((Below.refl _ _).drew)).syms.at_ T.bs l HS.out)).mono ?_
  rintro e w2 ⟨rfl, rfl⟩
  refine hK9 _ _ ((Below.refl _ _).drew) ?_
  clear hK9 K9
  repeat (first | (refine wpX_w ?_ (Or.inl ⟨by rfl, fun w9 => ?_⟩) ?_; rotate_left 1; go_simp; with_reducible rfl; simp only [Act.put, List.setIfInBounds_toArray, List.set_cons_zero, List.set_cons_succ]) | (refine wpX_l ?_ (((Below.refl _ _).drew)) (Or.inl ⟨by rfl, fun w9 hw9 => ?_⟩) ?_; rotate_left 1; obtain ⟨hc9, hf9⟩ := bcell hw9; go_simp; with_reducible rfl; simp only [Act.put, List.setIfInBounds_toArray, List.set_cons_zero, List.set_cons_succ]) | (refine wpX_w undef (Or.inr ⟨by rfl, rfl⟩) ?_; simp only [Act.put, List.setIfInBounds_toArray, List.set_cons_zero, List.set_cons_succ]) | (refine wpX_l undef (((Below.refl _ _).drew)) (Or.inr ⟨by rfl, rfl⟩) ?_; simp only [Act.put, List.setIfInBounds_toArray, List.set_cons_zero, List.set_cons_succ]))
  refine wpX_nil ?_
  simp only [OnlyN_normal]
  refine hKK _ _ ?_
  clear hKK KK
  have hcv := convL c
  go_wp2_with fail
  clear hcv s0 s1
  obtain ⟨X, hX⟩ : ∃ X, X = ((w1.alloc (Obj.cells #[Value.int IntKind.u8 (c.toNat : Int)] 5)).alloc (Obj.cells #[Value.int IntKind.i64 1, Value.string (letB c), Value.int IntKind.i64 (nextB m c)] 36)).drew := ⟨_, rfl⟩
  have hBX : Below w1.heap.size w1 X := by rw [hX]; exact (((Below.refl _ _).alloc (Nat.le_refl _) _).alloc (by simp) _).drew
  have hC : Blk X (w1.heap.size + 1) 36 #[.int .i64 1, .string (letB c), .int .i64 (nextB m c)] := by
    rw [hX]
    have := (Blk.new (w1.alloc (Obj.cells #[Value.int IntKind.u8 (c.toNat : Int)] 5)) 36 #[.int .i64 1, .string (letB c), .int .i64 (nextB m c)]).drew
    simpa using this
  rw [← hX]
  clear hX
  have hBX2 : Below w.heap.size w X := HB1.out.trans (hBX.mono HB1.out.size)
  have hzx := hBX.size
  have hcl := hC.lt
  have hTP := HT.out.protect hBX2
  refine (tabput T l m ⟨1, letB c, nextB m c⟩ hTP (HBk1.out.below hBX) HS.out HP.out HV.out hl hl2).mono ?_
  rintro e w8 ⟨rfl, ⟨σ8, σ9, h8, hO8⟩, hK8, hF8⟩
  have hz1 := HB1.out.size
  have hZ8 : Blk w8 w.heap.size 36 #[.int .i64 0, .string ⟨#[]⟩, .int .i64 0] := (HZ.out.new_ hBX).fr hF8 (fun h => h (.inr ⟨Nat.le_refl _, by omega⟩))
  have hC8 : Blk w8 (w1.heap.size + 1) 36 #[.int .i64 1, .string (letB c), .int .i64 (nextB m c)] := hC.fr hF8 (fun h => h (.inr ⟨by omega, hcl⟩))
  have hx8 := hF8.size
  have hof := Off.new_ HT.out.syms (Nat.le_refl _)
  have hof2 := Off.new_ HT.out.pages (Nat.le_refl _)
  have hO9 := hO8 w.heap.size (by omega) hof hof2
  have H8 := Lib.hid (h8.weaken (D' := D) (fun k hk => .inl hk))
  have HO8 := Lib.hid hO8
  have HO9 := Lib.hid hO9
  have HK8 := Lib.hid ((KB.of_below hBX2).trans hK8)
  have HF8 := Lib.hid ((Fr.of_new (M := fun k => ¬ D k) hBX2).trans (hF8.mono (fun k _ hk hd => hk (.inl hd))))
  have HZ8 := Lib.hid hZ8
  have z0 : w8.cell? ⟨w.heap.size, 0, none⟩ = some (.int .i64 0) := (hZ8.cell 0).trans rfl
  have z1 : w8.cell? ⟨w.heap.size, 1, none⟩ = some (.string ⟨#[]⟩) := (hZ8.cell 1).trans rfl
  have z2 : w8.cell? ⟨w.heap.size, 2, none⟩ = some (.int .i64 0) := (hZ8.cell 2).trans rfl
  have f0 := hZ8.frozen 0
  have f1 := hZ8.frozen 1
  have f2 := hZ8.frozen 2
  have c0 : w8.cell? ⟨w1.heap.size + 1, 0, none⟩ = some (.int .i64 1) := (hC8.cell 0).trans rfl
  have c1 : w8.cell? ⟨w1.heap.size + 1, 1, none⟩ = some (.string (letB c)) := (hC8.cell 1).trans rfl
  have c2 : w8.cell? ⟨w1.heap.size + 1, 2, none⟩ = some (.int .i64 (nextB m c)) := (hC8.cell 2).trans rfl
  have hzl8 := hZ8.lt
  have hcl8 := hC8.lt
  clear h8 hO8 hO9 hK8 hF8 hZ8 hC8 hTP hC hBX2 hof hof2
  go_wp2_with fail
  refine bodyPost_ret (v := .tuple #[.agg #[.int .i64 1, .string (letB c), .int .i64 (nextB m c)], .int .i64 0]) (by simp [results, Try.results21, go_sem, z0, z1, z2]) rfl ⟨rfl, ⟨σ8, σ9, H8.out.off HO9.out.1 HO9.out.2 ((((Fr.refl (· = w.heap.size) w8).setCell (.inl rfl) _).setCell (.inl rfl) _).setCell (.inl rfl) _), fun k hk ho ho2 => HO8.out k (by omega) ho ho2⟩, ?_, ((HF8.out.setCell (.inr (Nat.le_refl _)) _).setCell (.inr (Nat.le_refl _)) _).setCell (.inr (Nat.le_refl _)) _⟩
  intro g t cs h1 h2 h3 h4 hB
  have hB8 := HK8.out g t cs h1 h2 h3 h4 hB
  have hne : g ≠ w.heap.size := hB8.ne_ HZ8.out h2
  exact ((hB8.far (p := ⟨w.heap.size, 0, none⟩) hne _).far (p := ⟨w.heap.size, 1, none⟩) hne _).far (p := ⟨w.heap.size, 2, none⟩) hne _
end
end Go.Proofs.Ythogokcbbkjcdaa
