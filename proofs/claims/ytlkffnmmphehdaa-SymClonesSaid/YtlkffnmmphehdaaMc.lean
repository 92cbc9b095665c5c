/-
  Texts put together: BookMap, FindSym, OpsSym, PutSym, MiscSym, NewSym, IterBase, Seq, IterSym, ListSym, WorkSym.
-/
import Derived.Test.YtlkffnmmphehdaaMb
import Derived.Test.YtlkffnmmphehdaaMa
import Derived.Test.YtlkffnmmphehdaaRows

namespace Go.Proofs.Ytlkffnmmphehdaa
open Go.RowKit
/-- What a letter has. -/
def mget (m : List Page) (c : UInt8) : Option Int := (m.find? fun p => p.key == c).map Page.v
def mput (m : List Page) (p : Page) : List Page := put cmpPage (drop cmpPage m p) p
theorem mget_none {m : List Page} {c : UInt8} (h : has cmpPage m ⟨c, 0⟩ = false) : mget m c = none := by
  unfold mget
  rw [List.find?_eq_none.2]
  · rfl
  · intro p hp
    have := has_false.1 h p hp
    simp only [beq_iff_eq]
    exact fun e => this (cmpPage_eq.2 e)
theorem mget_some {m : List Page} (hs : Srt cmpPage m) {c : UInt8} {p : Page} (hp : p ∈ m) (h : p.key = c) : mget m c = some p.v := by
  unfold mget
  obtain ⟨i, hi, rfl⟩ := List.getElem_of_mem hp
  have : m.find? (fun p => p.key == c) = some m[i] := by
    rw [List.find?_eq_some_iff_getElem]
    refine ⟨by simpa using h, i, hi, rfl, fun j hj => ?_⟩
    have h2 := hs.lt hj hi
    simp only [Bool.not_eq_true', beq_eq_false_iff_ne]
    intro e
    have : cmpPage m[j] m[i] = 0 := cmpPage_eq.2 (e.trans h.symm)
    omega
  rw [this]; rfl
theorem has_iff_mget {m : List Page} (hs : Srt cmpPage m) (c : UInt8) (v : Int) : has cmpPage m ⟨c, v⟩ = (mget m c).isSome := by
  cases h : has cmpPage m ⟨c, v⟩
  · have : has cmpPage m ⟨c, 0⟩ = false := by
      rw [has_false] at h ⊢
      intro y hy e
      exact h y hy (cmpPage_eq.2 (cmpPage_eq.1 e))
    rw [mget_none this]; rfl
  · obtain ⟨y, hy, e⟩ := has_iff.1 h
    rw [mget_some hs hy (cmpPage_eq.1 e)]; rfl
/-- The member that is found. -/
theorem found_page {m : List Page} (hs : Srt cmpPage m) {c : UInt8} {v : Int} (h : has cmpPage m ⟨c, v⟩ = true) : ∃ y, m[rank cmpPage m ⟨c, v⟩]? = some y ∧ y.key = c ∧ mget m c = some y.v := by
  obtain ⟨_, _, hk, e⟩ := drop_eq tc_page hs h
  exact ⟨_, List.getElem?_eq_getElem hk, cmpPage_eq.1 e, mget_some hs (List.getElem_mem hk) (cmpPage_eq.1 e)⟩
set_option maxHeartbeats 1000000 in
theorem at_is (c : UInt8) (w : World) : Calls Try.prog 70 #[.int .u8 (c.toNat : Int)] w fun e w' => e = .returned (.agg #[.int .u8 (c.toNat : Int), .int .i64 0]) ∧ Below w.heap.size w w' := by
  go_enter Try.func70, Try.ntmps70
  go_wp2_with fail
  exact bodyPost_ret (v := .agg #[.int .u8 (c.toNat : Int), .int .i64 0]) (by simp [results, Try.results70, go_sem]) rfl ⟨rfl, by (repeat (first | exact Below.refl _ _ | (refine Below.drew ?_) | (refine Below.alloc ?_ (by simp <;> omega) _) | (refine Below.setCell ?_ (by simp <;> omega) _)))⟩

set_option maxRecDepth 100000 in
set_option maxHeartbeats 4000000 in
theorem mapget_no (bm bp cc : Nat) (sn : Bool) (A : Option Addr) (m : List Page) (c : UInt8) (w : World) (hM : Blk w bm 89 #[.pointer (some ⟨bp, 0, none⟩)]) (hS : PageSet w bp sn A cc m) (hs : Srt cmpPage m) (hl : (m.length : Int) ≤ 1000000) (hh : has cmpPage m ⟨c, 0⟩ = false) :
    Calls Try.prog 56 #[.pointer (some ⟨bm, 0, none⟩), .int .u8 (c.toNat : Int)] w fun e w' => e = .returned (.tuple #[.int .i64 0, .bool false]) ∧ Below w.heap.size w w' := by
  have s0 := (hM.cell 0).trans rfl
  have hml := hM.lt
  have HS := Lib.hid hS
  have HO := Lib.hid hs
  have HM := Lib.hid hM
  have HH := Lib.hid hh
  clear hS hs hM hh
  go_enter Try.func56, Try.ntmps56
  go_wp2_with fail
  refine wp_region_Pl (fun w9 => Below w.heap.size w w9) [0, 1, 2, 3, 4, 7, 8, 9, 12] [3] (.fork [(0, 0), (1, 0), (2, 0), (3, 1), (4, 0)] 5 (.fork [] 6 (.fin [(7, 0), (8, 0), (9, 0), (10, 2), (11, 2), (12, 0)]) 10 (.fin [(6, 2), (7, 0), (8, 0), (9, 0), (11, 2), (12, 0)])) 10 (.fin [(5, 2), (6, 2), (7, 0), (8, 0), (9, 0), (11, 2), (12, 0)])) (by kernel_rfl) (by kernel_rfl) (by kernel_rfl) (fun KK hKK => ?_)
  simp only [wpPl, beside, List.filterMap_cons, List.filterMap_nil, List.getElem?_toArray, List.getElem?_cons_zero, List.getElem?_cons_succ, Option.map_some]
  repeat (first | (refine wpY_w ?_ (Or.inl ⟨by rfl, fun w9 => ?_⟩) ?_; rotate_left 1; go_simp; with_reducible rfl; simp only [Act.put, List.setIfInBounds_toArray, List.set_cons_zero, List.set_cons_succ]) | (refine wpY_l ?_ ((Below.refl _ _).drew) (Or.inl ⟨by rfl, fun w9 hw9 => ?_⟩) ?_; rotate_left 1; obtain ⟨hc9, hf9⟩ := bcell hw9; go_simp; with_reducible rfl; simp only [Act.put, List.setIfInBounds_toArray, List.set_cons_zero, List.set_cons_succ]) | (refine wpY_w undef (Or.inr ⟨by rfl, rfl⟩) ?_; simp only [Act.put, List.setIfInBounds_toArray, List.set_cons_zero, List.set_cons_succ]) | (refine wpY_l undef ((Below.refl _ _).drew) (Or.inr ⟨by rfl, rfl⟩) ?_; simp only [Act.put, List.setIfInBounds_toArray, List.set_cons_zero, List.set_cons_succ]))
  refine wpY_nil ⟨?_, ?_⟩
  · refine wpOp_cs rfl (fun K9 hK9 => ?_)
    go_simp
    refine (at_is c _).mono ?_
    rintro e wa ⟨rfl, hba⟩
    have HBa := Lib.hid (((Below.refl w.heap.size w).drew).trans (hba.mono (by first | omega | simp)))
    clear hba
    have hza := HBa.out.size
    refine hK9 _ _ (fun _ => HBa.out) ?_
    clear hK9 K9
    try simp only [Act.put, List.setIfInBounds_toArray, List.set_cons_zero, List.set_cons_succ]
    try simp only [beside, List.filterMap_nil]
    refine wpY_nil ⟨?_, ?_⟩
    · refine wpOp_cs rfl (fun K9 hK9 => ?_)
      go_simp
      refine (get_no_Page bp cc sn A m ⟨c, 0⟩ _ (HS.out.new_ (HBa.out)) HO.out (by omega) HH.out).mono ?_
      rintro e wg ⟨rfl, hbg⟩
      have HBg := Lib.hid ((HBa.out).trans (hbg.mono (by have := HBa.out.size; first | omega | (simp; done) | (simp; omega))))
      clear hbg
      have hzg := HBg.out.size
      refine hK9 _ _ (fun _ => HBg.out) ?_
      clear hK9 K9
      try simp only [Act.put, List.setIfInBounds_toArray, List.set_cons_zero, List.set_cons_succ]
      try simp only [beside, List.filterMap_nil]
      repeat (first | (refine wpY_w ?_ (Or.inl ⟨by rfl, fun w9 => ?_⟩) ?_; rotate_left 1; go_simp; with_reducible rfl; simp only [Act.put, List.setIfInBounds_toArray, List.set_cons_zero, List.set_cons_succ]) | (refine wpY_l ?_ (HBg.out) (Or.inl ⟨by rfl, fun w9 hw9 => ?_⟩) ?_; rotate_left 1; obtain ⟨hc9, hf9⟩ := bcell hw9; go_simp; with_reducible rfl; simp only [Act.put, List.setIfInBounds_toArray, List.set_cons_zero, List.set_cons_succ]) | (refine wpY_w undef (Or.inr ⟨by rfl, rfl⟩) ?_; simp only [Act.put, List.setIfInBounds_toArray, List.set_cons_zero, List.set_cons_succ]) | (refine wpY_l undef (HBg.out) (Or.inr ⟨by rfl, rfl⟩) ?_; simp only [Act.put, List.setIfInBounds_toArray, List.set_cons_zero, List.set_cons_succ]))
      refine wpY_es (fun K9 hK9 => ?_)
      go_simp
      have hB9 := (HBg.out).alloc (by have := HBg.out.size; first | omega | (simp; done) | (simp; omega)) (.cells #[.int .u8 0, .int .i64 0] 87)
      have HB9 := Lib.hid hB9
      have hk9 : Blk (wg.alloc (.cells #[.int .u8 0, .int .i64 0] 87)) wg.heap.size 87 #[.int .u8 0, .int .i64 0] := Blk.new wg 87 #[.int .u8 0, .int .i64 0]
      have HK9 := Lib.hid hk9
      clear hB9 hk9
      have hz9 := HB9.out.size
      refine hK9 _ _ (HB9.out) ?_
      clear hK9 K9
      try simp only [Act.put, List.setIfInBounds_toArray, List.set_cons_zero, List.set_cons_succ]
      refine wpY_es (fun K9 hK9 => ?_)
      have u0 := ((HK9.out).cell 0).trans rfl
      have u1 := ((HK9.out).cell 1).trans rfl
      have f0 := (HK9.out).frozen 0
      have f1 := (HK9.out).frozen 1
      have hgl := (HK9.out).lt
      go_simp
      refine hK9 _ _ (by (repeat (first | exact Below.refl _ _ | exact HBa.out | exact HBg.out | exact HB9.out | (refine Below.drew ?_) | (refine Below.alloc ?_ (by first | omega | (simp; done) | (simp; omega)) _) | (refine Below.setCell ?_ (by first | omega | (simp; done) | (simp; omega)) _)))) ?_
      clear hK9 K9
      try simp only [Act.put, List.setIfInBounds_toArray, List.set_cons_zero, List.set_cons_succ]
      repeat (first | (refine wpY_w ?_ (Or.inl ⟨by rfl, fun w9 => ?_⟩) ?_; rotate_left 1; go_simp; with_reducible rfl; simp only [Act.put, List.setIfInBounds_toArray, List.set_cons_zero, List.set_cons_succ]) | (refine wpY_l ?_ (by (repeat (first | exact Below.refl _ _ | exact HBa.out | exact HBg.out | exact HB9.out | (refine Below.drew ?_) | (refine Below.alloc ?_ (by first | omega | (simp; done) | (simp; omega)) _) | (refine Below.setCell ?_ (by first | omega | (simp; done) | (simp; omega)) _)))) (Or.inl ⟨by rfl, fun w9 hw9 => ?_⟩) ?_; rotate_left 1; obtain ⟨hc9, hf9⟩ := bcell hw9; go_simp; with_reducible rfl; simp only [Act.put, List.setIfInBounds_toArray, List.set_cons_zero, List.set_cons_succ]) | (refine wpY_w undef (Or.inr ⟨by rfl, rfl⟩) ?_; simp only [Act.put, List.setIfInBounds_toArray, List.set_cons_zero, List.set_cons_succ]) | (refine wpY_l undef (by (repeat (first | exact Below.refl _ _ | exact HBa.out | exact HBg.out | exact HB9.out | (refine Below.drew ?_) | (refine Below.alloc ?_ (by first | omega | (simp; done) | (simp; omega)) _) | (refine Below.setCell ?_ (by first | omega | (simp; done) | (simp; omega)) _)))) (Or.inr ⟨by rfl, rfl⟩) ?_; simp only [Act.put, List.setIfInBounds_toArray, List.set_cons_zero, List.set_cons_succ]))
      refine wpY_nil ?_
      simp only [OnlyN_normal]
      refine hKK _ _ ?_
      clear hKK KK
      go_wp2_with fail
      go_ret2
      exact ⟨rfl, by (repeat (first | exact Below.refl _ _ | exact HBa.out | exact HBg.out | exact HB9.out | (refine Below.drew ?_) | (refine Below.alloc ?_ (by first | omega | (simp; done) | (simp; omega)) _) | (refine Below.setCell ?_ (by first | omega | (simp; done) | (simp; omega)) _)))⟩
    · refine wpOp_cs rfl (fun K9 hK9 => ?_)
      go_simp
      have hB9 := (HBa.out).alloc (by have := HBa.out.size; first | omega | (simp; done) | (simp; omega)) (.cells #[.int .u8 0, .int .i64 0] 87)
      have HB9 := Lib.hid hB9
      have hk9 : Blk (wa.alloc (.cells #[.int .u8 0, .int .i64 0] 87)) wa.heap.size 87 #[.int .u8 0, .int .i64 0] := Blk.new wa 87 #[.int .u8 0, .int .i64 0]
      have HK9 := Lib.hid hk9
      clear hB9 hk9
      have hz9 := HB9.out.size
      refine hK9 _ _ (fun _ => HB9.out) ?_
      clear hK9 K9
      try simp only [Act.put, List.setIfInBounds_toArray, List.set_cons_zero, List.set_cons_succ]
      try simp only [beside, List.filterMap_nil]
      refine wpY_es (fun K9 hK9 => ?_)
      go_simp
      refine (get_no_Page bp cc sn A m ⟨c, 0⟩ _ (HS.out.new_ (HB9.out)) HO.out (by omega) HH.out).mono ?_
      rintro e wg ⟨rfl, hbg⟩
      have hkg := (HK9.out).new_ hbg
      have HKg := Lib.hid hkg
      clear hkg
      have HBg := Lib.hid ((HB9.out).trans (hbg.mono (by have := HB9.out.size; first | omega | (simp at this ⊢; done) | (simp at this ⊢; omega))))
      clear hbg
      have hzg := HBg.out.size
      refine hK9 _ _ (HBg.out) ?_
      clear hK9 K9
      try simp only [Act.put, List.setIfInBounds_toArray, List.set_cons_zero, List.set_cons_succ]
      repeat (first | (refine wpY_w ?_ (Or.inl ⟨by rfl, fun w9 => ?_⟩) ?_; rotate_left 1; go_simp; with_reducible rfl; simp only [Act.put, List.setIfInBounds_toArray, List.set_cons_zero, List.set_cons_succ]) | (refine wpY_l ?_ (HBg.out) (Or.inl ⟨by rfl, fun w9 hw9 => ?_⟩) ?_; rotate_left 1; obtain ⟨hc9, hf9⟩ := bcell hw9; go_simp; with_reducible rfl; simp only [Act.put, List.setIfInBounds_toArray, List.set_cons_zero, List.set_cons_succ]) | (refine wpY_w undef (Or.inr ⟨by rfl, rfl⟩) ?_; simp only [Act.put, List.setIfInBounds_toArray, List.set_cons_zero, List.set_cons_succ]) | (refine wpY_l undef (HBg.out) (Or.inr ⟨by rfl, rfl⟩) ?_; simp only [Act.put, List.setIfInBounds_toArray, List.set_cons_zero, List.set_cons_succ]))
      refine wpY_es (fun K9 hK9 => ?_)
      have u0 := ((HKg.out).cell 0).trans rfl
      have u1 := ((HKg.out).cell 1).trans rfl
      have f0 := (HKg.out).frozen 0
      have f1 := (HKg.out).frozen 1
      have hgl := (HKg.out).lt
      go_simp
      refine hK9 _ _ (by (repeat (first | exact Below.refl _ _ | exact HBa.out | exact HB9.out | exact HBg.out | (refine Below.drew ?_) | (refine Below.alloc ?_ (by first | omega | (simp; done) | (simp; omega)) _) | (refine Below.setCell ?_ (by first | omega | (simp; done) | (simp; omega)) _)))) ?_
      clear hK9 K9
      try simp only [Act.put, List.setIfInBounds_toArray, List.set_cons_zero, List.set_cons_succ]
      repeat (first | (refine wpY_w ?_ (Or.inl ⟨by rfl, fun w9 => ?_⟩) ?_; rotate_left 1; go_simp; with_reducible rfl; simp only [Act.put, List.setIfInBounds_toArray, List.set_cons_zero, List.set_cons_succ]) | (refine wpY_l ?_ (by (repeat (first | exact Below.refl _ _ | exact HBa.out | exact HB9.out | exact HBg.out | (refine Below.drew ?_) | (refine Below.alloc ?_ (by first | omega | (simp; done) | (simp; omega)) _) | (refine Below.setCell ?_ (by first | omega | (simp; done) | (simp; omega)) _)))) (Or.inl ⟨by rfl, fun w9 hw9 => ?_⟩) ?_; rotate_left 1; obtain ⟨hc9, hf9⟩ := bcell hw9; go_simp; with_reducible rfl; simp only [Act.put, List.setIfInBounds_toArray, List.set_cons_zero, List.set_cons_succ]) | (refine wpY_w undef (Or.inr ⟨by rfl, rfl⟩) ?_; simp only [Act.put, List.setIfInBounds_toArray, List.set_cons_zero, List.set_cons_succ]) | (refine wpY_l undef (by (repeat (first | exact Below.refl _ _ | exact HBa.out | exact HB9.out | exact HBg.out | (refine Below.drew ?_) | (refine Below.alloc ?_ (by first | omega | (simp; done) | (simp; omega)) _) | (refine Below.setCell ?_ (by first | omega | (simp; done) | (simp; omega)) _)))) (Or.inr ⟨by rfl, rfl⟩) ?_; simp only [Act.put, List.setIfInBounds_toArray, List.set_cons_zero, List.set_cons_succ]))
      refine wpY_nil ?_
      simp only [OnlyN_normal]
      refine hKK _ _ ?_
      clear hKK KK
      go_wp2_with fail
      go_ret2
      exact ⟨rfl, by (repeat (first | exact Below.refl _ _ | exact HBa.out | exact HB9.out | exact HBg.out | (refine Below.drew ?_) | (refine Below.alloc ?_ (by first | omega | (simp; done) | (simp; omega)) _) | (refine Below.setCell ?_ (by first | omega | (simp; done) | (simp; omega)) _)))⟩
  · refine wpOp_cs rfl (fun K9 hK9 => ?_)
    go_simp
    have hB9 := ((Below.refl w.heap.size w).drew).alloc (by first | omega | simp) (.cells #[.int .u8 0, .int .i64 0] 87)
    have HB9 := Lib.hid hB9
    have hk9 : Blk (w.drew.alloc (.cells #[.int .u8 0, .int .i64 0] 87)) w.heap.size 87 #[.int .u8 0, .int .i64 0] := Blk.new w.drew 87 #[.int .u8 0, .int .i64 0]
    have HK9 := Lib.hid hk9
    clear hB9 hk9
    have hz9 := HB9.out.size
    refine hK9 _ _ (fun _ => HB9.out) ?_
    clear hK9 K9
    try simp only [Act.put, List.setIfInBounds_toArray, List.set_cons_zero, List.set_cons_succ]
    try simp only [beside, List.filterMap_nil]
    refine wpY_es (fun K9 hK9 => ?_)
    go_simp
    refine (at_is c _).mono ?_
    rintro e wa ⟨rfl, hba⟩
    have hka := (HK9.out).new_ hba
    have HKa := Lib.hid hka
    clear hka
    have HBa := Lib.hid ((HB9.out).trans (hba.mono (by have := HB9.out.size; first | omega | (simp at this ⊢; done) | (simp at this ⊢; omega))))
    clear hba
    have hza := HBa.out.size
    refine hK9 _ _ (HBa.out) ?_
    clear hK9 K9
    try simp only [Act.put, List.setIfInBounds_toArray, List.set_cons_zero, List.set_cons_succ]
    refine wpY_es (fun K9 hK9 => ?_)
    go_simp
    refine (get_no_Page bp cc sn A m ⟨c, 0⟩ _ (HS.out.new_ (HBa.out)) HO.out (by omega) HH.out).mono ?_
    rintro e wg ⟨rfl, hbg⟩
    have hkg := (HKa.out).new_ hbg
    have HKg := Lib.hid hkg
    clear hkg
    have HBg := Lib.hid ((HBa.out).trans (hbg.mono (by have := HBa.out.size; first | omega | (simp; done) | (simp; omega))))
    clear hbg
    have hzg := HBg.out.size
    refine hK9 _ _ (HBg.out) ?_
    clear hK9 K9
    try simp only [Act.put, List.setIfInBounds_toArray, List.set_cons_zero, List.set_cons_succ]
    repeat (first | (refine wpY_w ?_ (Or.inl ⟨by rfl, fun w9 => ?_⟩) ?_; rotate_left 1; go_simp; with_reducible rfl; simp only [Act.put, List.setIfInBounds_toArray, List.set_cons_zero, List.set_cons_succ]) | (refine wpY_l ?_ (HBg.out) (Or.inl ⟨by rfl, fun w9 hw9 => ?_⟩) ?_; rotate_left 1; obtain ⟨hc9, hf9⟩ := bcell hw9; go_simp; with_reducible rfl; simp only [Act.put, List.setIfInBounds_toArray, List.set_cons_zero, List.set_cons_succ]) | (refine wpY_w undef (Or.inr ⟨by rfl, rfl⟩) ?_; simp only [Act.put, List.setIfInBounds_toArray, List.set_cons_zero, List.set_cons_succ]) | (refine wpY_l undef (HBg.out) (Or.inr ⟨by rfl, rfl⟩) ?_; simp only [Act.put, List.setIfInBounds_toArray, List.set_cons_zero, List.set_cons_succ]))
    refine wpY_es (fun K9 hK9 => ?_)
    have u0 := ((HKg.out).cell 0).trans rfl
    have u1 := ((HKg.out).cell 1).trans rfl
    have f0 := (HKg.out).frozen 0
    have f1 := (HKg.out).frozen 1
    have hgl := (HKg.out).lt
    go_simp
    refine hK9 _ _ (by (repeat (first | exact Below.refl _ _ | exact HB9.out | exact HBa.out | exact HBg.out | (refine Below.drew ?_) | (refine Below.alloc ?_ (by first | omega | (simp; done) | (simp; omega)) _) | (refine Below.setCell ?_ (by first | omega | (simp; done) | (simp; omega)) _)))) ?_
    clear hK9 K9
    try simp only [Act.put, List.setIfInBounds_toArray, List.set_cons_zero, List.set_cons_succ]
    repeat (first | (refine wpY_w ?_ (Or.inl ⟨by rfl, fun w9 => ?_⟩) ?_; rotate_left 1; go_simp; with_reducible rfl; simp only [Act.put, List.setIfInBounds_toArray, List.set_cons_zero, List.set_cons_succ]) | (refine wpY_l ?_ (by (repeat (first | exact Below.refl _ _ | exact HB9.out | exact HBa.out | exact HBg.out | (refine Below.drew ?_) | (refine Below.alloc ?_ (by first | omega | (simp; done) | (simp; omega)) _) | (refine Below.setCell ?_ (by first | omega | (simp; done) | (simp; omega)) _)))) (Or.inl ⟨by rfl, fun w9 hw9 => ?_⟩) ?_; rotate_left 1; obtain ⟨hc9, hf9⟩ := bcell hw9; go_simp; with_reducible rfl; simp only [Act.put, List.setIfInBounds_toArray, List.set_cons_zero, List.set_cons_succ]) | (refine wpY_w undef (Or.inr ⟨by rfl, rfl⟩) ?_; simp only [Act.put, List.setIfInBounds_toArray, List.set_cons_zero, List.set_cons_succ]) | (refine wpY_l undef (by (repeat (first | exact Below.refl _ _ | exact HB9.out | exact HBa.out | exact HBg.out | (refine Below.drew ?_) | (refine Below.alloc ?_ (by first | omega | (simp; done) | (simp; omega)) _) | (refine Below.setCell ?_ (by first | omega | (simp; done) | (simp; omega)) _)))) (Or.inr ⟨by rfl, rfl⟩) ?_; simp only [Act.put, List.setIfInBounds_toArray, List.set_cons_zero, List.set_cons_succ]))
    refine wpY_nil ?_
    simp only [OnlyN_normal]
    refine hKK _ _ ?_
    clear hKK KK
    go_wp2_with fail
    go_ret2
    exact ⟨rfl, by (repeat (first | exact Below.refl _ _ | exact HB9.out | exact HBa.out | exact HBg.out | (refine Below.drew ?_) | (refine Below.alloc ?_ (by first | omega | (simp; done) | (simp; omega)) _) | (refine Below.setCell ?_ (by first | omega | (simp; done) | (simp; omega)) _)))⟩

set_option maxRecDepth 100000 in
set_option maxHeartbeats 4000000 in
theorem mapget_is (bm bp cc : Nat) (sn : Bool) (A : Option Addr) (m : List Page) (c : UInt8) (y : Page) (w : World) (hM : Blk w bm 89 #[.pointer (some ⟨bp, 0, none⟩)]) (hS : PageSet w bp sn A cc m) (hs : Srt cmpPage m) (hl : (m.length : Int) ≤ 1000000) (hh : has cmpPage m ⟨c, 0⟩ = true) (hy : m[rank cmpPage m ⟨c, 0⟩]? = some y) :
    Calls Try.prog 56 #[.pointer (some ⟨bm, 0, none⟩), .int .u8 (c.toNat : Int)] w fun e w' => e = .returned (.tuple #[.int .i64 y.v, .bool true]) ∧ Below w.heap.size w w' := by
  have s0 := (hM.cell 0).trans rfl
  have hml := hM.lt
  have HS := Lib.hid hS
  have HO := Lib.hid hs
  have HM := Lib.hid hM
  have HH := Lib.hid hh
  have HY := Lib.hid hy
  clear hy
  clear hS hs hM hh
  go_enter Try.func56, Try.ntmps56
  go_wp2_with fail
  refine wp_region_Pl (fun w9 => Below w.heap.size w w9) [0, 1, 2, 3, 4, 7, 8, 9, 12] [3] (.fork [(0, 0), (1, 0), (2, 0), (3, 1), (4, 0)] 5 (.fork [] 6 (.fin [(7, 0), (8, 0), (9, 0), (10, 2), (11, 2), (12, 0)]) 10 (.fin [(6, 2), (7, 0), (8, 0), (9, 0), (11, 2), (12, 0)])) 10 (.fin [(5, 2), (6, 2), (7, 0), (8, 0), (9, 0), (11, 2), (12, 0)])) (by kernel_rfl) (by kernel_rfl) (by kernel_rfl) (fun KK hKK => ?_)
  simp only [wpPl, beside, List.filterMap_cons, List.filterMap_nil, List.getElem?_toArray, List.getElem?_cons_zero, List.getElem?_cons_succ, Option.map_some]
  repeat (first | (refine wpY_w ?_ (Or.inl ⟨by rfl, fun w9 => ?_⟩) ?_; rotate_left 1; go_simp; with_reducible rfl; simp only [Act.put, List.setIfInBounds_toArray, List.set_cons_zero, List.set_cons_succ]) | (refine wpY_l ?_ ((Below.refl _ _).drew) (Or.inl ⟨by rfl, fun w9 hw9 => ?_⟩) ?_; rotate_left 1; obtain ⟨hc9, hf9⟩ := bcell hw9; go_simp; with_reducible rfl; simp only [Act.put, List.setIfInBounds_toArray, List.set_cons_zero, List.set_cons_succ]) | (refine wpY_w undef (Or.inr ⟨by rfl, rfl⟩) ?_; simp only [Act.put, List.setIfInBounds_toArray, List.set_cons_zero, List.set_cons_succ]) | (refine wpY_l undef ((Below.refl _ _).drew) (Or.inr ⟨by rfl, rfl⟩) ?_; simp only [Act.put, List.setIfInBounds_toArray, List.set_cons_zero, List.set_cons_succ]))
  refine wpY_nil ⟨?_, ?_⟩
  · refine wpOp_cs rfl (fun K9 hK9 => ?_)
    go_simp
    refine (at_is c _).mono ?_
    rintro e wa ⟨rfl, hba⟩
    have HBa := Lib.hid (((Below.refl w.heap.size w).drew).trans (hba.mono (by first | omega | simp)))
    clear hba
    have hza := HBa.out.size
    refine hK9 _ _ (fun _ => HBa.out) ?_
    clear hK9 K9
    try simp only [Act.put, List.setIfInBounds_toArray, List.set_cons_zero, List.set_cons_succ]
    try simp only [beside, List.filterMap_nil]
    refine wpY_nil ⟨?_, ?_⟩
    · refine wpOp_cs rfl (fun K9 hK9 => ?_)
      go_simp
      refine (get_is_Page bp cc sn A m ⟨c, 0⟩ y _ (HS.out.new_ (HBa.out)) HO.out (by omega) HH.out HY.out).mono ?_
      rintro e wg ⟨rfl, hbg⟩
      have HBg := Lib.hid ((HBa.out).trans (hbg.mono (by have := HBa.out.size; first | omega | (simp; done) | (simp; omega))))
      clear hbg
      have hzg := HBg.out.size
      refine hK9 _ _ (fun _ => HBg.out) ?_
      clear hK9 K9
      try simp only [Act.put, List.setIfInBounds_toArray, List.set_cons_zero, List.set_cons_succ]
      try simp only [beside, List.filterMap_nil]
      repeat (first | (refine wpY_w ?_ (Or.inl ⟨by rfl, fun w9 => ?_⟩) ?_; rotate_left 1; go_simp; with_reducible rfl; simp only [Act.put, List.setIfInBounds_toArray, List.set_cons_zero, List.set_cons_succ]) | (refine wpY_l ?_ (HBg.out) (Or.inl ⟨by rfl, fun w9 hw9 => ?_⟩) ?_; rotate_left 1; obtain ⟨hc9, hf9⟩ := bcell hw9; go_simp; with_reducible rfl; simp only [Act.put, List.setIfInBounds_toArray, List.set_cons_zero, List.set_cons_succ]) | (refine wpY_w undef (Or.inr ⟨by rfl, rfl⟩) ?_; simp only [Act.put, List.setIfInBounds_toArray, List.set_cons_zero, List.set_cons_succ]) | (refine wpY_l undef (HBg.out) (Or.inr ⟨by rfl, rfl⟩) ?_; simp only [Act.put, List.setIfInBounds_toArray, List.set_cons_zero, List.set_cons_succ]))
      refine wpY_es (fun K9 hK9 => ?_)
      go_simp
      have hB9 := (HBg.out).alloc (by have := HBg.out.size; first | omega | (simp; done) | (simp; omega)) (.cells #[.int .u8 0, .int .i64 0] 87)
      have HB9 := Lib.hid hB9
      have hk9 : Blk (wg.alloc (.cells #[.int .u8 0, .int .i64 0] 87)) wg.heap.size 87 #[.int .u8 0, .int .i64 0] := Blk.new wg 87 #[.int .u8 0, .int .i64 0]
      have HK9 := Lib.hid hk9
      clear hB9 hk9
      have hz9 := HB9.out.size
      refine hK9 _ _ (HB9.out) ?_
      clear hK9 K9
      try simp only [Act.put, List.setIfInBounds_toArray, List.set_cons_zero, List.set_cons_succ]
      refine wpY_es (fun K9 hK9 => ?_)
      have u0 := ((HK9.out).cell 0).trans rfl
      have u1 := ((HK9.out).cell 1).trans rfl
      have f0 := (HK9.out).frozen 0
      have f1 := (HK9.out).frozen 1
      have hgl := (HK9.out).lt
      go_simp
      refine hK9 _ _ (by (repeat (first | exact Below.refl _ _ | exact HBa.out | exact HBg.out | exact HB9.out | (refine Below.drew ?_) | (refine Below.alloc ?_ (by first | omega | (simp; done) | (simp; omega)) _) | (refine Below.setCell ?_ (by first | omega | (simp; done) | (simp; omega)) _)))) ?_
      clear hK9 K9
      try simp only [Act.put, List.setIfInBounds_toArray, List.set_cons_zero, List.set_cons_succ]
      repeat (first | (refine wpY_w ?_ (Or.inl ⟨by rfl, fun w9 => ?_⟩) ?_; rotate_left 1; go_simp; with_reducible rfl; simp only [Act.put, List.setIfInBounds_toArray, List.set_cons_zero, List.set_cons_succ]) | (refine wpY_l ?_ (by (repeat (first | exact Below.refl _ _ | exact HBa.out | exact HBg.out | exact HB9.out | (refine Below.drew ?_) | (refine Below.alloc ?_ (by first | omega | (simp; done) | (simp; omega)) _) | (refine Below.setCell ?_ (by first | omega | (simp; done) | (simp; omega)) _)))) (Or.inl ⟨by rfl, fun w9 hw9 => ?_⟩) ?_; rotate_left 1; obtain ⟨hc9, hf9⟩ := bcell hw9; go_simp; with_reducible rfl; simp only [Act.put, List.setIfInBounds_toArray, List.set_cons_zero, List.set_cons_succ]) | (refine wpY_w undef (Or.inr ⟨by rfl, rfl⟩) ?_; simp only [Act.put, List.setIfInBounds_toArray, List.set_cons_zero, List.set_cons_succ]) | (refine wpY_l undef (by (repeat (first | exact Below.refl _ _ | exact HBa.out | exact HBg.out | exact HB9.out | (refine Below.drew ?_) | (refine Below.alloc ?_ (by first | omega | (simp; done) | (simp; omega)) _) | (refine Below.setCell ?_ (by first | omega | (simp; done) | (simp; omega)) _)))) (Or.inr ⟨by rfl, rfl⟩) ?_; simp only [Act.put, List.setIfInBounds_toArray, List.set_cons_zero, List.set_cons_succ]))
      refine wpY_nil ?_
      simp only [OnlyN_normal]
      refine hKK _ _ ?_
      clear hKK KK
      go_wp2_with fail
      go_ret2
      exact ⟨rfl, by (repeat (first | exact Below.refl _ _ | exact HBa.out | exact HBg.out | exact HB9.out | (refine Below.drew ?_) | (refine Below.alloc ?_ (by first | omega | (simp; done) | (simp; omega)) _) | (refine Below.setCell ?_ (by first | omega | (simp; done) | (simp; omega)) _)))⟩
    · refine wpOp_cs rfl (fun K9 hK9 => ?_)
      go_simp
      have hB9 := (HBa.out).alloc (by have := HBa.out.size; first | omega | (simp; done) | (simp; omega)) (.cells #[.int .u8 0, .int .i64 0] 87)
      have HB9 := Lib.hid hB9
      have hk9 : Blk (wa.alloc (.cells #[.int .u8 0, .int .i64 0] 87)) wa.heap.size 87 #[.int .u8 0, .int .i64 0] := Blk.new wa 87 #[.int .u8 0, .int .i64 0]
      have HK9 := Lib.hid hk9
      clear hB9 hk9
      have hz9 := HB9.out.size
      refine hK9 _ _ (fun _ => HB9.out) ?_
      clear hK9 K9
      try simp only [Act.put, List.setIfInBounds_toArray, List.set_cons_zero, List.set_cons_succ]
      try simp only [beside, List.filterMap_nil]
      refine wpY_es (fun K9 hK9 => ?_)
      go_simp
      refine (get_is_Page bp cc sn A m ⟨c, 0⟩ y _ (HS.out.new_ (HB9.out)) HO.out (by omega) HH.out HY.out).mono ?_
      rintro e wg ⟨rfl, hbg⟩
      have hkg := (HK9.out).new_ hbg
      have HKg := Lib.hid hkg
      clear hkg
      have HBg := Lib.hid ((HB9.out).trans (hbg.mono (by have := HB9.out.size; first | omega | (simp at this ⊢; done) | (simp at this ⊢; omega))))
      clear hbg
      have hzg := HBg.out.size
      refine hK9 _ _ (HBg.out) ?_
      clear hK9 K9
      try simp only [Act.put, List.setIfInBounds_toArray, List.set_cons_zero, List.set_cons_succ]
      repeat (first | (refine wpY_w ?_ (Or.inl ⟨by rfl, fun w9 => ?_⟩) ?_; rotate_left 1; go_simp; with_reducible rfl; simp only [Act.put, List.setIfInBounds_toArray, List.set_cons_zero, List.set_cons_succ]) | (refine wpY_l ?_ (HBg.out) (Or.inl ⟨by rfl, fun w9 hw9 => ?_⟩) ?_; rotate_left 1; obtain ⟨hc9, hf9⟩ := bcell hw9; go_simp; with_reducible rfl; simp only [Act.put, List.setIfInBounds_toArray, List.set_cons_zero, List.set_cons_succ]) | (refine wpY_w undef (Or.inr ⟨by rfl, rfl⟩) ?_; simp only [Act.put, List.setIfInBounds_toArray, List.set_cons_zero, List.set_cons_succ]) | (refine wpY_l undef (HBg.out) (Or.inr ⟨by rfl, rfl⟩) ?_; simp only [Act.put, List.setIfInBounds_toArray, List.set_cons_zero, List.set_cons_succ]))
      refine wpY_es (fun K9 hK9 => ?_)
      have u0 := ((HKg.out).cell 0).trans rfl
      have u1 := ((HKg.out).cell 1).trans rfl
      have f0 := (HKg.out).frozen 0
      have f1 := (HKg.out).frozen 1
      have hgl := (HKg.out).lt
      go_simp
      refine hK9 _ _ (by (repeat (first | exact Below.refl _ _ | exact HBa.out | exact HB9.out | exact HBg.out | (refine Below.drew ?_) | (refine Below.alloc ?_ (by first | omega | (simp; done) | (simp; omega)) _) | (refine Below.setCell ?_ (by first | omega | (simp; done) | (simp; omega)) _)))) ?_
      clear hK9 K9
      try simp only [Act.put, List.setIfInBounds_toArray, List.set_cons_zero, List.set_cons_succ]
      repeat (first | (refine wpY_w ?_ (Or.inl ⟨by rfl, fun w9 => ?_⟩) ?_; rotate_left 1; go_simp; with_reducible rfl; simp only [Act.put, List.setIfInBounds_toArray, List.set_cons_zero, List.set_cons_succ]) | (refine wpY_l ?_ (by (repeat (first | exact Below.refl _ _ | exact HBa.out | exact HB9.out | exact HBg.out | (refine Below.drew ?_) | (refine Below.alloc ?_ (by first | omega | (simp; done) | (simp; omega)) _) | (refine Below.setCell ?_ (by first | omega | (simp; done) | (simp; omega)) _)))) (Or.inl ⟨by rfl, fun w9 hw9 => ?_⟩) ?_; rotate_left 1; obtain ⟨hc9, hf9⟩ := bcell hw9; go_simp; with_reducible rfl; simp only [Act.put, List.setIfInBounds_toArray, List.set_cons_zero, List.set_cons_succ]) | (refine wpY_w undef (Or.inr ⟨by rfl, rfl⟩) ?_; simp only [Act.put, List.setIfInBounds_toArray, List.set_cons_zero, List.set_cons_succ]) | (refine wpY_l undef (by (repeat (first | exact Below.refl _ _ | exact HBa.out | exact HB9.out | exact HBg.out | (refine Below.drew ?_) | (refine Below.alloc ?_ (by first | omega | (simp; done) | (simp; omega)) _) | (refine Below.setCell ?_ (by first | omega | (simp; done) | (simp; omega)) _)))) (Or.inr ⟨by rfl, rfl⟩) ?_; simp only [Act.put, List.setIfInBounds_toArray, List.set_cons_zero, List.set_cons_succ]))
      refine wpY_nil ?_
      simp only [OnlyN_normal]
      refine hKK _ _ ?_
      clear hKK KK
      go_wp2_with fail
      go_ret2
      exact ⟨rfl, by (repeat (first | exact Below.refl _ _ | exact HBa.out | exact HB9.out | exact HBg.out | (refine Below.drew ?_) | (refine Below.alloc ?_ (by first | omega | (simp; done) | (simp; omega)) _) | (refine Below.setCell ?_ (by first | omega | (simp; done) | (simp; omega)) _)))⟩
  · refine wpOp_cs rfl (fun K9 hK9 => ?_)
    go_simp
    have hB9 := ((Below.refl w.heap.size w).drew).alloc (by first | omega | simp) (.cells #[.int .u8 0, .int .i64 0] 87)
    have HB9 := Lib.hid hB9
    have hk9 : Blk (w.drew.alloc (.cells #[.int .u8 0, .int .i64 0] 87)) w.heap.size 87 #[.int .u8 0, .int .i64 0] := Blk.new w.drew 87 #[.int .u8 0, .int .i64 0]
    have HK9 := Lib.hid hk9
    clear hB9 hk9
    have hz9 := HB9.out.size
    refine hK9 _ _ (fun _ => HB9.out) ?_
    clear hK9 K9
    try simp only [Act.put, List.setIfInBounds_toArray, List.set_cons_zero, List.set_cons_succ]
    try simp only [beside, List.filterMap_nil]
    refine wpY_es (fun K9 hK9 => ?_)
    go_simp
    refine (at_is c _).mono ?_
    rintro e wa ⟨rfl, hba⟩
    have hka := (HK9.out).new_ hba
    have HKa := Lib.hid hka
    clear hka
    have HBa := Lib.hid ((HB9.out).trans (hba.mono (by have := HB9.out.size; first | omega | (simp at this ⊢; done) | (simp at this ⊢; omega))))
    clear hba
    have hza := HBa.out.size
    refine hK9 _ _ (HBa.out) ?_
    clear hK9 K9
    try simp only [Act.put, List.setIfInBounds_toArray, List.set_cons_zero, List.set_cons_succ]
    refine wpY_es (fun K9 hK9 => ?_)
    go_simp
    refine (get_is_Page bp cc sn A m ⟨c, 0⟩ y _ (HS.out.new_ (HBa.out)) HO.out (by omega) HH.out HY.out).mono ?_
    rintro e wg ⟨rfl, hbg⟩
    have hkg := (HKa.out).new_ hbg
    have HKg := Lib.hid hkg
    clear hkg
    have HBg := Lib.hid ((HBa.out).trans (hbg.mono (by have := HBa.out.size; first | omega | (simp; done) | (simp; omega))))
    clear hbg
    have hzg := HBg.out.size
    refine hK9 _ _ (HBg.out) ?_
    clear hK9 K9
    try simp only [Act.put, List.setIfInBounds_toArray, List.set_cons_zero, List.set_cons_succ]
    repeat (first | (refine wpY_w ?_ (Or.inl ⟨by rfl, fun w9 => ?_⟩) ?_; rotate_left 1; go_simp; with_reducible rfl; simp only [Act.put, List.setIfInBounds_toArray, List.set_cons_zero, List.set_cons_succ]) | (refine wpY_l ?_ (HBg.out) (Or.inl ⟨by rfl, fun w9 hw9 => ?_⟩) ?_; rotate_left 1; obtain ⟨hc9, hf9⟩ := bcell hw9; go_simp; with_reducible rfl; simp only [Act.put, List.setIfInBounds_toArray, List.set_cons_zero, List.set_cons_succ]) | (refine wpY_w undef (Or.inr ⟨by rfl, rfl⟩) ?_; simp only [Act.put, List.setIfInBounds_toArray, List.set_cons_zero, List.set_cons_succ]) | (refine wpY_l undef (HBg.out) (Or.inr ⟨by rfl, rfl⟩) ?_; simp only [Act.put, List.setIfInBounds_toArray, List.set_cons_zero, List.set_cons_succ]))
    refine wpY_es (fun K9 hK9 => ?_)
    have u0 := ((HKg.out).cell 0).trans rfl
    have u1 := ((HKg.out).cell 1).trans rfl
    have f0 := (HKg.out).frozen 0
    have f1 := (HKg.out).frozen 1
    have hgl := (HKg.out).lt
    go_simp
    refine hK9 _ _ (by (repeat (first | exact Below.refl _ _ | exact HB9.out | exact HBa.out | exact HBg.out | (refine Below.drew ?_) | (refine Below.alloc ?_ (by first | omega | (simp; done) | (simp; omega)) _) | (refine Below.setCell ?_ (by first | omega | (simp; done) | (simp; omega)) _)))) ?_
    clear hK9 K9
    try simp only [Act.put, List.setIfInBounds_toArray, List.set_cons_zero, List.set_cons_succ]
    repeat (first | (refine wpY_w ?_ (Or.inl ⟨by rfl, fun w9 => ?_⟩) ?_; rotate_left 1; go_simp; with_reducible rfl; simp only [Act.put, List.setIfInBounds_toArray, List.set_cons_zero, List.set_cons_succ]) | (refine wpY_l ?_ (by (repeat (first | exact Below.refl _ _ | exact HB9.out | exact HBa.out | exact HBg.out | (refine Below.drew ?_) | (refine Below.alloc ?_ (by first | omega | (simp; done) | (simp; omega)) _) | (refine Below.setCell ?_ (by first | omega | (simp; done) | (simp; omega)) _)))) (Or.inl ⟨by rfl, fun w9 hw9 => ?_⟩) ?_; rotate_left 1; obtain ⟨hc9, hf9⟩ := bcell hw9; go_simp; with_reducible rfl; simp only [Act.put, List.setIfInBounds_toArray, List.set_cons_zero, List.set_cons_succ]) | (refine wpY_w undef (Or.inr ⟨by rfl, rfl⟩) ?_; simp only [Act.put, List.setIfInBounds_toArray, List.set_cons_zero, List.set_cons_succ]) | (refine wpY_l undef (by (repeat (first | exact Below.refl _ _ | exact HB9.out | exact HBa.out | exact HBg.out | (refine Below.drew ?_) | (refine Below.alloc ?_ (by first | omega | (simp; done) | (simp; omega)) _) | (refine Below.setCell ?_ (by first | omega | (simp; done) | (simp; omega)) _)))) (Or.inr ⟨by rfl, rfl⟩) ?_; simp only [Act.put, List.setIfInBounds_toArray, List.set_cons_zero, List.set_cons_succ]))
    refine wpY_nil ?_
    simp only [OnlyN_normal]
    refine hKK _ _ ?_
    clear hKK KK
    go_wp2_with fail
    go_ret2
    exact ⟨rfl, by (repeat (first | exact Below.refl _ _ | exact HB9.out | exact HBa.out | exact HBg.out | (refine Below.drew ?_) | (refine Below.alloc ?_ (by first | omega | (simp; done) | (simp; omega)) _) | (refine Below.setCell ?_ (by first | omega | (simp; done) | (simp; omega)) _)))⟩
end Go.Proofs.Ytlkffnmmphehdaa

namespace Go.Proofs.Ytlkffnmmphehdaa
open Go.RowKit
abbrev SymSet := SetAt (α := Sym) 83 23 3 Sym.cells
theorem nilAhead_Sym (k0 : Int) (k1 : ByteArray) (k2 : Int) (w : World) : (nilAhead 224 23 (.agg #[.int .i64 k0, .string k1, .int .i64 k2]) "Compare").run Try.prog w = .ok (some false) w := by kernel_rfl
theorem method_Sym (k0 : Int) (k1 : ByteArray) (k2 : Int) (w : World) : (method 224 23 (.agg #[.int .i64 k0, .string k1, .int .i64 k2]) "Compare").run Try.prog w = .ok (19, .agg #[.int .i64 k0, .string k1, .int .i64 k2]) w := by kernel_rfl

/-- What the search says at its end: the place, and whether it is there. -/
def FoundSym (l : List Sym) (x : Sym) (w : World) (e : Ending) (w' : World) : Prop :=
  e = .returned (.tuple #[.int .i64 (rank cmpSym l x), .bool (has cmpSym l x)]) ∧ Below w.heap.size w w'
set_option maxRecDepth 100000 in
set_option maxHeartbeats 4000000 in
theorem find_Sym (b c : Nat) (sn : Bool) (A : Option Addr) (l : List Sym) (x : Sym) (w : World) (hS : SymSet w b sn A c l) (hs : Srt cmpSym l) (hl : (l.length : Int) ≤ 4611686018427387904) :
    Calls Try.prog 64 #[.pointer (some ⟨b, 0, none⟩), .agg #[.int .i64 x.kind, .string x.text, .int .i64 x.n]] w (FoundSym l x w) := by
  have hrd := hS.rd Sym.cells_length
  have h0 := hS.cell0
  have hb := hS.lt
  clear hS
  have HS := Lib.hid hs
  have HRD := Lib.hid hrd
  clear hs hrd
  go_enter Try.func64, Try.ntmps64
  go_wp2_with fail
  go_quiet (fail)
  go_wp2_with fail
  obtain ⟨W0, hW0⟩ : ∃ W0, W0 = ((w.alloc (Obj.cells #[Value.int IntKind.i64 x.kind, Value.string x.text, Value.int IntKind.i64 x.n] 23)).drewN nq) := ⟨_, rfl⟩
  have hB0 : Below w.heap.size w W0 := by rw [hW0]; exact Below.drewN' ((Below.refl _ _).alloc (Nat.le_refl _) _) _
  have hx0 : W0.cell? ⟨w.heap.size, 0, none⟩ = some (.int .i64 x.kind) := by rw [hW0]; go_simp
  have hx1 : W0.cell? ⟨w.heap.size, 1, none⟩ = some (.string x.text) := by rw [hW0]; go_simp
  have hx2 : W0.cell? ⟨w.heap.size, 2, none⟩ = some (.int .i64 x.n) := by rw [hW0]; go_simp
  rw [← hW0]
  clear hW0
  have HB0 := Lib.hid hB0
  clear hB0
  go_loopw [6, 7] (fun lo hi wr => ∃ i j : Nat, lo = .int .i64 i ∧ hi = .int .i64 j ∧ i ≤ j ∧ j ≤ l.length ∧ (∀ k, (h : k < l.length) → k < i → cmpSym l[k] x < 0) ∧ (∀ k, (h : k < l.length) → j ≤ k → 0 < cmpSym l[k] x) ∧ Below W0.heap.size W0 wr) (fun lo hi wr => (intOf hi).toNat - (intOf lo).toNat)
  case atStart => exact ⟨0, l.length, rfl, rfl, Nat.zero_le _, Nat.le_refl _, fun k _ h => absurd h (by omega), fun k h h' => absurd h (by omega), Below.refl _ _⟩
  case round =>
    obtain ⟨i, j, rfl, rfl, hij, hj, hlo, hhi, hB⟩ := hrel
    have HLO := Lib.hid hlo
    have HHI := Lib.hid hhi
    clear hlo hhi
    have hsz : w.heap.size < W0.heap.size := World.block_lt_of_cell? W0 _ hx0
    by_cases hlt : i < j
    · obtain ⟨m, hm⟩ : ∃ m, m = i + (j - i) / 2 := ⟨_, rfl⟩
      have hml : m < l.length := by omega
      have hmj : m < j := by omega
      have hmi : i ≤ m := by omega
      have e1 : ((i : Int) + ((j : Int) - (i : Int)) / 2) = (m : Int) := by omega
      have E1 := Lib.hid e1
      clear e1 hm
      obtain ⟨g, off, rfl, hgs, hcell⟩ := HRD.out.at_ hml
      have low : ∀ (p : Addr), p.block < w.heap.size → wr.cell? p = w.cell? p := fun p hp => (hB.cell (p := p) (by omega)).trans (HB0.out.cell (p := p) hp)
      have r0 := (low ⟨b, 0, none⟩ hb).trans h0
      have q0 := (low ⟨g, off + m * 3, none⟩ hgs).trans (hcell 0 _ rfl)
      have q1 := (low ⟨g, off + m * 3 + 1, none⟩ hgs).trans (hcell 1 _ rfl)
      have q2 := (low ⟨g, off + m * 3 + 2, none⟩ hgs).trans (hcell 2 _ rfl)
      have y0 := (hB.cell (p := ⟨w.heap.size, 0, none⟩) hsz).trans hx0
      have y1 := (hB.cell (p := ⟨w.heap.size, 1, none⟩) hsz).trans hx1
      have y2 := (hB.cell (p := ⟨w.heap.size, 2, none⟩) hsz).trans hx2
      have b1 : (0 : Int) ≤ (m : Int) := by omega
      have b2 : (m : Int) < (l.length : Int) := by omega
      have hsw : W0.heap.size ≤ wr.heap.size := hB.size
      have N := nilAhead_Sym
      have M := method_Sym
      clear low hcell hx0 hx1 hx2 h0
      have HB := Lib.hid hB
      clear hB
      obtain ⟨y, hy⟩ : ∃ y, y = l[m] := ⟨_, rfl⟩
      rw [← hy] at q0 q1 q2
      have HY := Lib.hid hy
      clear hy
      have hbw : b < wr.heap.size := by omega
      have hgw : g < wr.heap.size := by omega
      have hww : w.heap.size < wr.heap.size := by omega
      go_wp2_with fail
      rw [E1.out]
      go_region_held3 (fun w' => w'.cell? ⟨b, 0, none⟩ = some (.slice (some ⟨g, off, none⟩) l.length c) ∧ w'.cell? ⟨g, off + m * 3, none⟩ = some (.int .i64 y.kind) ∧ w'.cell? ⟨g, off + m * 3 + 1, none⟩ = some (.string y.text) ∧ w'.cell? ⟨g, off + m * 3 + 2, none⟩ = some (.int .i64 y.n) ∧ w'.cell? ⟨w.heap.size, 0, none⟩ = some (.int .i64 x.kind) ∧ w'.cell? ⟨w.heap.size, 1, none⟩ = some (.string x.text) ∧ w'.cell? ⟨w.heap.size, 2, none⟩ = some (.int .i64 x.n))
        (first | go_keep | (refine ⟨?_, ?_, ?_, ?_, ?_, ?_, ?_⟩ <;> exact (hb1.cell (by simpa using by assumption)).trans (by simp [*])))
        ((go_at_call 19; refine (cmp_sym y x _).mono ?_; rintro e w1 ⟨rfl, hb1⟩))
      have HB1 : Below W0.heap.size W0 w1 := HB.out.drew.trans (hb1.mono hsw)
      clear r0 q0 q1 q2 y0 y1 y2 N M
      by_cases hc : cmpSym y x = 0
      · have HC := Lib.hid hc
        have t1 : (cmpSym y x == 0) = true := by simp [hc]
        clear hc
        go_wp2_with fail
        go_ret2
        have e := HC.out
        rw [HY.out] at e
        refine ⟨?_, HB0.out.trans (HB1.mono (by omega))⟩
        rw [rank_some tc_sym HS.out hml e, (at_some tc_sym HS.out hml e).2.2.1]
        rfl
      · have t1 : (cmpSym y x == 0) = false := by simp [hc]
        by_cases hc2 : cmpSym y x < 0
        · have HC := Lib.hid hc2
          have t2 : decide (cmpSym y x < 0) = true := by simpa using hc2
          clear hc hc2
          go_wp2_with fail
          go_roundw
          case rel =>
            refine ⟨m + 1, j, by go_num, rfl, by omega, hj, fun k h1 h2 => ?_, HHI.out, HB1⟩
            have e := HC.out
            rw [HY.out] at e
            rcases Nat.lt_or_ge k m with h3 | h3
            · exact tc_sym.lt_of_lt_of_le (HS.out.lt h3 hml) (by omega)
            · obtain rfl : k = m := by omega
              exact e
          case measure => simp [intOf]; omega
        · have t2 : decide (cmpSym y x < 0) = false := by simpa using hc2
          have hc3 : 0 < cmpSym y x := by omega
          have HC := Lib.hid hc3
          clear hc hc2 hc3
          go_wp2_with fail
          go_roundw
          case rel =>
            refine ⟨i, m, rfl, rfl, by omega, by omega, HLO.out, fun k h1 h2 => ?_, HB1⟩
            have e := HC.out
            rw [HY.out] at e
            rcases Nat.lt_or_ge m k with h3 | h3
            · exact (tc_sym.symm _ _).1 (tc_sym.lt_trans ((tc_sym.symm _ _).2 e) (HS.out.lt h3 h1))
            · obtain rfl : k = m := by omega
              exact e
          case measure => simp [intOf]; omega
    · obtain rfl : i = j := by omega
      have HB := Lib.hid hB
      clear hB
      go_wp2_with fail
      go_ret2
      refine ⟨?_, HB0.out.trans (HB.out.mono (by omega))⟩
      rw [rank_none hj HLO.out HHI.out, (at_none HLO.out HHI.out).2.2]
      rfl
end Go.Proofs.Ytlkffnmmphehdaa

namespace Go.Proofs.Ytlkffnmmphehdaa
open Go.RowKit
theorem info_Sym : (Try.prog.info? 23).map (fun i => (i.zero, i.size, i.bytes)) = some (some (.agg #[.int .i64 0, .string ⟨#[]⟩, .int .i64 0]), 3, 32) := by kernel_rfl
theorem Sym.one (x : Sym) : ∀ u ∈ Sym.cells x, u.oneCell' = true := by intro u hu; simp [Sym.cells] at hu; rcases hu with rfl | rfl | rfl <;> rfl
theorem Sym.oneAll (l : List Sym) : ∀ u ∈ l.flatMap Sym.cells, u.oneCell' = true := by intro u hu; obtain ⟨x, _, hx⟩ := List.mem_flatMap.1 hu; exact Sym.one x u hx

/-- Behind 'own': the list may be written from now on. -/
def OwnPostSym (w : World) (b : Nat) (sn : Bool) (A : Option Addr) (l : List Sym) (e : Ending) (w' : World) : Prop :=
  e = .returned (.tuple #[]) ∧ ∃ A' c', SymSet w' b false A' c' l ∧ Fr (· = b) w w' ∧ Moved w sn A false A'
set_option maxRecDepth 100000 in
set_option maxHeartbeats 1000000 in
theorem own_no_Sym (b c : Nat) (A : Option Addr) (l : List Sym) (w : World) (hS : SymSet w b false A c l) :
    Calls Try.prog 65 #[.pointer (some ⟨b, 0, none⟩)] w (OwnPostSym w b false A l) := by
  have h1 := hS.cell1
  have HS := Lib.hid hS
  clear hS
  go_enter Try.func65, Try.ntmps65
  go_wp2
  go_end0
  exact ⟨rfl, A, c, HS.out, Fr.refl _ _, .inl ⟨rfl, rfl⟩⟩
set_option maxRecDepth 100000 in
set_option maxHeartbeats 1000000 in
theorem own_yes_Sym (b c : Nat) (A : Option Addr) (l : List Sym) (w : World) (hS : SymSet w b true A c l) (hl : (l.length : Int) ≤ 1000000000) :
    Calls Try.prog 65 #[.pointer (some ⟨b, 0, none⟩)] w (OwnPostSym w b true A l) := by
  obtain ⟨i0, hi, hz0, hz1, hz2⟩ := info_parts info_Sym
  have h0 := hS.cell0
  have h1 := hS.cell1
  have hb := hS.lt
  have f0 := hS.blk.frozen 0
  have f1 := hS.blk.frozen 1
  have hrd := hS.rd Sym.cells_length
  have HB := Lib.hid hS.blk
  have HRD := Lib.hid hrd
  clear hS hrd
  have e1 : IntKind.i64.wrap ((l.length : Int) + 1) = (l.length : Int) + 1 := IntWalk.i64_in _ (by omega)
  have hmk : ∀ W : World, (Instr.makeSlice 39 (.int .i64 0) (.int .i64 ((l.length : Int) + 1))).run Try.prog W = .ok (.slice (some ⟨W.heap.size, 0, none⟩) 0 (l.length + 1)) (W.alloc (.cells (madeCells (Value.cells (.agg #[.int .i64 0, .string ⟨#[]⟩, .int .i64 0])) ((l.length + 1) * 3)) 23)) := fun W => by
    have h := run_make (P := Try.prog) W 39 23 i0 _ Try.underlying39 hi hz0 .i64 .i64 0 ((l.length : Int) + 1) (by omega) (by omega) (by rw [hz2]; omega) (by omega)
    rw [hz1] at h
    simpa [show ((l.length : Int) + 1).toNat = l.length + 1 by omega] using h
  go_enter Try.func65, Try.ntmps65
  go_wp2_with fail
  refine wp_region_E (fun w9 => Below w.heap.size w w9) [(0, 0), (1, 0), (2, 0), (3, 0), (4, 1), (5, 0), (6, 0), (8, 0), (9, 0), (10, 0), (11, 1), (7, 2), (12, 2), (13, 0), (14, 0), (15, 2)] (by kernel_rfl) (by kernel_rfl) (fun KK hKK => ?_)
  simp only [beside, List.filterMap_cons, List.filterMap_nil, List.getElem?_toArray, List.getElem?_cons_zero, List.getElem?_cons_succ, Option.map_some]
  repeat (first | (refine wpX_w ?_ (Or.inl ⟨by rfl, fun w9 => ?_⟩) ?_; rotate_left 1; go_simp; with_reducible rfl; simp only [Act.put, List.setIfInBounds_toArray, List.set_cons_zero, List.set_cons_succ]) | (refine wpX_l ?_ (((Below.refl _ _).drew)) (Or.inl ⟨by rfl, fun w9 hw9 => ?_⟩) ?_; rotate_left 1; obtain ⟨hc9, hf9⟩ := bcell hw9; go_simp; with_reducible rfl; simp only [Act.put, List.setIfInBounds_toArray, List.set_cons_zero, List.set_cons_succ]) | (refine wpX_w undef (Or.inr ⟨by rfl, rfl⟩) ?_; simp only [Act.put, List.setIfInBounds_toArray, List.set_cons_zero, List.set_cons_succ]) | (refine wpX_l undef (((Below.refl _ _).drew)) (Or.inr ⟨by rfl, rfl⟩) ?_; simp only [Act.put, List.setIfInBounds_toArray, List.set_cons_zero, List.set_cons_succ]))
  refine wpX_es (fun K9 hK9 => ?_)
  go_simp
  refine hK9 _ _ (((Below.refl _ _).drew).alloc (Nat.le_refl _) _) ?_
  clear hK9 K9
  refine wpX_e (by kernel_rfl) (fun K9 hK9 => ?_)
  refine step_append_src _ (by rfl) _ _ _ (by rfl) 23 i0 _ 3 32 Try.underlying39 hi hz0 hz1 hz2 rfl (by omega) _ 0 [] (by rfl) (World.ownsRow_made _ _ _ (Nat.zero_le _) (by unfold maxLen; omega) (by simp [madeCells])) A l.length c (l.flatMap Sym.cells) (by rfl) (flat_length Sym.cells_length l)
    ((HRD.out.drew.alloc _).news Sym.cells_length (by omega)) (Sym.oneAll l) (by unfold maxLen; omega) (by omega) ?_
  intro v2 w2 hown hgr hnil hat
  refine hK9 _ _ ?_
  clear hK9 K9
  rw [Nat.zero_add, List.nil_append] at hown
  obtain ⟨A', c', rfl, _, _, hz⟩ := own_form2 hown
  have HB1 := (HB.out.drew.alloc (.cells (madeCells (Value.cells (.agg #[.int .i64 0, .string ⟨#[]⟩, .int .i64 0])) ((l.length + 1) * 3)) 23)).grown hgr (by simp [Value.ownBlock]; omega)
  have c0 := (HB1.cell 0).trans rfl
  have c1 := (HB1.cell 1).trans rfl
  have z0 := HB1.frozen 0
  have z1 := HB1.frozen 1
  have HB2 := Lib.hid HB1
  clear HB1
  repeat (first | (refine wpX_w ?_ (Or.inl ⟨by rfl, fun w9 => ?_⟩) ?_; rotate_left 1; go_simp; with_reducible rfl; simp only [Act.put, List.setIfInBounds_toArray, List.set_cons_zero, List.set_cons_succ]) | (refine wpX_l ?_ (((Below.refl _ _).drew).alloc (Nat.le_refl _) _) (Or.inl ⟨by rfl, fun w9 hw9 => ?_⟩) ?_; rotate_left 1; obtain ⟨hc9, hf9⟩ := bcell hw9; go_simp; with_reducible rfl; simp only [Act.put, List.setIfInBounds_toArray, List.set_cons_zero, List.set_cons_succ]) | (refine wpX_w undef (Or.inr ⟨by rfl, rfl⟩) ?_; simp only [Act.put, List.setIfInBounds_toArray, List.set_cons_zero, List.set_cons_succ]) | (refine wpX_l undef (((Below.refl _ _).drew).alloc (Nat.le_refl _) _) (Or.inr ⟨by rfl, rfl⟩) ?_; simp only [Act.put, List.setIfInBounds_toArray, List.set_cons_zero, List.set_cons_succ]))
  refine wpX_e (by kernel_rfl) (fun K9 hK9 => ?_)
  go_simp
  refine hK9 _ _ ?_
  clear hK9 K9
  refine wpX_nil ?_
  simp only [OnlyN_normal]
  refine hKK _ _ ?_
  clear hKK KK
  go_wp2
  go_end0
  have hb2 : (Value.slice A' l.length c').ownBlock = some w.heap.size ∨ (Value.slice A' l.length c').ownBlock = some (w.heap.size + 1) := by
    rcases hat with h | h
    · left; rw [h]; rfl
    · right; rw [h]; simp
  have hA : ∃ g, w.heap.size ≤ g ∧ A' = some ⟨g, 0, none⟩ := by
    rcases A' with _ | a
    · exfalso; simp [Value.ownBlock] at hb2
    · obtain ⟨g, rfl⟩ := hz a rfl
      refine ⟨g, ?_, rfl⟩
      simp [Value.ownBlock] at hb2
      omega
  obtain ⟨g, hg, rfl⟩ := hA
  have HB1 := HB2.out
  have HF : Fr (· = b) w w2 := ((Fr.refl (· = b) w).drew.alloc _).grown hgr (fun k e => by simp [Value.ownBlock] at e; right; omega)
  refine ⟨rfl, some ⟨g, 0, none⟩, c', ⟨(HB1.set_ 0 _).set_ 1 _, ?_⟩, (HF.setCell (p := ⟨b, 0, none⟩) (.inl rfl) _).setCell (p := ⟨b, 1, none⟩) (.inl rfl) _, .inr ⟨rfl, g, hg, rfl⟩⟩
  have hne : (Value.slice (some ⟨g, 0, none⟩) l.length c').ownBlock ≠ some b := by simp [Value.ownBlock]; omega
  exact ownsRow_setCell_other (a := ⟨b, 1, none⟩) (ownsRow_setCell_other (a := ⟨b, 0, none⟩) hown hne _) hne _
theorem own_Sym (b c : Nat) (sn : Bool) (A : Option Addr) (l : List Sym) (w : World) (hS : SymSet w b sn A c l) (hl : (l.length : Int) ≤ 1000000000) :
    Calls Try.prog 65 #[.pointer (some ⟨b, 0, none⟩)] w (OwnPostSym w b sn A l) := by
  cases sn
  · exact own_no_Sym b c A l w hS
  · exact own_yes_Sym b c A l w hS hl
end Go.Proofs.Ytlkffnmmphehdaa

namespace Go.Proofs.Ytlkffnmmphehdaa
open Go.RowKit

/-- Behind Put. -/
def PutPostSym (w : World) (b : Nat) (sn : Bool) (A : Option Addr) (l : List Sym) (x : Sym) (e : Ending) (w' : World) : Prop :=
  e = .returned (.bool (!has cmpSym l x)) ∧ ∃ sn' A' c', SymSet w' b sn' A' c' (put cmpSym l x) ∧ Fr (SetMod b sn A) w w' ∧ Moved w sn A sn' A'
set_option maxRecDepth 100000 in
set_option maxHeartbeats 1000000 in
theorem put_there_Sym (b c : Nat) (sn : Bool) (A : Option Addr) (l : List Sym) (x : Sym) (w : World) (hS : SymSet w b sn A c l) (hs : Srt cmpSym l) (hl : (l.length : Int) ≤ 100000000) (hh : has cmpSym l x = true) :
    Calls Try.prog 50 #[.pointer (some ⟨b, 0, none⟩), .agg #[.int .i64 x.kind, .string x.text, .int .i64 x.n]] w (PutPostSym w b sn A l x) := by
  have HS := Lib.hid hS
  have HO := Lib.hid hs
  clear hS hs
  go_enter Try.func50, Try.ntmps50
  go_wp2_with fail
  refine (find_Sym b c sn A l x _ (HS.out.new_ ((Below.refl _ _).alloc (Nat.le_refl _) _)) HO.out (by omega)).mono ?_
  rintro e w1 ⟨rfl, hb1⟩
  go_wp2_with fail
  go_ret
  refine ⟨by rw [hh]; rfl, sn, A, c, ?_, Fr.of_new (((Below.refl _ _).alloc (Nat.le_refl _) _).trans (hb1.mono (by simp))), .inl ⟨rfl, rfl⟩⟩
  rw [put_has hh]
  exact HS.out.new_ (((Below.refl _ _).alloc (Nat.le_refl _) _).trans (hb1.mono (by simp)))

set_option maxRecDepth 100000 in
set_option maxHeartbeats 4000000 in
theorem put_new_Sym (b c : Nat) (sn : Bool) (A : Option Addr) (l : List Sym) (x : Sym) (w : World) (hS : SymSet w b sn A c l) (hs : Srt cmpSym l) (hl : (l.length : Int) ≤ 100000000) (hh : has cmpSym l x = false) :
    Calls Try.prog 50 #[.pointer (some ⟨b, 0, none⟩), .agg #[.int .i64 x.kind, .string x.text, .int .i64 x.n]] w (PutPostSym w b sn A l x) := by
  obtain ⟨i0, hi, hz0, hz1, hz2⟩ := info_parts info_Sym
  have HS := Lib.hid hS
  have HO := Lib.hid hs
  have hb := hS.lt
  clear hS hs
  have hrk := rank_le (cmp := cmpSym) l x
  go_enter Try.func50, Try.ntmps50
  go_wp2_with fail
  have hSa := HS.out.new_ ((Below.refl w.heap.size w).alloc (Nat.le_refl _) (.cells #[Value.int IntKind.i64 x.kind, Value.string x.text, Value.int IntKind.i64 x.n] 23))
  have HSa := Lib.hid hSa
  clear hSa
  refine (find_Sym b c sn A l x _ HSa.out HO.out (by omega)).mono ?_
  rintro e w1 ⟨rfl, hb1⟩
  have HS1 := Lib.hid (HSa.out.new_ hb1)
  have hsz1 : w.heap.size + 1 ≤ w1.heap.size := by have := hb1.size; (try simp at this); omega
  have y0 := (hb1.cell (p := ⟨w.heap.size, 0, none⟩) (by simp)).trans ((Blk.new w 23 #[Value.int IntKind.i64 x.kind, Value.string x.text, Value.int IntKind.i64 x.n]).cell 0)
  have y1 := (hb1.cell (p := ⟨w.heap.size, 1, none⟩) (by simp)).trans ((Blk.new w 23 #[Value.int IntKind.i64 x.kind, Value.string x.text, Value.int IntKind.i64 x.n]).cell 1)
  have y2 := (hb1.cell (p := ⟨w.heap.size, 2, none⟩) (by simp)).trans ((Blk.new w 23 #[Value.int IntKind.i64 x.kind, Value.string x.text, Value.int IntKind.i64 x.n]).cell 2)
  have HB1 := Lib.hid hb1
  clear hb1
  go_wp2_with fail
  refine (own_Sym b c sn A l _ HS1.out (by omega)).mono ?_
  rintro e w2 ⟨rfl, A1, c1, hS2, hF2, hM2⟩
  have hsz2 : w1.heap.size ≤ w2.heap.size := hF2.size
  have x0 : w2.cell? ⟨w.heap.size, 0, none⟩ = some (.int .i64 x.kind) := (hF2.cell (p := ⟨w.heap.size, 0, none⟩) (by dsimp only; omega) (by dsimp only; omega)).trans y0
  have x1 : w2.cell? ⟨w.heap.size, 1, none⟩ = some (.string x.text) := (hF2.cell (p := ⟨w.heap.size, 1, none⟩) (by dsimp only; omega) (by dsimp only; omega)).trans y1
  have x2 : w2.cell? ⟨w.heap.size, 2, none⟩ = some (.int .i64 x.n) := (hF2.cell (p := ⟨w.heap.size, 2, none⟩) (by dsimp only; omega) (by dsimp only; omega)).trans y2
  have s0 := hS2.cell0
  have f0 := hS2.blk.frozen 0
  have hb2 : b < w2.heap.size := by omega
  have hk2 : w.heap.size < w2.heap.size := by omega
  have HS2 := Lib.hid hS2
  have HF2 := Lib.hid hF2
  have HM2 := Lib.hid hM2
  clear hS2 hF2 hM2 y0 y1 y2
  go_wp2_with fail
  refine wp_region_E (fun w9 => Below w2.heap.size w2 w9) [(0, 0), (1, 0), (2, 0), (3, 0), (4, 1), (5, 1), (6, 2), (7, 2), (8, 0), (9, 0), (10, 2)] (by kernel_rfl) (by kernel_rfl) (fun KK hKK => ?_)
  simp only [beside, List.filterMap_cons, List.filterMap_nil, List.getElem?_toArray, List.getElem?_cons_zero, List.getElem?_cons_succ, Option.map_some]
  repeat (first | (refine wpX_w ?_ (Or.inl ⟨by rfl, fun w9 => ?_⟩) ?_; rotate_left 1; go_simp; with_reducible rfl; simp only [Act.put, List.setIfInBounds_toArray, List.set_cons_zero, List.set_cons_succ]) | (refine wpX_l ?_ (((Below.refl _ _).drew)) (Or.inl ⟨by rfl, fun w9 hw9 => ?_⟩) ?_; rotate_left 1; obtain ⟨hc9, hf9⟩ := bcell hw9; go_simp; with_reducible rfl; simp only [Act.put, List.setIfInBounds_toArray, List.set_cons_zero, List.set_cons_succ]) | (refine wpX_w undef (Or.inr ⟨by rfl, rfl⟩) ?_; simp only [Act.put, List.setIfInBounds_toArray, List.set_cons_zero, List.set_cons_succ]) | (refine wpX_l undef (((Below.refl _ _).drew)) (Or.inr ⟨by rfl, rfl⟩) ?_; simp only [Act.put, List.setIfInBounds_toArray, List.set_cons_zero, List.set_cons_succ]))
  refine wpX_es (fun K9 hK9 => ?_)
  go_simp
  refine hK9 _ _ (((Below.refl _ _).drew).alloc (Nat.le_refl _) _) ?_
  clear hK9 K9
  refine wpX_e (by kernel_rfl) (fun K9 hK9 => ?_)
  refine step_append_src _ (by rfl) _ _ _ (by rfl) 23 i0 _ 3 32 Try.underlying39 hi hz0 hz1 hz2 rfl (by omega) _ l.length (l.flatMap Sym.cells) (by rfl) (ownsRow_new HS2.out.row (((Below.refl _ _).drew).alloc (Nat.le_refl _) _)) (some ⟨w2.heap.size, 0, none⟩) 1 1 (Sym.cells x) (by rfl) (by rfl)
    (fun _ => ⟨_, rfl, World.news_of_block (heap_alloc_new _ _)⟩) (Sym.one x) (by unfold maxLen; omega) (by omega) ?_
  intro v2 w3 hown hgr hnil hat
  refine hK9 _ _ ?_
  clear hK9 K9
  obtain ⟨g, c2, rfl⟩ : ∃ g c2, v2 = .slice (some ⟨g, 0, none⟩) (l.length + 1) c2 := by
    rcases ownsRow_form hown with ⟨_, h0, _⟩ | ⟨g, c2, h, _⟩
    · omega
    · exact ⟨g, c2, h⟩
  have HXN : (Value.slice A1 l.length c1).ownBlock ≠ some w.heap.size := by
    intro h
    rcases HM2.out with ⟨hsn, hA⟩ | ⟨_, g2, hg2, hA⟩
    · rcases A1 with _ | a1
      · cases h
      · have h1 := HS.out.row_lt _ hA.symm
        simp only [Value.ownBlock, Option.some.injEq] at h
        omega
    · subst hA
      simp only [Value.ownBlock, Option.some.injEq] at h
      omega
  have HB3' := (HS2.out.blk.drew.alloc (.cells #[Value.int IntKind.i64 x.kind, Value.string x.text, Value.int IntKind.i64 x.n] 23)).grown hgr (own_blk_ne HS2.out.row HS2.out.blk (by decide))
  have c0 := (HB3'.cell 0).trans rfl
  have z0 := HB3'.frozen 0
  have HB3 := Lib.hid HB3'
  have HOWN := Lib.hid hown
  have HGR := Lib.hid hgr
  clear HB3' hown hgr
  repeat (first | (refine wpX_w ?_ (Or.inl ⟨by rfl, fun w9 => ?_⟩) ?_; rotate_left 1; go_simp; with_reducible rfl; simp only [Act.put, List.setIfInBounds_toArray, List.set_cons_zero, List.set_cons_succ]) | (refine wpX_l ?_ (((Below.refl _ _).drew).alloc (Nat.le_refl _) _) (Or.inl ⟨by rfl, fun w9 hw9 => ?_⟩) ?_; rotate_left 1; obtain ⟨hc9, hf9⟩ := bcell hw9; go_simp; with_reducible rfl; simp only [Act.put, List.setIfInBounds_toArray, List.set_cons_zero, List.set_cons_succ]) | (refine wpX_w undef (Or.inr ⟨by rfl, rfl⟩) ?_; simp only [Act.put, List.setIfInBounds_toArray, List.set_cons_zero, List.set_cons_succ]) | (refine wpX_l undef (((Below.refl _ _).drew).alloc (Nat.le_refl _) _) (Or.inr ⟨by rfl, rfl⟩) ?_; simp only [Act.put, List.setIfInBounds_toArray, List.set_cons_zero, List.set_cons_succ]))
  refine wpX_e (by kernel_rfl) (fun K9 hK9 => ?_)
  go_simp
  refine hK9 _ _ ?_
  clear hK9 K9
  refine wpX_nil ?_
  simp only [OnlyN_normal]
  refine hKK _ _ ?_
  clear hKK KK
  have hlg : ((l.length + 1 : Nat) : Int) = (l.length : Int) + 1 := by omega
  have hG : (SetMod b sn A g ∨ w.heap.size ≤ g) ∧ Moved w sn A false (some ⟨g, 0, none⟩) ∧ g ≠ w.heap.size ∧ g ≠ b := by
    rcases hat with h | h
    · rcases A1 with _ | a1
      · simp [Value.ownBlock] at h
      · obtain ⟨A', c', hv, _, _, hz⟩ := own_form2 HS2.out.row
        injection hv with hv _ _
        obtain ⟨g', rfl⟩ := hz a1 hv.symm
        have hgg : g' = g := by simpa [Value.ownBlock] using h.symm
        subst hgg
        have hne : g' ≠ b := HS2.out.row_ne (by decide) _ rfl
        rcases HM2.out with ⟨hsn, hA⟩ | ⟨_, g2, hg2, hA⟩
        · have h1 := HS.out.row_lt _ hA.symm
          exact ⟨.inl (.inr ⟨hsn.symm, _, hA.symm, rfl⟩), .inl ⟨hsn, hA⟩, by dsimp only at h1; omega, hne⟩
        · injection hA with hA
          injection hA with hA
          subst hA
          exact ⟨.inr (by omega), .inr ⟨rfl, _, by omega, rfl⟩, by omega, hne⟩
    · have hgg : g = w2.heap.size + 1 := by simpa [Value.ownBlock] using h
      subst hgg
      exact ⟨.inr (by omega), .inr ⟨rfl, _, by omega, rfl⟩, by omega, by omega⟩
  obtain ⟨hgM, hgMv, hgk1, hgb⟩ := hG
  obtain ⟨w4, hw4⟩ : ∃ w4, w4 = w3.setCell ⟨b, 0, none⟩ (.slice (some ⟨g, 0, none⟩) (l.length + 1) c2) := ⟨_, rfl⟩
  have hB4 : Blk w4 b 83 #[.slice (some ⟨g, 0, none⟩) (l.length + 1) c2, .bool false] := by rw [hw4]; exact HB3.out.set_ 0 _
  have hR4 : w4.ownsRow 0 23 3 (.slice (some ⟨g, 0, none⟩) (l.length + 1) c2) (l.length + 1) ((shiftAt l x l.length).flatMap Sym.cells) := by
    rw [hw4, shiftAt_start]
    refine ownsRow_setCell_other (a := ⟨b, 0, none⟩) ?_ (by simpa [Value.ownBlock] using hgb) _
    rw [List.flatMap_append, List.flatMap_singleton]
    exact HOWN.out
  have hF4 : Fr (SetMod b sn A) w w4 := by
    rw [hw4]
    have h1 : Fr (SetMod b sn A) w w1 := Fr.of_new (((Below.refl _ _).alloc (Nat.le_refl _) _).trans (HB1.out.mono (by simp)))
    have h2 : Fr (SetMod b sn A) w w2 := h1.trans (HF2.out.mono (fun k _ h => .inl h))
    refine ((h2.drew.alloc _).grown HGR.out (fun k hk => ?_)).setCell (p := ⟨b, 0, none⟩) (.inl (.inl rfl)) _
    rcases A1 with _ | a1
    · cases hk
    · simp only [Value.ownBlock, Option.some.injEq] at hk
      subst hk
      rcases HM2.out with ⟨hsn, hA⟩ | ⟨_, g', hg', hA⟩
      · left; right; exact ⟨hsn.symm, a1, hA.symm, rfl⟩
      · injection hA with hA
        subst hA
        right; dsimp only; omega
  have z0 : w4.cell? ⟨w.heap.size, 0, none⟩ = some (.int .i64 x.kind) := by
    rw [hw4, World.cell?_setCell_other _ _ _ _ (by intro h; injection h; omega)]
    refine HGR.out.cell ((World.cell?_alloc_lt w2.drew _ ⟨w.heap.size, 0, none⟩ hk2).trans x0) ?_
    intro h
    exact HXN (by simpa using h.symm)
  have z1 : w4.cell? ⟨w.heap.size, 1, none⟩ = some (.string x.text) := by
    rw [hw4, World.cell?_setCell_other _ _ _ _ (by intro h; injection h; omega)]
    refine HGR.out.cell ((World.cell?_alloc_lt w2.drew _ ⟨w.heap.size, 1, none⟩ hk2).trans x1) ?_
    intro h
    exact HXN (by simpa using h.symm)
  have z2 : w4.cell? ⟨w.heap.size, 2, none⟩ = some (.int .i64 x.n) := by
    rw [hw4, World.cell?_setCell_other _ _ _ _ (by intro h; injection h; omega)]
    refine HGR.out.cell ((World.cell?_alloc_lt w2.drew _ ⟨w.heap.size, 2, none⟩ hk2).trans x2) ?_
    intro h
    exact HXN (by simpa using h.symm)
  have hk4 : w.heap.size < w4.heap.size := by rw [hw4]; have := HGR.out.size; simp at this ⊢; omega
  rw [← hw4]
  have HgM := Lib.hid hgM
  have HgMv := Lib.hid hgMv
  have HB4 := Lib.hid hB4
  have HR4 := Lib.hid hR4
  have HF4 := Lib.hid hF4
  have s4 := hB4.cell 0
  have s4' : w4.cell? ⟨b, 0, none⟩ = some (.slice (some ⟨g, 0, none⟩) (l.length + 1) c2) := s4
  clear s4 hw4 hB4 hR4 hF4 hat hgM hgMv hnil x0 x1 x2 s0 f0
  go_wp2_with fail
  go_loopw [7] (fun s wr => ∃ i : Nat, s = .int .i64 i ∧ rank cmpSym l x ≤ i ∧ i ≤ l.length ∧ wr.ownsRow 0 23 3 (.slice (some ⟨g, 0, none⟩) (l.length + 1) c2) (l.length + 1) ((shiftAt l x i).flatMap Sym.cells) ∧ Fr (· = g) w4 wr) (fun s wr => (intOf s).toNat)
  case atStart => exact ⟨l.length, by go_num, hrk, Nat.le_refl _, HR4.out, Fr.refl _ _⟩
  case round =>
    obtain ⟨i, rfl, hi1, hi2, hown, hfr⟩ := hrel
    have hgw : g < wr.heap.size := (hown.lt g rfl).2
    have r0 : wr.cell? ⟨b, 0, none⟩ = some (.slice (some ⟨g, 0, none⟩) (l.length + 1) c2) := (hfr.cell (p := ⟨b, 0, none⟩) HB4.out.lt (fun h => hgb h.symm)).trans s4'
    have fz : ∀ o, wr.frozen? ⟨g, o, none⟩ = false := fun o => hown.frozenAt o
    have HOW := Lib.hid hown
    have HFR := Lib.hid hfr
    clear hown hfr
    by_cases hlt : rank cmpSym l x < i
    · obtain ⟨j, rfl⟩ : ∃ j, i = j + 1 := ⟨i - 1, by omega⟩
      have hj : j < l.length := by omega
      have hrd := ownsRow_rd (A := some ⟨g, 0, none⟩) (c := c2) (l := shiftAt l x (j + 1)) Sym.cells_length (by rw [shiftAt_length l x hi2]; exact HOW.out)
      obtain ⟨g', o', hgo, _, hcell⟩ := hrd.at_ (k := j) (by rw [shiftAt_length l x hi2]; omega)
      injection hgo with hgo
      injection hgo with hg1 hg2
      subst hg1; subst hg2
      rw [shiftAt_read l x hj] at hcell
      have q0 : wr.cell? ⟨g, j * 3, none⟩ = some (.int .i64 l[j].kind) := by simpa using hcell 0 _ rfl
      have q1 : wr.cell? ⟨g, j * 3 + 1, none⟩ = some (.string l[j].text) := by simpa using hcell 1 _ rfl
      have q2 : wr.cell? ⟨g, j * 3 + 2, none⟩ = some (.int .i64 l[j].n) := by simpa using hcell 2 _ rfl
      have rmj : Room wr g 23 (c2 * 3) ∧ l.length + 1 ≤ c2 := by
        rcases ownsRow_form HOW.out with ⟨hv, _⟩ | ⟨g', cap, hv, hn, _, hr, _⟩
        · cases hv
        · injection hv with hA _ hc
          injection hA with hA
          injection hA with hA
          subst hA; subst hc
          exact ⟨hr, hn⟩
      obtain ⟨hrm, hcap⟩ := rmj
      obtain ⟨u0, t0⟩ := hrm.cell (i := (j + 1) * 3) (by omega)
      obtain ⟨u1, t1⟩ := hrm.cell (i := (j + 1) * 3 + 1) (by omega)
      obtain ⟨u2, t2⟩ := hrm.cell (i := (j + 1) * 3 + 2) (by omega)
      have b0 : (0 : Int) ≤ (j : Int) + 1 := by omega
      have b1 : (0 : Int) ≤ (j : Int) := by omega
      have b4 : (j : Int) < (l.length : Int) := by omega
      have b2 : (j : Int) < (l.length : Int) + 1 := by omega
      have b3 : (j : Int) + 1 < (l.length : Int) + 1 := by omega
      have w1 : IntKind.i64.wrap ((j : Int)) = (j : Int) := IntWalk.i64_in _ (by omega)
      have w2 : IntKind.i64.wrap ((j : Int) + 1 - 1) = (j : Int) := by rw [IntWalk.i64_in _ (by omega)]; omega
      clear hcell hrd hrm
      obtain ⟨y, hy⟩ : ∃ y, y = l[j] := ⟨_, rfl⟩
      rw [← hy] at q0 q1 q2
      have HY := Lib.hid hy
      have hbw : b < wr.heap.size := World.block_lt_of_cell? wr _ r0
      clear hy
      go_wp2_with fail
      refine wp_region_E (fun w9 => Below wr.heap.size wr w9) [(0, 0), (1, 0), (2, 0), (3, 1), (4, 0), (5, 0), (6, 0), (7, 0), (8, 1), (9, 0), (10, 0), (11, 0), (12, 1), (13, 0), (14, 2)] (by kernel_rfl) (by kernel_rfl) (fun KK hKK => ?_)
      simp only [beside, List.filterMap_cons, List.filterMap_nil, List.getElem?_toArray, List.getElem?_cons_zero, List.getElem?_cons_succ, Option.map_some]
      repeat (first | (refine wpX_w ?_ (Or.inl ⟨by rfl, fun w9 => ?_⟩) ?_; rotate_left 1; go_simp; with_reducible rfl; simp only [Act.put, List.setIfInBounds_toArray, List.set_cons_zero, List.set_cons_succ]) | (refine wpX_l ?_ (((Below.refl _ _).drew)) (Or.inl ⟨by rfl, fun w9 hw9 => ?_⟩) ?_; rotate_left 1; obtain ⟨hc9, hf9⟩ := bcell hw9; go_simp; with_reducible rfl; simp only [Act.put, List.setIfInBounds_toArray, List.set_cons_zero, List.set_cons_succ]) | (refine wpX_w undef (Or.inr ⟨by rfl, rfl⟩) ?_; simp only [Act.put, List.setIfInBounds_toArray, List.set_cons_zero, List.set_cons_succ]) | (refine wpX_l undef (((Below.refl _ _).drew)) (Or.inr ⟨by rfl, rfl⟩) ?_; simp only [Act.put, List.setIfInBounds_toArray, List.set_cons_zero, List.set_cons_succ]))
      refine wpX_e (by kernel_rfl) (fun K9 hK9 => ?_)
      go_simp
      refine hK9 _ _ ?_
      clear hK9 K9
      refine wpX_nil ?_
      simp only [OnlyN_normal]
      refine hKK _ _ ?_
      clear hKK KK
      go_wp2_with fail
      go_roundw
      case rel =>
        refine ⟨j, by go_num, by omega, by omega, ?_, Fr.drew ((((HFR.out).setCell (p := ⟨g, (j + 1) * 3, none⟩) (.inl rfl) (_)).setCell (p := ⟨g, (j + 1) * 3 + 1, none⟩) (.inl rfl) (_)).setCell (p := ⟨g, (j + 1) * 3 + 2, none⟩) (.inl rfl) (_))⟩
        have hst := ((((((HOW.out).stored ((j + 1) * 3) (.int .i64 y.kind)).1).stored ((j + 1) * 3 + 1) (.string y.text)).1).stored ((j + 1) * 3 + 2) (.int .i64 y.n)).1
        have he : setAll ((shiftAt l x (j + 1)).flatMap Sym.cells) ((j + 1) * 3) (Sym.cells y) = (shiftAt l x j).flatMap Sym.cells := by
          rw [flat_set Sym.cells_length (by omega) _ (j + 1) (by rw [shiftAt_length l x hi2]; omega), HY.out, shiftAt_step l x hj]
        rw [← he]
        exact hst
      case measure => simp [intOf] <;> omega
    · obtain rfl : i = rank cmpSym l x := by omega
      have rmj : Room wr g 23 (c2 * 3) ∧ l.length + 1 ≤ c2 := by
        rcases ownsRow_form HOW.out with ⟨hv, _⟩ | ⟨g', cap, hv, hn, _, hr, _⟩
        · cases hv
        · injection hv with hA _ hc
          injection hA with hA
          injection hA with hA
          subst hA; subst hc
          exact ⟨hr, hn⟩
      obtain ⟨hrm, hcap⟩ := rmj
      obtain ⟨k, hk⟩ : ∃ k, k = rank cmpSym l x := ⟨_, rfl⟩
      rw [← hk] at hi2 hlt ⊢
      obtain ⟨u0, t0⟩ := hrm.cell (i := k * 3) (by omega)
      obtain ⟨u1, t1⟩ := hrm.cell (i := k * 3 + 1) (by omega)
      obtain ⟨u2, t2⟩ := hrm.cell (i := k * 3 + 2) (by omega)
      have x0 := (HFR.out.cell (p := ⟨w.heap.size, 0, none⟩) hk4 (fun h => hgk1 h.symm)).trans z0
      have x1 := (HFR.out.cell (p := ⟨w.heap.size, 1, none⟩) hk4 (fun h => hgk1 h.symm)).trans z1
      have x2 := (HFR.out.cell (p := ⟨w.heap.size, 2, none⟩) hk4 (fun h => hgk1 h.symm)).trans z2
      have b1 : (0 : Int) ≤ (k : Int) := by omega
      have b2 : (k : Int) < (l.length : Int) + 1 := by omega
      have HK := Lib.hid hk
      have hkw : w.heap.size < wr.heap.size := by have := HFR.out.size; omega
      have hbw : b < wr.heap.size := World.block_lt_of_cell? wr _ r0
      clear hrm hk z0 z1 z2
      go_wp2_with fail
      refine wp_region_E (fun w9 => Below wr.heap.size wr w9) [(0, 0), (1, 0), (2, 0), (3, 1), (4, 0), (5, 1), (6, 0), (7, 2)] (by kernel_rfl) (by kernel_rfl) (fun KK hKK => ?_)
      simp only [beside, List.filterMap_cons, List.filterMap_nil, List.getElem?_toArray, List.getElem?_cons_zero, List.getElem?_cons_succ, Option.map_some]
      repeat (first | (refine wpX_w ?_ (Or.inl ⟨by rfl, fun w9 => ?_⟩) ?_; rotate_left 1; go_simp; with_reducible rfl; simp only [Act.put, List.setIfInBounds_toArray, List.set_cons_zero, List.set_cons_succ]) | (refine wpX_l ?_ (((Below.refl _ _).drew)) (Or.inl ⟨by rfl, fun w9 hw9 => ?_⟩) ?_; rotate_left 1; obtain ⟨hc9, hf9⟩ := bcell hw9; go_simp; with_reducible rfl; simp only [Act.put, List.setIfInBounds_toArray, List.set_cons_zero, List.set_cons_succ]) | (refine wpX_w undef (Or.inr ⟨by rfl, rfl⟩) ?_; simp only [Act.put, List.setIfInBounds_toArray, List.set_cons_zero, List.set_cons_succ]) | (refine wpX_l undef (((Below.refl _ _).drew)) (Or.inr ⟨by rfl, rfl⟩) ?_; simp only [Act.put, List.setIfInBounds_toArray, List.set_cons_zero, List.set_cons_succ]))
      refine wpX_e (by kernel_rfl) (fun K9 hK9 => ?_)
      go_simp
      refine hK9 _ _ ?_
      clear hK9 K9
      refine wpX_nil ?_
      simp only [OnlyN_normal]
      refine hKK _ _ ?_
      clear hKK KK
      go_wp2_with fail
      go_ret
      have HOWk := HOW.out
      rw [← HK.out] at HOWk
      have hst := ((((((HOWk).stored (k * 3) (.int .i64 x.kind)).1).stored (k * 3 + 1) (.string x.text)).1).stored (k * 3 + 2) (.int .i64 x.n)).1
      have he : setAll ((shiftAt l x k).flatMap Sym.cells) (k * 3) (Sym.cells x) = (put cmpSym l x).flatMap Sym.cells := by
        rw [flat_set Sym.cells_length (by omega) _ k (by rw [shiftAt_length l x hi2]; omega), shiftAt_end l x hi2, put_eq tc_sym HO.out hh, HK.out]
      have hln := length_put tc_sym HO.out hh
      refine ⟨by rw [hh]; rfl, false, some ⟨g, 0, none⟩, c2, ⟨?_, ?_⟩, ?_, ?_⟩
      · rw [hln]
        exact (((HB4.out.fr HFR.out (fun h => hgb h.symm)).far (p := ⟨g, k * 3, none⟩) (fun h => hgb h.symm) _).far (p := ⟨g, k * 3 + 1, none⟩) (fun h => hgb h.symm) _).far (p := ⟨g, k * 3 + 2, none⟩) (fun h => hgb h.symm) _
      · rw [hln, ← he]
        exact hst
      · exact HF4.out.into (Fr.drew ((((HFR.out).setCell (p := ⟨g, k * 3, none⟩) (.inl rfl) (_)).setCell (p := ⟨g, k * 3 + 1, none⟩) (.inl rfl) (_)).setCell (p := ⟨g, k * 3 + 2, none⟩) (.inl rfl) (_))) (fun k hk => by subst hk; exact HgM.out)
      · exact HgMv.out

theorem put_Sym (b c : Nat) (sn : Bool) (A : Option Addr) (l : List Sym) (x : Sym) (w : World) (hS : SymSet w b sn A c l) (hs : Srt cmpSym l) (hl : (l.length : Int) ≤ 100000000) :
    Calls Try.prog 50 #[.pointer (some ⟨b, 0, none⟩), .agg #[.int .i64 x.kind, .string x.text, .int .i64 x.n]] w (PutPostSym w b sn A l x) := by
  cases hh : has cmpSym l x
  · exact put_new_Sym b c sn A l x w hS hs hl hh
  · exact put_there_Sym b c sn A l x w hS hs hl hh
end Go.Proofs.Ytlkffnmmphehdaa

namespace Go.Proofs.Ytlkffnmmphehdaa
open Go.RowKit

set_option maxHeartbeats 400000 in
theorem len_Sym (b c : Nat) (sn : Bool) (A : Option Addr) (l : List Sym) (w : World) (hS : SymSet w b sn A c l) :
    Calls Try.prog 51 #[.pointer (some ⟨b, 0, none⟩)] w fun e w' => e = .returned (.int .i64 l.length) ∧ w = w' := by
  have s0 := hS.cell0
  clear hS
  go_enter Try.func51, Try.ntmps51
  go_wp2
  go_ret
  exact ⟨rfl, rfl⟩

set_option maxRecDepth 100000 in
set_option maxHeartbeats 400000 in
theorem place_Sym (b c : Nat) (sn : Bool) (A : Option Addr) (l : List Sym) (x : Sym) (w : World) (hS : SymSet w b sn A c l) (hs : Srt cmpSym l) (hl : (l.length : Int) ≤ 1000000000) :
    Calls Try.prog 55 #[.pointer (some ⟨b, 0, none⟩), .agg #[.int .i64 x.kind, .string x.text, .int .i64 x.n]] w (FoundSym l x w) := by
  have HS := Lib.hid hS
  have HO := Lib.hid hs
  clear hS hs
  go_enter Try.func55, Try.ntmps55
  go_wp2_with fail
  refine (find_Sym b c sn A l x _ (HS.out.new_ ((Below.refl _ _).alloc (Nat.le_refl _) _)) HO.out (by omega)).mono ?_
  rintro e w1 ⟨rfl, hb1⟩
  go_wp2_with fail
  go_ret2
  exact ⟨rfl, ((Below.refl _ _).alloc (Nat.le_refl _) _).trans (hb1.mono (by simp))⟩

/-- Behind Clone: two sets over one list, each marked as seen. -/
def ClonePostSym (w : World) (b : Nat) (A : Option Addr) (c : Nat) (l : List Sym) (e : Ending) (w' : World) : Prop :=
  ∃ k, e = .returned (.pointer (some ⟨k, 0, none⟩)) ∧ w.heap.size ≤ k ∧ SymSet w' b true A c l ∧ SymSet w' k true A c l ∧ Fr (· = b) w w'
set_option maxRecDepth 100000 in
set_option maxHeartbeats 1000000 in
theorem clone_Sym (b c : Nat) (sn : Bool) (A : Option Addr) (l : List Sym) (w : World) (hS : SymSet w b sn A c l) :
    Calls Try.prog 58 #[.pointer (some ⟨b, 0, none⟩)] w (ClonePostSym w b A c l) := by
  have s0 := hS.cell0
  have s1 := hS.cell1
  have f1 := hS.blk.frozen 1
  have hb := hS.lt
  have HS := Lib.hid hS
  clear hS
  go_enter Try.func58, Try.ntmps58
  go_wp2
  go_ret
  have h1 : SymSet (w.setCell ⟨b, 1, none⟩ (.bool true)) b true A c l := ⟨HS.out.blk.set_ 1 _, ownsRow_setCell_other HS.out.row (own_blk_ne HS.out.row HS.out.blk (by decide)) _⟩
  refine ⟨w.heap.size, by simp, Nat.le_refl _, h1.new_ ((Below.refl _ _).alloc (Nat.le_refl _) _), ⟨?_, ownsRow_new h1.row ((Below.refl _ _).alloc (Nat.le_refl _) _)⟩, ((Fr.refl (· = b) w).setCell (p := ⟨b, 1, none⟩) (.inl rfl) _).alloc _⟩
  have h2 := Blk.new (w.setCell ⟨b, 1, none⟩ (.bool true)) 83 #[.slice A l.length c, .bool true]
  simpa using h2
end Go.Proofs.Ytlkffnmmphehdaa

namespace Go.Proofs.Ytlkffnmmphehdaa
open Go.RowKit
/-- Behind New: a set in new memory. -/
def NewPostSym (w : World) (xs : List Sym) (e : Ending) (w' : World) : Prop :=
  ∃ k, e = .returned (.pointer (some ⟨k, 0, none⟩)) ∧ w.heap.size ≤ k ∧ ∃ sn A c, SymSet w' k sn A c (puts cmpSym [] xs) ∧ AIn A (w.heap.size ≤ ·) ∧ Below w.heap.size w w'
set_option maxRecDepth 100000 in
set_option maxHeartbeats 2000000 in
theorem new_Sym (A : Option Addr) (c : Nat) (xs : List Sym) (w : World) (hrd : RowRd w 3 Sym.cells A c xs) (hl : (xs.length : Int) ≤ 10000000) :
    Calls Try.prog 48 #[.slice A xs.length c] w (NewPostSym w xs) := by
  have HRD := Lib.hid hrd
  clear hrd
  go_enter Try.func48, Try.ntmps48
  go_wp2_with fail
  obtain ⟨W0, hW0⟩ : ∃ W0, W0 = w.alloc (.cells #[.slice none 0 0, .bool false] 83) := ⟨_, rfl⟩
  have hb0 : Below w.heap.size w W0 := by rw [hW0]; exact (Below.refl _ _).alloc (Nat.le_refl _) _
  have hS0 : SymSet W0 w.heap.size false none 0 [] := ⟨by rw [hW0]; exact Blk.new _ _ _, ⟨by simp, .inl ⟨rfl, rfl⟩⟩⟩
  rw [← hW0]
  clear hW0
  have HB0 := Lib.hid hb0
  have HS0 := Lib.hid hS0
  clear hb0 hS0
  go_loopw [10] (fun s wr => ∃ i : Nat, s = .int .i64 i ∧ i ≤ xs.length ∧ ∃ sn A' c', SymSet wr w.heap.size sn A' c' (puts cmpSym [] (xs.take i)) ∧ AIn A' (w.heap.size ≤ ·) ∧ Below w.heap.size w wr) (fun s wr => xs.length - (intOf s).toNat)
  case atStart => exact ⟨0, rfl, Nat.zero_le _, false, none, 0, HS0.out, AIn.none_ _, HB0.out⟩
  case round =>
    obtain ⟨i, rfl, hi, sn, A', c', hS, hA', hB⟩ := hrel
    have HS := Lib.hid hS
    have HA := Lib.hid hA'
    have HB := Lib.hid hB
    clear hS hA' hB
    by_cases hlt : i < xs.length
    · obtain ⟨x, hx⟩ : ∃ x, x = xs[i] := ⟨_, rfl⟩
      obtain ⟨g, off, rfl, hgs, hcell⟩ := (HRD.out.fr (Fr.of_new (M := fun _ => False) HB.out) (fun _ _ h => h)).at_ hlt
      rw [← hx] at hcell
      have q0 : wr.cell? ⟨g, off + i * 3, none⟩ = some (.int .i64 x.kind) := by simpa using hcell 0 _ rfl
      have q1 : wr.cell? ⟨g, off + i * 3 + 1, none⟩ = some (.string x.text) := by simpa using hcell 1 _ rfl
      have q2 : wr.cell? ⟨g, off + i * 3 + 2, none⟩ = some (.int .i64 x.n) := by simpa using hcell 2 _ rfl
      have b1 : (0 : Int) ≤ (i : Int) := by omega
      have b2 : (i : Int) < (xs.length : Int) := by omega
      have HX := Lib.hid hx
      clear hcell hx
      go_wp2_with fail
      have hsr := Srt.puts tc_sym (xs.take i) (Srt.nil (cmp := cmpSym))
      have hlen : (((puts cmpSym [] (xs.take i)).length : Nat) : Int) ≤ 100000000 := by
        have := length_puts_le tc_sym (xs.take i) (Srt.nil (cmp := cmpSym))
        simp at this
        omega
      refine (put_Sym w.heap.size c' sn A' _ x _ (HS.out.new_ ((Below.refl _ _).alloc (Nat.le_refl _) _)) hsr hlen).mono ?_
      rintro e w1 ⟨rfl, sn2, A2, c2, hS2, hF2, hM2⟩
      have hB1 : Below w.heap.size w w1 := (HB.out.alloc HB.out.size _).trans (hF2.below (by have := HB.out.size; (try simp); omega) (fun k hk hm => by
        rcases hm with hm | ⟨_, a, ha, hm⟩
        · omega
        · have := HA.out a ha; omega))
      have hA2 : AIn A2 (w.heap.size ≤ ·) := by
        rcases hM2 with ⟨_, rfl⟩ | ⟨_, g2, hg2, rfl⟩
        · exact HA.out
        · intro a ha; cases ha; have := HB.out.size; (try simp at hg2 ⊢); omega
      have HS2 := Lib.hid hS2
      have HB1 := Lib.hid hB1
      have HA2 := Lib.hid hA2
      clear hS2 hB1 hA2 hF2 hM2 hsr hlen q0 q1 q2
      go_wp2_with fail
      go_roundw
      case rel =>
        refine ⟨i + 1, by go_num, by omega, sn2, A2, c2, ?_, HA2.out, HB1.out⟩
        rw [List.take_add_one, List.getElem?_eq_getElem hlt, ← HX.out]
        simp only [Option.toList_some, puts_snoc]
        exact HS2.out
      case measure => simp [intOf] <;> omega
    · have hie : i = xs.length := by omega
      subst hie
      go_wp2_with fail
      go_ret
      refine ⟨w.heap.size, rfl, Nat.le_refl _, sn, A', c', ?_, HA.out, HB.out⟩
      have := HS.out
      rwa [List.take_length] at this
end Go.Proofs.Ytlkffnmmphehdaa

namespace Go.Proofs.Ytlkffnmmphehdaa
open Go.RowKit Go.Shelf

/-- The row that an iterator reads lies as it lay. -/
def RowKeep (A : Option Addr) (W W' : World) : Prop := W.heap.size ≤ W'.heap.size ∧ ∀ a, A = some a → a.block < W.heap.size → W'.heap[a.block]? = W.heap[a.block]?
theorem RowKeep.trans {A : Option Addr} {X Y Z : World} (h : RowKeep A X Y) (k : RowKeep A Y Z) : RowKeep A X Z := ⟨Nat.le_trans h.1 k.1, fun a e hl => (k.2 a e (Nat.lt_of_lt_of_le hl h.1)).trans (h.2 a e hl)⟩
theorem RowKeep.of_priv {A : Option Addr} {B : Nat} {X Y : World} (hA : AIn A (· < B)) (h : Priv B X Y) : RowKeep A X Y := ⟨h.size, fun a e hl => h.block _ hl (.inl (hA a e))⟩
theorem RowKeep.of_below {A : Option Addr} {B : Nat} {X Y : World} (hA : AIn A (· < B)) (h : Below B X Y) : RowKeep A X Y := ⟨h.size, fun a e _ => h.block _ (hA a e)⟩
theorem RowKeep.rd {α : Type} {size c : Nat} {cells : α → List Value} {A : Option Addr} {l : List α} {W W' : World} (hk : RowKeep A W W') (h : RowRd W size cells A c l) : RowRd W' size cells A c l :=
  h.keep hk.1 (fun p hp ⟨a, ha, hb⟩ => World.cell?_of_block (by rw [← hb]; exact hk.2 a ha (by rw [hb]; exact hp)))
/-- What such an iterator does ahead of the first round: it may make new memory; the set is marked as seen. -/
def SeenStart (b : Nat) (X Y : World) : Prop := ∃ X1, Below X.heap.size X X1 ∧ Y = X1.setCell ⟨b, 1, none⟩ (.bool true)
theorem SeenStart.keeps {b B : Nat} {X Y : World} (h : SeenStart b X Y) : KeepsFrom B X Y := by
  obtain ⟨X1, hb, rfl⟩ := h
  refine KeepsFrom.set_ ⟨hb.size, fun k o _ hk _ => (hb.block k (Array.getElem?_eq_some_iff.1 hk).1).trans hk⟩ _ _
theorem SeenStart.set_ {α : Type} {tSet tE size : Nat} {cells : α → List Value} {W W1 : World} {b : Nat} {sn : Bool} {A : Option Addr} {c : Nat} {l : List α} (h : SeenStart b W W1) (hS : SetAt tSet tE size cells W b sn A c l) (hne : tE ≠ tSet) : SetAt tSet tE size cells W1 b true A c l := by
  obtain ⟨X1, hb, rfl⟩ := h
  refine ⟨(hS.new_ hb).blk.set_ 1 _, ownsRow_setCell_other (hS.new_ hb).row ?_ _⟩
  exact own_blk_ne hS.row hS.blk hne
theorem SeenStart.fr {b : Nat} {W W1 : World} (h : SeenStart b W W1) : Fr (· = b) W W1 := by
  obtain ⟨X1, hb, rfl⟩ := h
  exact (Fr.of_new (M := (· = b)) hb).setCell (p := ⟨b, 1, none⟩) (.inl rfl) _
/-- What is asked of the rounds. -/
abbrev Rounds {α : Type} (lo : Nat) (encs : α → Array Value) (xs : List α) (Kp : World → World → Prop) (J Jx : List α → World → Prop) : Prop :=
  ∀ pre x post W1, xs = pre ++ x :: post → J pre W1 → YieldAt Fence.wide 0 Try.prog lo (encs x) W1 fun e W' =>
      (e = .returned (.bool true) ∧ J (pre ++ [x]) W' ∧ Kp W1 W') ∨ (e = .returned (.bool false) ∧ Jx (pre ++ [x]) W')
abbrev Told {α : Type} (xs : List α) (J Jx : List α → World → Prop) (e : Ending) (W' : World) : Prop := (∃ v, e = .returned v) ∧ (J xs W' ∨ ∃ pre post, xs = pre ++ post ∧ Jx pre W')
end Go.Proofs.Ytlkffnmmphehdaa

namespace Go.Proofs.Ytlkffnmmphehdaa
open Go.RowKit Go.Shelf
attribute [local go_sem] Oper.semAt_some
/-- In every world that is w with new memory beside it, the function value gf, lb yields xs. -/
structure Seq {α : Type} (gf : Nat) (lb : Array Value) (encs : α → Array Value) (xs : List α) (w : World) (start Kp : World → World → Prop) : Prop where
  enter : ∀ args w, (callFunc gf args).run Try.prog w = .ok (.enter gf args) w
  iter : ∀ W, Below w.heap.size w W → Iter Try.prog gf lb encs xs W start (fun X Y => Kp X Y ∧ KeepsFrom W.heap.size X Y)
  trans : ∀ A B C, Kp A B → Kp B C → Kp A C
  keep : ∀ A B, Priv w.heap.size A B → Kp A B
  below : ∀ A B, Below w.heap.size A B → Kp A B
  mods : ∀ W W1, start W W1 → Fr (· < w.heap.size) W W1
theorem keepsFrom_of_fr {B : Nat} {X Y : World} (h : Fr (· < B) X Y) : KeepsFrom B X Y := ⟨h.size, fun k _ hB hk _ => (h.block k (Array.getElem?_eq_some_iff.1 hk).1 (by omega)).trans hk⟩
theorem keepsFrom_of_below {B C : Nat} {X Y : World} (h : Below B X Y) (hs : X.heap.size ≤ B) : KeepsFrom C X Y := ⟨h.size, fun k _ _ hk _ => (h.block k (Nat.lt_of_lt_of_le (Array.getElem?_eq_some_iff.1 hk).1 hs)).trans hk⟩
theorem owns_base {W : World} {base base' : Nat} {e : TypeId} {size : Nat} {v : Value} {n : Nat} {xs : List Value} (h : W.ownsRow base e size v n xs) (hb : base' ≤ base) : W.ownsRow base' e size v n xs :=
  ⟨h.1, h.2.imp id fun ⟨g, cap, cur, hv, h0, hg, hr⟩ => ⟨g, cap, cur, hv, Nat.le_trans hb h0, hg, hr⟩⟩
theorem owns_form {W : World} {base : Nat} {e : TypeId} {size : Nat} {v : Value} {n : Nat} {xs : List Value} (h : W.ownsRow base e size v n xs) : ∃ A c, v = .slice A n c ∧ AIn A (base ≤ ·) := by
  rcases h.2 with ⟨rfl, rfl⟩ | ⟨g, cap, cur, rfl, h0, _⟩
  · exact ⟨none, 0, rfl, AIn.none_ _⟩
  · exact ⟨_, cap, rfl, fun a e => by cases e; exact h0⟩
theorem owns_block {W : World} {base : Nat} {e : TypeId} {size : Nat} {v : Value} {n : Nat} {xs : List Value} (h : W.ownsRow base e size v n xs) : ∀ k, v.ownBlock = some k → base ≤ k := by
  rcases h.2 with ⟨rfl, rfl⟩ | ⟨g, cap, cur, rfl, h0, _⟩
  · intro k hk; cases hk
  · intro k hk; cases hk; exact h0
theorem owns_below {W W' : World} {base : Nat} {e : TypeId} {size : Nat} {v : Value} {n : Nat} {xs : List Value} (h : W.ownsRow base e size v n xs) (hb : Below W.heap.size W W') : W'.ownsRow base e size v n xs :=
  ⟨h.1, h.2.imp id fun ⟨g, cap, cur, hv, h0, hg, hr⟩ => ⟨g, cap, cur, hv, h0, Blk.new_ (t := e) hg hb, hr⟩⟩
theorem KeepsFrom.grown_ {B : Nat} {X Y Z : World} {row : Option Nat} (h : KeepsFrom B X Y) (hg : Y.grownBy Z row) (hr : ∀ k, row = some k → k < X.heap.size → cellsAt X k) : KeepsFrom B X Z :=
  ⟨Nat.le_trans h.size hg.size, fun k o hB hk hc => by
    have hlt := (Array.getElem?_eq_some_iff.1 hk).1
    refine (hg.block k (Nat.lt_of_lt_of_le hlt h.size) (fun e => ?_)).trans (h.same k o hB hk hc)
    obtain ⟨c, t, f, hh⟩ := hr k e.symm hlt
    rw [hh] at hk
    cases hk
    cases hc⟩
theorem owns_cells {W : World} {base : Nat} {e : TypeId} {size : Nat} {v : Value} {n : Nat} {xs : List Value} (h : W.ownsRow base e size v n xs) : ∀ k, v.ownBlock = some k → cellsAt W k := by
  rcases h.2 with ⟨rfl, rfl⟩ | ⟨g, cap, cur, rfl, h0, hg, _⟩
  · intro k hk; cases hk
  · intro k hk; cases hk; exact ⟨_, _, _, hg⟩
theorem owns_nil (W : World) (base : Nat) (e : TypeId) (size : Nat) : W.ownsRow base e size (.slice none 0 0) 0 [] := ⟨by simp, .inl ⟨rfl, rfl⟩⟩
theorem Seq.new_ {α : Type} {gf : Nat} {lb : Array Value} {encs : α → Array Value} {xs : List α} {w w' : World} {start Kp : World → World → Prop} (h : Seq gf lb encs xs w start Kp) (hb : Below w.heap.size w w') : Seq gf lb encs xs w' start Kp :=
  ⟨h.enter, fun W hW => h.iter W (hb.trans (hW.mono hb.size)), h.trans, fun A B hp => h.keep A B (hp.mono hb.size), fun A B hp => h.below A B (hp.mono hb.size), fun W W1 hs => (h.mods W W1 hs).mono (fun _ _ hk => Nat.lt_of_lt_of_le hk hb.size)⟩
end Go.Proofs.Ytlkffnmmphehdaa

namespace Go.Proofs.Ytlkffnmmphehdaa
open Go.RowKit Go.Shelf
attribute [local go_sem] Oper.semAt_some
/-- How an element is handed to a round. -/
def encSym (x : Sym) : Array Value := #[.agg #[.int .i64 x.kind, .string x.text, .int .i64 x.n]]

set_option maxRecDepth 100000 in
set_option maxHeartbeats 2000000 in
theorem from_Sym (lo b c k : Nat) (sn : Bool) (A : Option Addr) (l : List Sym) (W : World) (hS : SymSet W b sn A c l) (hk : k ≤ l.length) (J Jx : List Sym → World → Prop)
    (h0 : J [] (W.setCell ⟨b, 1, none⟩ (.bool true))) (hY : Rounds lo encSym (l.drop k) (RowKeep A) J Jx) :
    CallsIn Fence.wide 0 Try.prog 67 #[.pointer (some ⟨b, 0, none⟩), .int .i64 k, .func (.yield lo) #[] #[]] W (Told (l.drop k) J Jx) := by
  have s0 := hS.cell0
  have s1 := hS.cell1
  have f1 := hS.blk.frozen 1
  have hne := own_blk_ne hS.row hS.blk (by decide)
  have hrd : RowRd (W.setCell ⟨b, 1, none⟩ (.bool true)) 3 Sym.cells A c l := ownsRow_rd Sym.cells_length (ownsRow_setCell_other hS.row hne _)
  have hlm : (l.length : Int) ≤ 9223372036854775807 := by have := hrd.cap; omega
  have HRD := Lib.hid hrd
  have H0 := Lib.hid h0
  have HY := Lib.hid hY
  clear hS hrd h0 hY hne
  refine callsIn_of_wp Try.func67 rfl trivial ?_
  simp only [Try.ntmps67, List.size_toArray, List.length_cons, List.length_nil, Nat.reduceAdd, Nat.reduceSub, Array.replicate_succ, Array.replicate_zero, List.push_toArray, List.append_toArray, List.nil_append, List.cons_append]
  gi_wp2
  gi_loopw [7] (fun s wr => ∃ pre post, s = .int .i64 ((k + pre.length : Nat) : Int) ∧ l.drop k = pre ++ post ∧ J pre wr ∧ RowRd wr 3 Sym.cells A c l) (fun s wr => l.length - (intOf s).toNat)
  case atStart => exact ⟨[], l.drop k, by simp, by simp, H0.out, HRD.out⟩
  case round =>
    obtain ⟨pre, post, rfl, hx, hJ, hrd⟩ := hrel
    have hlen : k + pre.length + post.length = l.length := by have := congrArg List.length hx; simp at this; omega
    have HX := Lib.hid hx
    have HJ := Lib.hid hJ
    have HR := Lib.hid hrd
    clear hx hJ hrd
    cases post with
    | nil =>
      have e1 : ((k + pre.length : Nat) : Int) = (l.length : Int) := by simp at hlen; omega
      rw [e1]
      clear hlen e1
      gi_wp2
      go_end0
      exact ⟨⟨_, rfl⟩, .inl (by have := HX.out; rw [List.append_nil] at this; rw [this]; exact HJ.out)⟩
    | cons x post =>
      obtain ⟨m, hm⟩ : ∃ m, m = k + pre.length := ⟨_, rfl⟩
      have hml : m < l.length := by simp at hlen; omega
      have hget : l[m] = x := by
        apply Option.some.inj
        rw [← List.getElem?_eq_getElem, hm, ← List.getElem?_drop, HX.out]
        simp
      obtain ⟨g, off, rfl, hgs, hcell⟩ := HR.out.at_ hml
      rw [hget] at hcell
      have q0 : wr.cell? ⟨g, off + m * 3, none⟩ = some (.int .i64 x.kind) := by simpa using hcell 0 _ rfl
      have q1 : wr.cell? ⟨g, off + m * 3 + 1, none⟩ = some (.string x.text) := by simpa using hcell 1 _ rfl
      have q2 : wr.cell? ⟨g, off + m * 3 + 2, none⟩ = some (.int .i64 x.n) := by simpa using hcell 2 _ rfl
      have b1 : (0 : Int) ≤ (m : Int) := by omega
      have b2 : (m : Int) < (l.length : Int) := by omega
      rw [← hm]
      have HM := Lib.hid hm
      clear hcell hget hlen hm
      obtain ⟨fn, tmps, assign, body, hy, hR⟩ := HY.out pre x post wr HX.out HJ.out
      dsimp only [encSym] at hy
      have HRR := Lib.hid hR
      clear hR
      gi_wp2_with fail
      refine ⟨rfl, HRR.out.mono ?_⟩
      rintro e W3 (⟨rfl, hJ3, hk3⟩ | ⟨rfl, hJx3⟩)
      · have HJ3 := Lib.hid hJ3
        have HK3 := Lib.hid hk3
        clear hJ3 hk3 hy q0 q1 q2
        gi_wp2
        go_roundw
        case rel => exact ⟨pre ++ [x], post, by rw [HM.out, List.length_append, List.length_singleton]; go_num, by rw [HX.out]; simp, HJ3.out, HK3.out.rd HR.out⟩
        case measure => simp [intOf] <;> omega
      · have HJ3 := Lib.hid hJx3
        clear hJx3 hy q0 q1 q2
        gi_wp2
        refine bodyPost_ret (results_none rfl _ _ _) rfl ?_
        exact ⟨⟨_, rfl⟩, .inr ⟨pre ++ [x], post, by rw [HX.out]; simp, HJ3.out⟩⟩
set_option maxRecDepth 100000 in
set_option maxHeartbeats 2000000 in
theorem all_Sym (kb b c : Nat) (sn : Bool) (A : Option Addr) (l : List Sym) (W : World) (hbox : W.cell? ⟨kb, 0, none⟩ = some (.pointer (some ⟨b, 0, none⟩))) (hS : SymSet W b sn A c l) :
    Iter Try.prog 66 #[.pointer (some ⟨kb, 0, none⟩)] encSym l W (SeenStart b) (RowKeep A) := by
  intro lo J Jx _ _ h0 hY
  have H0 := Lib.hid (h0 (W.setCell ⟨b, 1, none⟩ (.bool true)) ⟨W, Below.refl _ _, rfl⟩)
  have HY := Lib.hid hY
  have HS := Lib.hid hS
  clear h0 hY hS
  refine callsIn_of_wp Try.func66 rfl trivial ?_
  simp only [Try.ntmps66, List.size_toArray, List.length_cons, List.length_nil, Nat.reduceAdd, Nat.reduceSub, Array.replicate_succ, Array.replicate_zero, List.push_toArray, List.append_toArray, List.nil_append, List.cons_append]
  gi_wp2_with fail
  have hz : ((0 : Nat) : Int) = 0 := rfl
  refine ⟨trivial, rfl, ?_⟩
  refine (from_Sym lo b c 0 sn A l W HS.out (Nat.zero_le _) J Jx H0.out (by rw [List.drop_zero]; exact HY.out)).mono ?_
  rintro e W3 ⟨⟨v, rfl⟩, h⟩
  rw [List.drop_zero] at h
  have H := Lib.hid h
  clear h
  gi_wp2
  go_end0
  exact ⟨⟨_, rfl⟩, H.out⟩
end Go.Proofs.Ytlkffnmmphehdaa

namespace Go.Proofs.Ytlkffnmmphehdaa
open Go.RowKit Go.Shelf
attribute [local go_sem] Oper.semAt_some

set_option maxHeartbeats 400000 in
/-- All makes a box for the pointer, and tells the function value. -/
theorem mkall_Sym (b : Nat) (w : World) :
    Calls Try.prog 52 #[.pointer (some ⟨b, 0, none⟩)] w fun e w' => e = .returned (.func (.func 66) #[] #[.pointer (some ⟨w.heap.size, 0, none⟩)]) ∧ Below w.heap.size w w' ∧ w'.cell? ⟨w.heap.size, 0, none⟩ = some (.pointer (some ⟨b, 0, none⟩)) := by
  go_enter Try.func52, Try.ntmps52
  go_wp2
  go_ret
  exact ⟨rfl, (Below.refl _ _).alloc (Nat.le_refl _) _, by go_simp⟩
theorem seq_all_Sym (kb b c : Nat) (sn : Bool) (A : Option Addr) (l : List Sym) (w : World) (hbox : w.cell? ⟨kb, 0, none⟩ = some (.pointer (some ⟨b, 0, none⟩))) (hS : SymSet w b sn A c l) :
    Seq 66 #[.pointer (some ⟨kb, 0, none⟩)] encSym l w (SeenStart b) (RowKeep A) :=
  ⟨by intro args w; kernel_rfl, fun W hW => (all_Sym kb b c sn A l W ((hW.cell (World.block_lt_of_cell? _ _ hbox)).trans hbox) (hS.new_ hW)).weak (fun _ _ h => h.1), fun _ _ _ => RowKeep.trans, fun _ _ => RowKeep.of_priv hS.row_lt, fun _ _ => RowKeep.of_below hS.row_lt, fun _ _ h => h.fr.mono (fun k _ hk => by subst hk; exact hS.lt)⟩

/-- Behind List: the row in new memory; the sequence's own doing. -/
def ListPostSym (w : World) (start : World → World → Prop) (xs : List Sym) (e : Ending) (w' : World) : Prop :=
  ∃ A c, e = .returned (.slice A xs.length c) ∧ w'.ownsRow 0 23 3 (.slice A xs.length c) xs.length (xs.flatMap Sym.cells) ∧ AIn A (w.heap.size ≤ ·) ∧ ∃ W1 W2, Below w.heap.size w W1 ∧ start W1 W2 ∧ Below w.heap.size W2 w'
set_option maxRecDepth 100000 in
set_option maxHeartbeats 2000000 in
theorem list_Sym (gf : Nat) (lb : Array Value) (xs : List Sym) (w : World) (start Kp : World → World → Prop) (hq : Seq gf lb encSym xs w start Kp) (hl : (xs.length : Int) ≤ 100000000) :
    Calls Try.prog 33 #[.func (.func gf) #[] lb] w (ListPostSym w start xs) := by
  refine (callsIn_wide (n := 0)).1 ?_
  refine callsIn_of_wp_marks Try.func33 rfl trivial ?_
  simp only [Try.ntmps33, List.size_toArray, List.length_cons, List.length_nil, Nat.reduceAdd, Nat.reduceSub, Array.replicate_succ, Array.replicate_zero, List.push_toArray, List.append_toArray, List.nil_append, List.cons_append]
  have hbe : ∀ W, (binOp .eql 55 (.func (.func gf) #[] lb) .nilFunc).run Try.prog W = .ok (.bool false) W := fun W => by kernel_rfl
  gi_wp2_with fail
  obtain ⟨W0, hW0⟩ : ∃ W0, W0 = w.alloc (.cells #[.slice none 0 0] 39) := ⟨_, rfl⟩
  have hb0 : Below w.heap.size w W0 := by rw [hW0]; exact (Below.refl _ _).alloc (Nat.le_refl _) _
  have hz0 : W0.heap.size = w.heap.size + 1 := by rw [hW0]; simp
  have hB0 : Blk W0 w.heap.size 39 #[.slice none 0 0] := by rw [hW0]; exact Blk.new _ _ _
  rw [← hW0]
  clear hW0
  have hq0 := hq.new_ hb0
  obtain ⟨i0, hi, hi0, hi1, hi2⟩ := info_parts info_Sym
  obtain ⟨I, hI⟩ : ∃ I : List Sym → World → Prop, I = fun p W => ∃ v, Blk W w.heap.size 39 #[v] ∧ W.ownsRow (w.heap.size + 1) 23 3 v p.length (p.flatMap Sym.cells) ∧ ∃ W1 W2, Below w.heap.size w W1 ∧ start W1 W2 ∧ Below w.heap.size W2 W := ⟨_, rfl⟩
  have hIP : ∀ p X Y, I p X → Priv W0.heap.size X Y → I p Y := by
    subst hI
    rintro p X Y ⟨v, h1, h2, W1, W2, h3, h4, h5⟩ hp
    exact ⟨v, h1.priv hp, ownsRow_priv h2 hp, W1, W2, h3, h4, Below.priv' h5 hp (by omega) (Nat.le_of_lt h1.lt)⟩
  refine wpIn_range (w := W0) (by rfl) hq0.enter hq0.iter (fun x => by rfl) hq0.trans hq0.keep (fun W W1 h => keepsFrom_of_fr (hq0.mods W W1 h)) I (fun _ _ _ => False) hIP (fun _ _ _ _ h => h.elim) ?_ ?_ ?_ ?_
  · intro W W1 hW hs
    subst hI
    refine ⟨.slice none 0 0, (hB0.new_ hW).fr (hq.mods W W1 hs) (Nat.lt_irrefl _), owns_nil _ _ _ _, W, W1, hb0.trans (hW.mono (by omega)), hs, Below.refl _ _⟩
  · intro lo pre x post W hx hlo hIW
    have hx' : xs.length = pre.length + (post.length + 1) := by rw [hx]; simp
    have HX := Lib.hid hx
    clear hx
    rw [hI] at hIW
    obtain ⟨v, h1, h2, W1, W2, h3, h4, h5⟩ := hIW
    have HH := Lib.hid (⟨h3, h4, h5⟩ : Below w.heap.size w W1 ∧ start W1 W2 ∧ Below w.heap.size W2 W)
    clear h3 h4 h5
    have hlt := h1.lt
    have HI := Lib.hid hI
    have HB := Lib.hid h1
    have HO := Lib.hid h2
    have HQW := Lib.hid hq
    clear h1 h2 hq hq0 hIP hI hbe hb0 hB0
    simp only [encSym, Array.zip]
    gi_wp2_with fail
    refine ⟨KeepsFrom.alloc_ (KeepsFrom.of_fr (Fr.refl (fun _ => False) W) (fun _ h => h.elim) _) _, fun W3 hp3 hz3 _ => ?_⟩
    have hx3 : Blk W3 W.heap.size 23 #[Value.int IntKind.i64 x.kind, Value.string x.text, Value.int IntKind.i64 x.n] := (Blk.new W 23 #[Value.int IntKind.i64 x.kind, Value.string x.text, Value.int IntKind.i64 x.n]).priv hp3
    have x0 := hx3.cell 0
    have x1 := hx3.cell 1
    have x2 := hx3.cell 2
    simp only [List.getElem?_toArray, List.getElem?_cons_zero, List.getElem?_cons_succ] at x0 x1 x2
    have HX3 := Lib.hid hx3
    have hB3 : Blk W3 w.heap.size 39 #[v] := (HB.out.alloc _).priv hp3
    have hO3 : W3.ownsRow (w.heap.size + 1) 23 3 v pre.length (pre.flatMap Sym.cells) := ownsRow_priv (owns_below HO.out ((Below.refl _ _).alloc (Nat.le_refl _) _)) hp3
    have hF3 : Fr (fun k => W0.heap.size ≤ k) W W3 := ((Fr.refl _ W).alloc _).into (Fr.of_priv hp3) (fun k hk => .inl hk)
    have p0 := hB3.cell 0
    have f0 := hB3.frozen 0
    have hsz3 : W3.heap.size = W.heap.size + 1 := by rw [hz3]; simp
    have HZ3 := Lib.hid hsz3
    clear hsz3
    have HB3 := Lib.hid hB3
    have HO3 := Lib.hid hO3
    have HP3 := Lib.hid hp3
    have HF3 := Lib.hid hF3
    clear hB3 hO3 hp3 hF3 hx3 hz3
    simp only [List.getElem?_toArray, List.getElem?_cons_zero] at p0
    gi_wp2_with (gi_at_builtin; refine wpListIn_append_own _ rfl _ _ 39 rfl (w.heap.size + 1) 23 i0 _ 3 32 Try.underlying39 hi hi0 hi1 hi2 rfl (by decide) v pre.length (pre.flatMap Sym.cells) rfl (owns_below HO3.out ((Below.refl _ _).alloc (Nat.le_refl _) _)) ⟨W3.heap.size, 0, none⟩ 1 1 (Sym.cells x) rfl rfl (World.news_of_block (heap_alloc_new _ _)) (Sym.one x) (by unfold maxLen; omega) (by omega) (by have := HZ3.out; simp; omega) ?_; intro v' w4 hown hg hnil; obtain ⟨A', c', rfl, hA'⟩ := owns_form hown; have hB4 := (HB3.out.alloc (.cells #[Value.int IntKind.i64 x.kind, Value.string x.text, Value.int IntKind.i64 x.n] 23)).grown hg (fun h => absurd (owns_block HO3.out _ h) (by omega)); have p4 := (hB4.cell 0).trans rfl; have f4 := hB4.frozen 0; have HB4 := Lib.hid hB4; have HG := Lib.hid hg; have HO4 := Lib.hid hown; clear hB4 hg hown hnil p0 f0)
    have hI := HI.out
    subst hI
    obtain ⟨h3, h4, h5⟩ := HH.out
    have hbl : Below (w.heap.size + 1) W w4 := ((Fr.below HF3.out (by omega) (fun k hk h => by omega) : Below (w.heap.size + 1) W W3).alloc (by have := HZ3.out; omega) _).grown HG.out (by have := HZ3.out; simp; omega) (fun k hk => owns_block HO3.out k hk)
    have hbl2 : Below w.heap.size W (w4.setCell ⟨w.heap.size, 0, none⟩ (.slice A' (pre.length + 1) c')) := (hbl.mono (by omega)).setCell (by simp) _
    refine ⟨KeepsFrom.set_ (KeepsFrom.grown_ (KeepsFrom.alloc_ (KeepsFrom.of_fr (Fr.refl (fun _ => False) W3) (fun _ h => h.elim) _) _) HG.out (fun k e _ => owns_cells HO3.out k e)) _ _, HQW.out.below _ _ hbl2, .slice A' (pre.length + 1) c', HB4.out.set_ 0 _, ?_, W1, W2, h3, h4, h5.trans hbl2⟩
    have e1 : (pre ++ [x]).length = pre.length + 1 := by simp
    have e2 : (pre ++ [x]).flatMap Sym.cells = pre.flatMap Sym.cells ++ Sym.cells x := by simp
    rw [e1, e2]
    refine ownsRow_setCell_other (a := ⟨w.heap.size, 0, none⟩) HO4.out (fun h => absurd (owns_block HO4.out _ h) (by simp)) _
  · intro D W hD hIW hK
    subst hI
    obtain ⟨v, h1, h2, W1, W2, h3, h4, h5⟩ := hIW
    have p0 := h1.cell 0
    obtain ⟨A, c, rfl, hA⟩ := owns_form h2
    have HO := Lib.hid h2
    have HH := Lib.hid (⟨h3, h4, h5⟩ : Below w.heap.size w W1 ∧ start W1 W2 ∧ Below w.heap.size W2 W)
    have HA := Lib.hid hA
    have HK := Lib.hid hK
    have hlt := h1.lt
    simp only [List.getElem?_toArray, List.getElem?_cons_zero] at p0
    clear hq hq0 hIP hbe hb0 hB0 h1 h2 h3 h4 h5 hA hK
    gi_wp2_with fail
    refine ⟨by simp, .inl ⟨_, _, rfl, run_takeDeferred HK.out, ?_⟩⟩
    obtain ⟨h3, h4, h5⟩ := HH.out
    have hpv : Priv w.heap.size W (W.putObj D (.deferred none)) := (Priv.refl _ _).putObj (by omega) HK.out rfl _
    refine ⟨_, results_tmp rfl _ _ _, A, c, rfl, owns_base (ownsRow_priv HO.out hpv) (Nat.zero_le _), HA.out.mono (fun k hk => by omega), W1, W2, h3, h4, Below.priv' h5 hpv (Nat.le_refl _) (Nat.le_of_lt hlt)⟩
  · intro D c pre post W _ _ h
    exact h.elim
end Go.Proofs.Ytlkffnmmphehdaa

namespace Go.Proofs.Ytlkffnmmphehdaa
open Go.RowKit
abbrev SymSets := Sets (α := Sym) 83 23 3 Sym.cells cmpSym
section
variable {D : Nat → Prop} {w : World} {S : Nat → Option (List Sym)} {σ : Nat → St} {b : Nat} {l : List Sym}
/-- A set changed: its own list is another now; what is protected lies as it lay. -/
def ChangedSym (D : Nat → Prop) (w : World) (S : Nat → Option (List Sym)) (σ : Nat → St) (b : Nat) (l : List Sym) (w' : World) : Prop :=
  ∃ σ', SymSets D w' (upd S b (some l)) σ' ∧ (∀ k, k ≠ b → σ' k = σ k) ∧ Fr (fun k => ¬ D k) w w' ∧ Fr (SetMod b (σ b).sn (σ b).A) w w'
theorem sPut_Sym (x : Sym) (h : SymSets D w S σ) (hb : S b = some l) (hl : (l.length : Int) ≤ 100000000) :
    Calls Try.prog 50 #[.pointer (some ⟨b, 0, none⟩), .agg #[.int .i64 x.kind, .string x.text, .int .i64 x.n]] w fun e w' => e = .returned (.bool (!has cmpSym l x)) ∧ ChangedSym D w S σ b (put cmpSym l x) w' := by
  refine (put_Sym b _ _ _ l x w (h.at_ b l hb) (h.srt b l hb) hl).mono ?_
  rintro e w' ⟨he, sn', A', c', h1, hF, hM⟩
  exact ⟨he, _, h.moved (by decide) hb h1 ((h.srt b l hb).put tc_sym x) hF hM, fun k hk => upd_ne _ _ hk, h.mod hb hF, hF⟩

/-- A new set. -/
def MadeSym (D : Nat → Prop) (w : World) (S : Nat → Option (List Sym)) (_ : Nat → St) (l : List Sym) (e : Ending) (w' : World) : Prop :=
  ∃ k, e = .returned (.pointer (some ⟨k, 0, none⟩)) ∧ w.heap.size ≤ k ∧ (∀ b l, S b = some l → b ≠ k) ∧ ∃ σ', SymSets D w' (upd S k (some l)) σ' ∧ Fr (fun k => ¬ D k) w w'
theorem sNew_Sym (A : Option Addr) (c : Nat) (xs : List Sym) (h : SymSets D w S σ) (hrd : RowRd w 3 Sym.cells A c xs) (hl : (xs.length : Int) ≤ 10000000) :
    Calls Try.prog 48 #[.slice A xs.length c] w fun e w' => MadeSym D w S σ (puts cmpSym [] xs) e w' ∧ Below w.heap.size w w' := by
  refine (new_Sym A c xs w hrd hl).mono ?_
  rintro e w' ⟨k, he, hk, sn, A', c', h1, hA, hB⟩
  exact ⟨⟨k, he, hk, fun b l hb e => by have := h.lt hb; omega, _, h.add hk h1 (Srt.puts tc_sym xs Srt.nil) (.inl hA) hB, Fr.of_new hB⟩, hB⟩

theorem sClone_Sym (h : SymSets D w S σ) (hb : S b = some l) :
    Calls Try.prog 58 #[.pointer (some ⟨b, 0, none⟩)] w fun e w' => ∃ k, e = .returned (.pointer (some ⟨k, 0, none⟩)) ∧ w.heap.size ≤ k ∧ (∀ b l, S b = some l → b ≠ k) ∧
      ∃ σ', SymSets D w' (upd S k (some l)) σ' ∧ (∀ j, j ≠ k → j ≠ b → σ' j = σ j) ∧ (σ' b).sn = true ∧ (σ' b).A = (σ b).A ∧ (σ' k).sn = true ∧ (σ' k).A = (σ b).A ∧ Fr (fun k => ¬ D k) w w' ∧ Fr (· = b) w w' := by
  refine (clone_Sym b _ _ _ l w (h.at_ b l hb)).mono ?_
  rintro e w' ⟨k, he, hk, h1, h2, hF⟩
  have hnb : b ≠ k := fun e => by have := h.lt hb; omega
  have hD : Fr (fun k => ¬ D k) w w' := hF.mono (fun k _ hk => by rw [hk]; exact (h.out b l hb).1)
  have hs := h.seen (by decide) hb h1 hF
  have hrow := (h.at_ b l hb).row_lt
  refine ⟨k, he, hk, fun b l hb e => by have := h.lt hb; omega, upd (upd σ b ⟨true, (σ b).A, (σ b).c⟩) k ⟨true, (σ b).A, (σ b).c⟩, ⟨fun j m hj => ?_, fun j m hj => ?_, fun j m hj => ?_, fun j m j' m' hj hj' hjj hsj a a' ha ha' => ?_, hs.low⟩, fun j h1 h2 => by rw [upd_ne _ _ h1, upd_ne _ _ h2], by rw [upd_ne _ _ hnb, upd_same], by rw [upd_ne _ _ hnb, upd_same], by rw [upd_same], by rw [upd_same], hD, hF⟩
  · by_cases e : j = k
    · subst e; rw [upd_same] at hj ⊢; cases hj; exact h2
    · rw [upd_ne _ _ e] at hj ⊢; exact hs.at_ j m hj
  · by_cases e : j = k
    · subst e; rw [upd_same] at hj; cases hj; exact h.srt b l hb
    · rw [upd_ne _ _ e] at hj; exact h.srt j m hj
  · by_cases e : j = k
    · subst e; rw [upd_same] at hj ⊢; cases hj
      exact ⟨fun hd => by have := h.low _ hd; omega, fun hs2 => by cases hs2⟩
    · rw [upd_ne _ _ e] at hj ⊢; exact hs.out j m hj
  · by_cases e : j = k
    · subst e; rw [upd_same] at hsj; cases hsj
    · rw [upd_ne _ _ e] at hj hsj ha
      by_cases e2 : j' = k
      · subst e2
        rw [upd_same] at ha'
        by_cases e3 : j = b
        · subst e3; rw [upd_same] at hsj; cases hsj
        · exact hs.apart j m b l hj hb e3 hsj a a' ha (by rw [upd_same]; exact ha')
      · rw [upd_ne _ _ e2] at hj' ha'
        exact hs.apart j m j' m' hj hj' hjj hsj a a' ha ha'

/-- A list of a set: in new memory, which is laid under protection. -/
def ListedSym (D : Nat → Prop) (w : World) (S : Nat → Option (List Sym)) (b : Nat) (l : List Sym) (e : Ending) (w' : World) : Prop :=
  ∃ A c, e = .returned (.slice A l.length c) ∧ RowRd w' 3 Sym.cells A c l ∧ AIn A (fun k => w.heap.size ≤ k ∧ k < w'.heap.size) ∧ (∃ σ', SymSets (fun k => D k ∨ (w.heap.size ≤ k ∧ k < w'.heap.size)) w' S σ') ∧ Fr (fun k => ¬ D k) w w' ∧ Fr (· = b) w w'
theorem sSeq_Sym (kb : Nat) (h : SymSets D w S σ) (hb : S b = some l) (hbox : w.cell? ⟨kb, 0, none⟩ = some (.pointer (some ⟨b, 0, none⟩))) (hl : (l.length : Int) ≤ 100000000) :
    Calls Try.prog 33 #[.func (.func 66) #[] #[.pointer (some ⟨kb, 0, none⟩)]] w (ListedSym D w S b l) := by
  have hS := h.at_ b l hb
  refine (list_Sym _ _ l w _ _ (seq_all_Sym kb b _ _ _ l w hbox hS) hl).mono ?_
  rintro e w' ⟨A, c, he, hown, hA, W1, W2, hB1, hs, hB2⟩
  have hS2 := hs.set_ (hS.new_ hB1) (by decide)
  have hF : Fr (· = b) w w' := ((Fr.of_new (M := (· = b)) hB1).trans (hs.fr.mono (fun _ _ h => h))).into (Fr.of_below hB2) (fun i hi => .inr hi)
  have hS3 : SymSet w' b true (σ b).A (σ b).c l := hS2.fr (Fr.of_below hB2) (by have := hS.lt; omega) (hS.row_lt.mono (fun k hk => by omega))
  have hD : Fr (fun k => ¬ D k) w w' := hF.mono (fun k _ hk => by rw [hk]; exact (h.out b l hb).1)
  have hs1 := h.seen (by decide) hb hS3 hF
  have hrd := ownsRow_rd Sym.cells_length hown
  refine ⟨A, c, he, hrd, fun a ha => ⟨hA a ha, ?_⟩, ⟨_, hs1.widen w.heap.size (fun j m hj => ⟨h.lt hj, fun _ a ha => ?_⟩)⟩, hD, hF⟩
  · subst ha
    rcases ownsRow_form hown with ⟨hv, _⟩ | ⟨g, cap, hv, _, _, hr, _⟩
    · cases hv
    · injection hv with hv
      injection hv with hv
      subst hv
      exact hr.lt
  · by_cases e : j = b
    · subst e; rw [upd_same] at ha; exact hS.row_lt a ha
    · rw [upd_ne _ _ e] at ha; exact (h.at_ j m hj).row_lt a ha
end
end Go.Proofs.Ytlkffnmmphehdaa
