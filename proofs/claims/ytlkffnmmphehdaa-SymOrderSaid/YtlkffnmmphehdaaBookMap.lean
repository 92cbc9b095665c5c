/-
  The walks of a map from letters to numbers (book.Map): New, Get, Put, Clone, over its set of pages.
-/
import Derived.Test.YtlkffnmmphehdaaWorkPage
import Derived.Test.YtlkffnmmphehdaaEagerT
namespace Go.Proofs.Ytlkffnmmphehdaa
open Go.RowKit
/-- What a letter has. -/
def mget (m : List Page) (c : UInt8) : Option Int := (m.find? fun p => p.key == c).map Page.v
def mput (m : List Page) (p : Page) : List Page := put cmpPage (drop cmpPage m p) p
theorem mget_none {m : List Page} {c : UInt8} (h : has cmpPage m ⟨c, 0⟩ = false) : mget m c = none := by
  unfold mget
  rw [List.find?_eq_none.2]
  · rfl
  · intro p hp
    have := has_false.1 h p hp
    simp only [beq_iff_eq]
    exact fun e => this (cmpPage_eq.2 e)
theorem mget_some {m : List Page} (hs : Srt cmpPage m) {c : UInt8} {p : Page} (hp : p ∈ m) (h : p.key = c) : mget m c = some p.v := by
  unfold mget
  obtain ⟨i, hi, rfl⟩ := List.getElem_of_mem hp
  have : m.find? (fun p => p.key == c) = some m[i] := by
    rw [List.find?_eq_some_iff_getElem]
    refine ⟨by simpa using h, i, hi, rfl, fun j hj => ?_⟩
    have h2 := hs.lt hj hi
    simp only [Bool.not_eq_true', beq_eq_false_iff_ne]
    intro e
    have : cmpPage m[j] m[i] = 0 := cmpPage_eq.2 (e.trans h.symm)
    omega
  rw [this]; rfl
theorem has_iff_mget {m : List Page} (hs : Srt cmpPage m) (c : UInt8) (v : Int) : has cmpPage m ⟨c, v⟩ = (mget m c).isSome := by
  cases h : has cmpPage m ⟨c, v⟩
  · have : has cmpPage m ⟨c, 0⟩ = false := by
      rw [has_false] at h ⊢
      intro y hy e
      exact h y hy (cmpPage_eq.2 (cmpPage_eq.1 e))
    rw [mget_none this]; rfl
  · obtain ⟨y, hy, e⟩ := has_iff.1 h
    rw [mget_some hs hy (cmpPage_eq.1 e)]; rfl
/-- The member that is found. -/
theorem found_page {m : List Page} (hs : Srt cmpPage m) {c : UInt8} {v : Int} (h : has cmpPage m ⟨c, v⟩ = true) : ∃ y, m[rank cmpPage m ⟨c, v⟩]? = some y ∧ y.key = c ∧ mget m c = some y.v := by
  obtain ⟨_, _, hk, e⟩ := drop_eq tc_page hs h
  exact ⟨_, List.getElem?_eq_getElem hk, cmpPage_eq.1 e, mget_some hs (List.getElem_mem hk) (cmpPage_eq.1 e)⟩
set_option maxHeartbeats 1000000 in
theorem at_is (c : UInt8) (w : World) : Calls Try.prog 70 #[.int .u8 (c.toNat : Int)] w fun e w' => e = .returned (.agg #[.int .u8 (c.toNat : Int), .int .i64 0]) ∧ Below w.heap.size w w' := by
  go_enter Try.func70, Try.ntmps70
  go_wp2_with fail
  exact bodyPost_ret (v := .agg #[.int .u8 (c.toNat : Int), .int .i64 0]) (by simp [results, Try.results70, go_sem]) rfl ⟨rfl, by (repeat (first | exact Below.refl _ _ | (refine Below.drew ?_) | (refine Below.alloc ?_ (by simp <;> omega) _) | (refine Below.setCell ?_ (by simp <;> omega) _)))⟩

set_option maxRecDepth 100000 in
set_option maxHeartbeats 4000000 in
theorem mapget_no (bm bp cc : Nat) (sn : Bool) (A : Option Addr) (m : List Page) (c : UInt8) (w : World) (hM : Blk w bm 89 #[.pointer (some ⟨bp, 0, none⟩)]) (hS : PageSet w bp sn A cc m) (hs : Srt cmpPage m) (hl : (m.length : Int) ≤ 1000000) (hh : has cmpPage m ⟨c, 0⟩ = false) :
    Calls Try.prog 56 #[.pointer (some ⟨bm, 0, none⟩), .int .u8 (c.toNat : Int)] w fun e w' => e = .returned (.tuple #[.int .i64 0, .bool false]) ∧ Below w.heap.size w w' := by
  have s0 := (hM.cell 0).trans rfl
  have hml := hM.lt
  have HS := Lib.hid hS
  have HO := Lib.hid hs
  have HM := Lib.hid hM
  have HH := Lib.hid hh
  clear hS hs hM hh
  go_enter Try.func56, Try.ntmps56
  go_wp2_with fail
  refine wp_region_Pl (fun w9 => Below w.heap.size w w9) [0, 1, 2, 3, 4, 7, 8, 9, 12] [3] (.fork [(0, 0), (1, 0), (2, 0), (3, 1), (4, 0)] 5 (.fork [] 6 (.fin [(7, 0), (8, 0), (9, 0), (10, 2), (11, 2), (12, 0)]) 10 (.fin [(6, 2), (7, 0), (8, 0), (9, 0), (11, 2), (12, 0)])) 10 (.fin [(5, 2), (6, 2), (7, 0), (8, 0), (9, 0), (11, 2), (12, 0)])) (by kernel_rfl) (by kernel_rfl) (by kernel_rfl) (fun KK hKK => ?_)
  simp only [wpPl, beside, List.filterMap_cons, List.filterMap_nil, List.getElem?_toArray, List.getElem?_cons_zero, List.getElem?_cons_succ, Option.map_some]
  repeat (first | (refine wpY_w ?_ (Or.inl ⟨by rfl, fun w9 => ?_⟩) ?_; rotate_left 1; go_simp; with_reducible rfl; simp only [Act.put, List.setIfInBounds_toArray, List.set_cons_zero, List.set_cons_succ]) | (refine wpY_l ?_ ((Below.refl _ _).drew) (Or.inl ⟨by rfl, fun w9 hw9 => ?_⟩) ?_; rotate_left 1; obtain ⟨hc9, hf9⟩ := bcell hw9; go_simp; with_reducible rfl; simp only [Act.put, List.setIfInBounds_toArray, List.set_cons_zero, List.set_cons_succ]) | (refine wpY_w undef (Or.inr ⟨by rfl, rfl⟩) ?_; simp only [Act.put, List.setIfInBounds_toArray, List.set_cons_zero, List.set_cons_succ]) | (refine wpY_l undef ((Below.refl _ _).drew) (Or.inr ⟨by rfl, rfl⟩) ?_; simp only [Act.put, List.setIfInBounds_toArray, List.set_cons_zero, List.set_cons_succ]))
  refine wpY_nil ⟨?_, ?_⟩
  · refine wpOp_cs rfl (fun K9 hK9 => ?_)
    go_simp
    refine (at_is c _).mono ?_
    rintro e wa ⟨rfl, hba⟩
    have HBa := Lib.hid (((Below.refl w.heap.size w).drew).trans (hba.mono (by first | omega | simp)))
    clear hba
    have hza := HBa.out.size
    refine hK9 _ _ (fun _ => HBa.out) ?_
    clear hK9 K9
    try simp only [Act.put, List.setIfInBounds_toArray, List.set_cons_zero, List.set_cons_succ]
    try simp only [beside, List.filterMap_nil]
    refine wpY_nil ⟨?_, ?_⟩
    · refine wpOp_cs rfl (fun K9 hK9 => ?_)
      go_simp
      refine (get_no_Page bp cc sn A m ⟨c, 0⟩ _ (HS.out.new_ (HBa.out)) HO.out (by omega) HH.out).mono ?_
      rintro e wg ⟨rfl, hbg⟩
      have HBg := Lib.hid ((HBa.out).trans (hbg.mono (by have := HBa.out.size; first | omega | (simp; done) | (simp; omega))))
      clear hbg
      have hzg := HBg.out.size
      refine hK9 _ _ (fun _ => HBg.out) ?_
      clear hK9 K9
      try simp only [Act.put, List.setIfInBounds_toArray, List.set_cons_zero, List.set_cons_succ]
      try simp only [beside, List.filterMap_nil]
      repeat (first | (refine wpY_w ?_ (Or.inl ⟨by rfl, fun w9 => ?_⟩) ?_; rotate_left 1; go_simp; with_reducible rfl; simp only [Act.put, List.setIfInBounds_toArray, List.set_cons_zero, List.set_cons_succ]) | (refine wpY_l ?_ (HBg.out) (Or.inl ⟨by rfl, fun w9 hw9 => ?_⟩) ?_; rotate_left 1; obtain ⟨hc9, hf9⟩ := bcell hw9; go_simp; with_reducible rfl; simp only [Act.put, List.setIfInBounds_toArray, List.set_cons_zero, List.set_cons_succ]) | (refine wpY_w undef (Or.inr ⟨by rfl, rfl⟩) ?_; simp only [Act.put, List.setIfInBounds_toArray, List.set_cons_zero, List.set_cons_succ]) | (refine wpY_l undef (HBg.out) (Or.inr ⟨by rfl, rfl⟩) ?_; simp only [Act.put, List.setIfInBounds_toArray, List.set_cons_zero, List.set_cons_succ]))
      refine wpY_es (fun K9 hK9 => ?_)
      go_simp
      have hB9 := (HBg.out).alloc (by have := HBg.out.size; first | omega | (simp; done) | (simp; omega)) (.cells #[.int .u8 0, .int .i64 0] 87)
      have HB9 := Lib.hid hB9
      have hk9 : Blk (wg.alloc (.cells #[.int .u8 0, .int .i64 0] 87)) wg.heap.size 87 #[.int .u8 0, .int .i64 0] := Blk.new wg 87 #[.int .u8 0, .int .i64 0]
      have HK9 := Lib.hid hk9
      clear hB9 hk9
      have hz9 := HB9.out.size
      refine hK9 _ _ (HB9.out) ?_
      clear hK9 K9
      try simp only [Act.put, List.setIfInBounds_toArray, List.set_cons_zero, List.set_cons_succ]
      refine wpY_es (fun K9 hK9 => ?_)
      have u0 := ((HK9.out).cell 0).trans rfl
      have u1 := ((HK9.out).cell 1).trans rfl
      have f0 := (HK9.out).frozen 0
      have f1 := (HK9.out).frozen 1
      have hgl := (HK9.out).lt
      go_simp
      refine hK9 _ _ (by (repeat (first | exact Below.refl _ _ | exact HBa.out | exact HBg.out | exact HB9.out | (refine Below.drew ?_) | (refine Below.alloc ?_ (by first | omega | (simp; done) | (simp; omega)) _) | (refine Below.setCell ?_ (by first | omega | (simp; done) | (simp; omega)) _)))) ?_
      clear hK9 K9
      try simp only [Act.put, List.setIfInBounds_toArray, List.set_cons_zero, List.set_cons_succ]
      repeat (first | (refine wpY_w ?_ (Or.inl ⟨by rfl, fun w9 => ?_⟩) ?_; rotate_left 1; go_simp; with_reducible rfl; simp only [Act.put, List.setIfInBounds_toArray, List.set_cons_zero, List.set_cons_succ]) | (refine wpY_l ?_ (by (repeat (first | exact Below.refl _ _ | exact HBa.out | exact HBg.out | exact HB9.out | (refine Below.drew ?_) | (refine Below.alloc ?_ (by first | omega | (simp; done) | (simp; omega)) _) | (refine Below.setCell ?_ (by first | omega | (simp; done) | (simp; omega)) _)))) (Or.inl ⟨by rfl, fun w9 hw9 => ?_⟩) ?_; rotate_left 1; obtain ⟨hc9, hf9⟩ := bcell hw9; go_simp; with_reducible rfl; simp only [Act.put, List.setIfInBounds_toArray, List.set_cons_zero, List.set_cons_succ]) | (refine wpY_w undef (Or.inr ⟨by rfl, rfl⟩) ?_; simp only [Act.put, List.setIfInBounds_toArray, List.set_cons_zero, List.set_cons_succ]) | (refine wpY_l undef (by (repeat (first | exact Below.refl _ _ | exact HBa.out | exact HBg.out | exact HB9.out | (refine Below.drew ?_) | (refine Below.alloc ?_ (by first | omega | (simp; done) | (simp; omega)) _) | (refine Below.setCell ?_ (by first | omega | (simp; done) | (simp; omega)) _)))) (Or.inr ⟨by rfl, rfl⟩) ?_; simp only [Act.put, List.setIfInBounds_toArray, List.set_cons_zero, List.set_cons_succ]))
      refine wpY_nil ?_
      simp only [OnlyN_normal]
      refine hKK _ _ ?_
      clear hKK KK
      go_wp2_with fail
      go_ret2
      exact ⟨rfl, by (repeat (first | exact Below.refl _ _ | exact HBa.out | exact HBg.out | exact HB9.out | (refine Below.drew ?_) | (refine Below.alloc ?_ (by first | omega | (simp; done) | (simp; omega)) _) | (refine Below.setCell ?_ (by first | omega | (simp; done) | (simp; omega)) _)))⟩
    · refine wpOp_cs rfl (fun K9 hK9 => ?_)
      go_simp
      have hB9 := (HBa.out).alloc (by have := HBa.out.size; first | omega | (simp; done) | (simp; omega)) (.cells #[.int .u8 0, .int .i64 0] 87)
      have HB9 := Lib.hid hB9
      have hk9 : Blk (wa.alloc (.cells #[.int .u8 0, .int .i64 0] 87)) wa.heap.size 87 #[.int .u8 0, .int .i64 0] := Blk.new wa 87 #[.int .u8 0, .int .i64 0]
      have HK9 := Lib.hid hk9
      clear hB9 hk9
      have hz9 := HB9.out.size
      refine hK9 _ _ (fun _ => HB9.out) ?_
      clear hK9 K9
      try simp only [Act.put, List.setIfInBounds_toArray, List.set_cons_zero, List.set_cons_succ]
      try simp only [beside, List.filterMap_nil]
      refine wpY_es (fun K9 hK9 => ?_)
      go_simp
      refine (get_no_Page bp cc sn A m ⟨c, 0⟩ _ (HS.out.new_ (HB9.out)) HO.out (by omega) HH.out).mono ?_
      rintro e wg ⟨rfl, hbg⟩
      have hkg := (HK9.out).new_ hbg
      have HKg := Lib.hid hkg
      clear hkg
      have HBg := Lib.hid ((HB9.out).trans (hbg.mono (by have := HB9.out.size; first | omega | (simp at this ⊢; done) | (simp at this ⊢; omega))))
      clear hbg
      have hzg := HBg.out.size
      refine hK9 _ _ (HBg.out) ?_
      clear hK9 K9
      try simp only [Act.put, List.setIfInBounds_toArray, List.set_cons_zero, List.set_cons_succ]
      repeat (first | (refine wpY_w ?_ (Or.inl ⟨by rfl, fun w9 => ?_⟩) ?_; rotate_left 1; go_simp; with_reducible rfl; simp only [Act.put, List.setIfInBounds_toArray, List.set_cons_zero, List.set_cons_succ]) | (refine wpY_l ?_ (HBg.out) (Or.inl ⟨by rfl, fun w9 hw9 => ?_⟩) ?_; rotate_left 1; obtain ⟨hc9, hf9⟩ := bcell hw9; go_simp; with_reducible rfl; simp only [Act.put, List.setIfInBounds_toArray, List.set_cons_zero, List.set_cons_succ]) | (refine wpY_w undef (Or.inr ⟨by rfl, rfl⟩) ?_; simp only [Act.put, List.setIfInBounds_toArray, List.set_cons_zero, List.set_cons_succ]) | (refine wpY_l undef (HBg.out) (Or.inr ⟨by rfl, rfl⟩) ?_; simp only [Act.put, List.setIfInBounds_toArray, List.set_cons_zero, List.set_cons_succ]))
      refine wpY_es (fun K9 hK9 => ?_)
      have u0 := ((HKg.out).cell 0).trans rfl
      have u1 := ((HKg.out).cell 1).trans rfl
      have f0 := (HKg.out).frozen 0
      have f1 := (HKg.out).frozen 1
      have hgl := (HKg.out).lt
      go_simp
      refine hK9 _ _ (by (repeat (first | exact Below.refl _ _ | exact HBa.out | exact HB9.out | exact HBg.out | (refine Below.drew ?_) | (refine Below.alloc ?_ (by first | omega | (simp; done) | (simp; omega)) _) | (refine Below.setCell ?_ (by first | omega | (simp; done) | (simp; omega)) _)))) ?_
      clear hK9 K9
      try simp only [Act.put, List.setIfInBounds_toArray, List.set_cons_zero, List.set_cons_succ]
      repeat (first | (refine wpY_w ?_ (Or.inl ⟨by rfl, fun w9 => ?_⟩) ?_; rotate_left 1; go_simp; with_reducible rfl; simp only [Act.put, List.setIfInBounds_toArray, List.set_cons_zero, List.set_cons_succ]) | (refine wpY_l ?_ (by (repeat (first | exact Below.refl _ _ | exact HBa.out | exact HB9.out | exact HBg.out | (refine Below.drew ?_) | (refine Below.alloc ?_ (by first | omega | (simp; done) | (simp; omega)) _) | (refine Below.setCell ?_ (by first | omega | (simp; done) | (simp; omega)) _)))) (Or.inl ⟨by rfl, fun w9 hw9 => ?_⟩) ?_; rotate_left 1; obtain ⟨hc9, hf9⟩ := bcell hw9; go_simp; with_reducible rfl; simp only [Act.put, List.setIfInBounds_toArray, List.set_cons_zero, List.set_cons_succ]) | (refine wpY_w undef (Or.inr ⟨by rfl, rfl⟩) ?_; simp only [Act.put, List.setIfInBounds_toArray, List.set_cons_zero, List.set_cons_succ]) | (refine wpY_l undef (by (repeat (first | exact Below.refl _ _ | exact HBa.out | exact HB9.out | exact HBg.out | (refine Below.drew ?_) | (refine Below.alloc ?_ (by first | omega | (simp; done) | (simp; omega)) _) | (refine Below.setCell ?_ (by first | omega | (simp; done) | (simp; omega)) _)))) (Or.inr ⟨by rfl, rfl⟩) ?_; simp only [Act.put, List.setIfInBounds_toArray, List.set_cons_zero, List.set_cons_succ]))
      refine wpY_nil ?_
      simp only [OnlyN_normal]
      refine hKK _ _ ?_
      clear hKK KK
      go_wp2_with fail
      go_ret2
      exact ⟨rfl, by (repeat (first | exact Below.refl _ _ | exact HBa.out | exact HB9.out | exact HBg.out | (refine Below.drew ?_) | (refine Below.alloc ?_ (by first | omega | (simp; done) | (simp; omega)) _) | (refine Below.setCell ?_ (by first | omega | (simp; done) | (simp; omega)) _)))⟩
  · refine wpOp_cs rfl (fun K9 hK9 => ?_)
    go_simp
    have hB9 := ((Below.refl w.heap.size w).drew).alloc (by first | omega | simp) (.cells #[.int .u8 0, .int .i64 0] 87)
    have HB9 := Lib.hid hB9
    have hk9 : Blk (w.drew.alloc (.cells #[.int .u8 0, .int .i64 0] 87)) w.heap.size 87 #[.int .u8 0, .int .i64 0] := Blk.new w.drew 87 #[.int .u8 0, .int .i64 0]
    have HK9 := Lib.hid hk9
    clear hB9 hk9
    have hz9 := HB9.out.size
    refine hK9 _ _ (fun _ => HB9.out) ?_
    clear hK9 K9
    try simp only [Act.put, List.setIfInBounds_toArray, List.set_cons_zero, List.set_cons_succ]
    try simp only [beside, List.filterMap_nil]
    refine wpY_es (fun K9 hK9 => ?_)
    go_simp
    refine (at_is c _).mono ?_
    rintro e wa ⟨rfl, hba⟩
    have hka := (HK9.out).new_ hba
    have HKa := Lib.hid hka
    clear hka
    have HBa := Lib.hid ((HB9.out).trans (hba.mono (by have := HB9.out.size; first | omega | (simp at this ⊢; done) | (simp at this ⊢; omega))))
    clear hba
    have hza := HBa.out.size
    refine hK9 _ _ (HBa.out) ?_
    clear hK9 K9
    try simp only [Act.put, List.setIfInBounds_toArray, List.set_cons_zero, List.set_cons_succ]
    refine wpY_es (fun K9 hK9 => ?_)
    go_simp
    refine (get_no_Page bp cc sn A m ⟨c, 0⟩ _ (HS.out.new_ (HBa.out)) HO.out (by omega) HH.out).mono ?_
    rintro e wg ⟨rfl, hbg⟩
    have hkg := (HKa.out).new_ hbg
    have HKg := Lib.hid hkg
    clear hkg
    have HBg := Lib.hid ((HBa.out).trans (hbg.mono (by have := HBa.out.size; first | omega | (simp; done) | (simp; omega))))
    clear hbg
    have hzg := HBg.out.size
    refine hK9 _ _ (HBg.out) ?_
    clear hK9 K9
    try simp only [Act.put, List.setIfInBounds_toArray, List.set_cons_zero, List.set_cons_succ]
    repeat (first | (refine wpY_w ?_ (Or.inl ⟨by rfl, fun w9 => ?_⟩) ?_; rotate_left 1; go_simp; with_reducible rfl; simp only [Act.put, List.setIfInBounds_toArray, List.set_cons_zero, List.set_cons_succ]) | (refine wpY_l ?_ (HBg.out) (Or.inl ⟨by rfl, fun w9 hw9 => ?_⟩) ?_; rotate_left 1; obtain ⟨hc9, hf9⟩ := bcell hw9; go_simp; with_reducible rfl; simp only [Act.put, List.setIfInBounds_toArray, List.set_cons_zero, List.set_cons_succ]) | (refine wpY_w undef (Or.inr ⟨by rfl, rfl⟩) ?_; simp only [Act.put, List.setIfInBounds_toArray, List.set_cons_zero, List.set_cons_succ]) | (refine wpY_l undef (HBg.out) (Or.inr ⟨by rfl, rfl⟩) ?_; simp only [Act.put, List.setIfInBounds_toArray, List.set_cons_zero, List.set_cons_succ]))
    refine wpY_es (fun K9 hK9 => ?_)
    have u0 := ((HKg.out).cell 0).trans rfl
    have u1 := ((HKg.out).cell 1).trans rfl
    have f0 := (HKg.out).frozen 0
    have f1 := (HKg.out).frozen 1
    have hgl := (HKg.out).lt
    go_simp
    refine hK9 _ _ (by (repeat (first | exact Below.refl _ _ | exact HB9.out | exact HBa.out | exact HBg.out | (refine Below.drew ?_) | (refine Below.alloc ?_ (by first | omega | (simp; done) | (simp; omega)) _) | (refine Below.setCell ?_ (by first | omega | (simp; done) | (simp; omega)) _)))) ?_
    clear hK9 K9
    try simp only [Act.put, List.setIfInBounds_toArray, List.set_cons_zero, List.set_cons_succ]
    repeat (first | (refine wpY_w ?_ (Or.inl ⟨by rfl, fun w9 => ?_⟩) ?_; rotate_left 1; go_simp; with_reducible rfl; simp only [Act.put, List.setIfInBounds_toArray, List.set_cons_zero, List.set_cons_succ]) | (refine wpY_l ?_ (by (repeat (first | exact Below.refl _ _ | exact HB9.out | exact HBa.out | exact HBg.out | (refine Below.drew ?_) | (refine Below.alloc ?_ (by first | omega | (simp; done) | (simp; omega)) _) | (refine Below.setCell ?_ (by first | omega | (simp; done) | (simp; omega)) _)))) (Or.inl ⟨by rfl, fun w9 hw9 => ?_⟩) ?_; rotate_left 1; obtain ⟨hc9, hf9⟩ := bcell hw9; go_simp; with_reducible rfl; simp only [Act.put, List.setIfInBounds_toArray, List.set_cons_zero, List.set_cons_succ]) | (refine wpY_w undef (Or.inr ⟨by rfl, rfl⟩) ?_; simp only [Act.put, List.setIfInBounds_toArray, List.set_cons_zero, List.set_cons_succ]) | (refine wpY_l undef (by (repeat (first | exact Below.refl _ _ | exact HB9.out | exact HBa.out | exact HBg.out | (refine Below.drew ?_) | (refine Below.alloc ?_ (by first | omega | (simp; done) | (simp; omega)) _) | (refine Below.setCell ?_ (by first | omega | (simp; done) | (simp; omega)) _)))) (Or.inr ⟨by rfl, rfl⟩) ?_; simp only [Act.put, List.setIfInBounds_toArray, List.set_cons_zero, List.set_cons_succ]))
    refine wpY_nil ?_
    simp only [OnlyN_normal]
    refine hKK _ _ ?_
    clear hKK KK
    go_wp2_with fail
    go_ret2
    exact ⟨rfl, by (repeat (first | exact Below.refl _ _ | exact HB9.out | exact HBa.out | exact HBg.out | (refine Below.drew ?_) | (refine Below.alloc ?_ (by first | omega | (simp; done) | (simp; omega)) _) | (refine Below.setCell ?_ (by first | omega | (simp; done) | (simp; omega)) _)))⟩

set_option maxRecDepth 100000 in
set_option maxHeartbeats 4000000 in
theorem mapget_is (bm bp cc : Nat) (sn : Bool) (A : Option Addr) (m : List Page) (c : UInt8) (y : Page) (w : World) (hM : Blk w bm 89 #[.pointer (some ⟨bp, 0, none⟩)]) (hS : PageSet w bp sn A cc m) (hs : Srt cmpPage m) (hl : (m.length : Int) ≤ 1000000) (hh : has cmpPage m ⟨c, 0⟩ = true) (hy : m[rank cmpPage m ⟨c, 0⟩]? = some y) :
    Calls Try.prog 56 #[.pointer (some ⟨bm, 0, none⟩), .int .u8 (c.toNat : Int)] w fun e w' => e = .returned (.tuple #[.int .i64 y.v, .bool true]) ∧ Below w.heap.size w w' := by
  have s0 := (hM.cell 0).trans rfl
  have hml := hM.lt
  have HS := Lib.hid hS
  have HO := Lib.hid hs
  have HM := Lib.hid hM
  have HH := Lib.hid hh
  have HY := Lib.hid hy
  clear hy
  clear hS hs hM hh
  go_enter Try.func56, Try.ntmps56
  go_wp2_with fail
  refine wp_region_Pl (fun w9 => Below w.heap.size w w9) [0, 1, 2, 3, 4, 7, 8, 9, 12] [3] (.fork [(0, 0), (1, 0), (2, 0), (3, 1), (4, 0)] 5 (.fork [] 6 (.fin [(7, 0), (8, 0), (9, 0), (10, 2), (11, 2), (12, 0)]) 10 (.fin [(6, 2), (7, 0), (8, 0), (9, 0), (11, 2), (12, 0)])) 10 (.fin [(5, 2), (6, 2), (7, 0), (8, 0), (9, 0), (11, 2), (12, 0)])) (by kernel_rfl) (by kernel_rfl) (by kernel_rfl) (fun KK hKK => ?_)
  simp only [wpPl, beside, List.filterMap_cons, List.filterMap_nil, List.getElem?_toArray, List.getElem?_cons_zero, List.getElem?_cons_succ, Option.map_some]
  repeat (first | (refine wpY_w ?_ (Or.inl ⟨by rfl, fun w9 => ?_⟩) ?_; rotate_left 1; go_simp; with_reducible rfl; simp only [Act.put, List.setIfInBounds_toArray, List.set_cons_zero, List.set_cons_succ]) | (refine wpY_l ?_ ((Below.refl _ _).drew) (Or.inl ⟨by rfl, fun w9 hw9 => ?_⟩) ?_; rotate_left 1; obtain ⟨hc9, hf9⟩ := bcell hw9; go_simp; with_reducible rfl; simp only [Act.put, List.setIfInBounds_toArray, List.set_cons_zero, List.set_cons_succ]) | (refine wpY_w undef (Or.inr ⟨by rfl, rfl⟩) ?_; simp only [Act.put, List.setIfInBounds_toArray, List.set_cons_zero, List.set_cons_succ]) | (refine wpY_l undef ((Below.refl _ _).drew) (Or.inr ⟨by rfl, rfl⟩) ?_; simp only [Act.put, List.setIfInBounds_toArray, List.set_cons_zero, List.set_cons_succ]))
  refine wpY_nil ⟨?_, ?_⟩
  · refine wpOp_cs rfl (fun K9 hK9 => ?_)
    go_simp
    refine (at_is c _).mono ?_
    rintro e wa ⟨rfl, hba⟩
    have HBa := Lib.hid (((Below.refl w.heap.size w).drew).trans (hba.mono (by first | omega | simp)))
    clear hba
    have hza := HBa.out.size
    refine hK9 _ _ (fun _ => HBa.out) ?_
    clear hK9 K9
    try simp only [Act.put, List.setIfInBounds_toArray, List.set_cons_zero, List.set_cons_succ]
    try simp only [beside, List.filterMap_nil]
    refine wpY_nil ⟨?_, ?_⟩
    · refine wpOp_cs rfl (fun K9 hK9 => ?_)
      go_simp
      refine (get_is_Page bp cc sn A m ⟨c, 0⟩ y _ (HS.out.new_ (HBa.out)) HO.out (by omega) HH.out HY.out).mono ?_
      rintro e wg ⟨rfl, hbg⟩
      have HBg := Lib.hid ((HBa.out).trans (hbg.mono (by have := HBa.out.size; first | omega | (simp; done) | (simp; omega))))
      clear hbg
      have hzg := HBg.out.size
      refine hK9 _ _ (fun _ => HBg.out) ?_
      clear hK9 K9
      try simp only [Act.put, List.setIfInBounds_toArray, List.set_cons_zero, List.set_cons_succ]
      try simp only [beside, List.filterMap_nil]
      repeat (first | (refine wpY_w ?_ (Or.inl ⟨by rfl, fun w9 => ?_⟩) ?_; rotate_left 1; go_simp; with_reducible rfl; simp only [Act.put, List.setIfInBounds_toArray, List.set_cons_zero, List.set_cons_succ]) | (refine wpY_l ?_ (HBg.out) (Or.inl ⟨by rfl, fun w9 hw9 => ?_⟩) ?_; rotate_left 1; obtain ⟨hc9, hf9⟩ := bcell hw9; go_simp; with_reducible rfl; simp only [Act.put, List.setIfInBounds_toArray, List.set_cons_zero, List.set_cons_succ]) | (refine wpY_w undef (Or.inr ⟨by rfl, rfl⟩) ?_; simp only [Act.put, List.setIfInBounds_toArray, List.set_cons_zero, List.set_cons_succ]) | (refine wpY_l undef (HBg.out) (Or.inr ⟨by rfl, rfl⟩) ?_; simp only [Act.put, List.setIfInBounds_toArray, List.set_cons_zero, List.set_cons_succ]))
      refine wpY_es (fun K9 hK9 => ?_)
      go_simp
      have hB9 := (HBg.out).alloc (by have := HBg.out.size; first | omega | (simp; done) | (simp; omega)) (.cells #[.int .u8 0, .int .i64 0] 87)
      have HB9 := Lib.hid hB9
      have hk9 : Blk (wg.alloc (.cells #[.int .u8 0, .int .i64 0] 87)) wg.heap.size 87 #[.int .u8 0, .int .i64 0] := Blk.new wg 87 #[.int .u8 0, .int .i64 0]
      have HK9 := Lib.hid hk9
      clear hB9 hk9
      have hz9 := HB9.out.size
      refine hK9 _ _ (HB9.out) ?_
      clear hK9 K9
      try simp only [Act.put, List.setIfInBounds_toArray, List.set_cons_zero, List.set_cons_succ]
      refine wpY_es (fun K9 hK9 => ?_)
      have u0 := ((HK9.out).cell 0).trans rfl
      have u1 := ((HK9.out).cell 1).trans rfl
      have f0 := (HK9.out).frozen 0
      have f1 := (HK9.out).frozen 1
      have hgl := (HK9.out).lt
      go_simp
      refine hK9 _ _ (by (repeat (first | exact Below.refl _ _ | exact HBa.out | exact HBg.out | exact HB9.out | (refine Below.drew ?_) | (refine Below.alloc ?_ (by first | omega | (simp; done) | (simp; omega)) _) | (refine Below.setCell ?_ (by first | omega | (simp; done) | (simp; omega)) _)))) ?_
      clear hK9 K9
      try simp only [Act.put, List.setIfInBounds_toArray, List.set_cons_zero, List.set_cons_succ]
      repeat (first | (refine wpY_w ?_ (Or.inl ⟨by rfl, fun w9 => ?_⟩) ?_; rotate_left 1; go_simp; with_reducible rfl; simp only [Act.put, List.setIfInBounds_toArray, List.set_cons_zero, List.set_cons_succ]) | (refine wpY_l ?_ (by (repeat (first | exact Below.refl _ _ | exact HBa.out | exact HBg.out | exact HB9.out | (refine Below.drew ?_) | (refine Below.alloc ?_ (by first | omega | (simp; done) | (simp; omega)) _) | (refine Below.setCell ?_ (by first | omega | (simp; done) | (simp; omega)) _)))) (Or.inl ⟨by rfl, fun w9 hw9 => ?_⟩) ?_; rotate_left 1; obtain ⟨hc9, hf9⟩ := bcell hw9; go_simp; with_reducible rfl; simp only [Act.put, List.setIfInBounds_toArray, List.set_cons_zero, List.set_cons_succ]) | (refine wpY_w undef (Or.inr ⟨by rfl, rfl⟩) ?_; simp only [Act.put, List.setIfInBounds_toArray, List.set_cons_zero, List.set_cons_succ]) | (refine wpY_l undef (by (repeat (first | exact Below.refl _ _ | exact HBa.out | exact HBg.out | exact HB9.out | (refine Below.drew ?_) | (refine Below.alloc ?_ (by first | omega | (simp; done) | (simp; omega)) _) | (refine Below.setCell ?_ (by first | omega | (simp; done) | (simp; omega)) _)))) (Or.inr ⟨by rfl, rfl⟩) ?_; simp only [Act.put, List.setIfInBounds_toArray, List.set_cons_zero, List.set_cons_succ]))
      refine wpY_nil ?_
      simp only [OnlyN_normal]
      refine hKK _ _ ?_
      clear hKK KK
      go_wp2_with fail
      go_ret2
      exact ⟨rfl, by (repeat (first | exact Below.refl _ _ | exact HBa.out | exact HBg.out | exact HB9.out | (refine Below.drew ?_) | (refine Below.alloc ?_ (by first | omega | (simp; done) | (simp; omega)) _) | (refine Below.setCell ?_ (by first | omega | (simp; done) | (simp; omega)) _)))⟩
    · refine wpOp_cs rfl (fun K9 hK9 => ?_)
      go_simp
      have hB9 := (HBa.out).alloc (by have := HBa.out.size; first | omega | (simp; done) | (simp; omega)) (.cells #[.int .u8 0, .int .i64 0] 87)
      have HB9 := Lib.hid hB9
      have hk9 : Blk (wa.alloc (.cells #[.int .u8 0, .int .i64 0] 87)) wa.heap.size 87 #[.int .u8 0, .int .i64 0] := Blk.new wa 87 #[.int .u8 0, .int .i64 0]
      have HK9 := Lib.hid hk9
      clear hB9 hk9
      have hz9 := HB9.out.size
      refine hK9 _ _ (fun _ => HB9.out) ?_
      clear hK9 K9
      try simp only [Act.put, List.setIfInBounds_toArray, List.set_cons_zero, List.set_cons_succ]
      try simp only [beside, List.filterMap_nil]
      refine wpY_es (fun K9 hK9 => ?_)
      go_simp
      refine (get_is_Page bp cc sn A m ⟨c, 0⟩ y _ (HS.out.new_ (HB9.out)) HO.out (by omega) HH.out HY.out).mono ?_
      rintro e wg ⟨rfl, hbg⟩
      have hkg := (HK9.out).new_ hbg
      have HKg := Lib.hid hkg
      clear hkg
      have HBg := Lib.hid ((HB9.out).trans (hbg.mono (by have := HB9.out.size; first | omega | (simp at this ⊢; done) | (simp at this ⊢; omega))))
      clear hbg
      have hzg := HBg.out.size
      refine hK9 _ _ (HBg.out) ?_
      clear hK9 K9
      try simp only [Act.put, List.setIfInBounds_toArray, List.set_cons_zero, List.set_cons_succ]
      repeat (first | (refine wpY_w ?_ (Or.inl ⟨by rfl, fun w9 => ?_⟩) ?_; rotate_left 1; go_simp; with_reducible rfl; simp only [Act.put, List.setIfInBounds_toArray, List.set_cons_zero, List.set_cons_succ]) | (refine wpY_l ?_ (HBg.out) (Or.inl ⟨by rfl, fun w9 hw9 => ?_⟩) ?_; rotate_left 1; obtain ⟨hc9, hf9⟩ := bcell hw9; go_simp; with_reducible rfl; simp only [Act.put, List.setIfInBounds_toArray, List.set_cons_zero, List.set_cons_succ]) | (refine wpY_w undef (Or.inr ⟨by rfl, rfl⟩) ?_; simp only [Act.put, List.setIfInBounds_toArray, List.set_cons_zero, List.set_cons_succ]) | (refine wpY_l undef (HBg.out) (Or.inr ⟨by rfl, rfl⟩) ?_; simp only [Act.put, List.setIfInBounds_toArray, List.set_cons_zero, List.set_cons_succ]))
      refine wpY_es (fun K9 hK9 => ?_)
      have u0 := ((HKg.out).cell 0).trans rfl
      have u1 := ((HKg.out).cell 1).trans rfl
      have f0 := (HKg.out).frozen 0
      have f1 := (HKg.out).frozen 1
      have hgl := (HKg.out).lt
      go_simp
      refine hK9 _ _ (by (repeat (first | exact Below.refl _ _ | exact HBa.out | exact HB9.out | exact HBg.out | (refine Below.drew ?_) | (refine Below.alloc ?_ (by first | omega | (simp; done) | (simp; omega)) _) | (refine Below.setCell ?_ (by first | omega | (simp; done) | (simp; omega)) _)))) ?_
      clear hK9 K9
      try simp only [Act.put, List.setIfInBounds_toArray, List.set_cons_zero, List.set_cons_succ]
      repeat (first | (refine wpY_w ?_ (Or.inl ⟨by rfl, fun w9 => ?_⟩) ?_; rotate_left 1; go_simp; with_reducible rfl; simp only [Act.put, List.setIfInBounds_toArray, List.set_cons_zero, List.set_cons_succ]) | (refine wpY_l ?_ (by (repeat (first | exact Below.refl _ _ | exact HBa.out | exact HB9.out | exact HBg.out | (refine Below.drew ?_) | (refine Below.alloc ?_ (by first | omega | (simp; done) | (simp; omega)) _) | (refine Below.setCell ?_ (by first | omega | (simp; done) | (simp; omega)) _)))) (Or.inl ⟨by rfl, fun w9 hw9 => ?_⟩) ?_; rotate_left 1; obtain ⟨hc9, hf9⟩ := bcell hw9; go_simp; with_reducible rfl; simp only [Act.put, List.setIfInBounds_toArray, List.set_cons_zero, List.set_cons_succ]) | (refine wpY_w undef (Or.inr ⟨by rfl, rfl⟩) ?_; simp only [Act.put, List.setIfInBounds_toArray, List.set_cons_zero, List.set_cons_succ]) | (refine wpY_l undef (by (repeat (first | exact Below.refl _ _ | exact HBa.out | exact HB9.out | exact HBg.out | (refine Below.drew ?_) | (refine Below.alloc ?_ (by first | omega | (simp; done) | (simp; omega)) _) | (refine Below.setCell ?_ (by first | omega | (simp; done) | (simp; omega)) _)))) (Or.inr ⟨by rfl, rfl⟩) ?_; simp only [Act.put, List.setIfInBounds_toArray, List.set_cons_zero, List.set_cons_succ]))
      refine wpY_nil ?_
      simp only [OnlyN_normal]
      refine hKK _ _ ?_
      clear hKK KK
      go_wp2_with fail
      go_ret2
      exact ⟨rfl, by (repeat (first | exact Below.refl _ _ | exact HBa.out | exact HB9.out | exact HBg.out | (refine Below.drew ?_) | (refine Below.alloc ?_ (by first | omega | (simp; done) | (simp; omega)) _) | (refine Below.setCell ?_ (by first | omega | (simp; done) | (simp; omega)) _)))⟩
  · refine wpOp_cs rfl (fun K9 hK9 => ?_)
    go_simp
    have hB9 := ((Below.refl w.heap.size w).drew).alloc (by first | omega | simp) (.cells #[.int .u8 0, .int .i64 0] 87)
    have HB9 := Lib.hid hB9
    have hk9 : Blk (w.drew.alloc (.cells #[.int .u8 0, .int .i64 0] 87)) w.heap.size 87 #[.int .u8 0, .int .i64 0] := Blk.new w.drew 87 #[.int .u8 0, .int .i64 0]
    have HK9 := Lib.hid hk9
    clear hB9 hk9
    have hz9 := HB9.out.size
    refine hK9 _ _ (fun _ => HB9.out) ?_
    clear hK9 K9
    try simp only [Act.put, List.setIfInBounds_toArray, List.set_cons_zero, List.set_cons_succ]
    try simp only [beside, List.filterMap_nil]
    refine wpY_es (fun K9 hK9 => ?_)
    go_simp
    refine (at_is c _).mono ?_
    rintro e wa ⟨rfl, hba⟩
    have hka := (HK9.out).new_ hba
    have HKa := Lib.hid hka
    clear hka
    have HBa := Lib.hid ((HB9.out).trans (hba.mono (by have := HB9.out.size; first | omega | (simp at this ⊢; done) | (simp at this ⊢; omega))))
    clear hba
    have hza := HBa.out.size
    refine hK9 _ _ (HBa.out) ?_
    clear hK9 K9
    try simp only [Act.put, List.setIfInBounds_toArray, List.set_cons_zero, List.set_cons_succ]
    refine wpY_es (fun K9 hK9 => ?_)
    go_simp
    refine (get_is_Page bp cc sn A m ⟨c, 0⟩ y _ (HS.out.new_ (HBa.out)) HO.out (by omega) HH.out HY.out).mono ?_
    rintro e wg ⟨rfl, hbg⟩
    have hkg := (HKa.out).new_ hbg
    have HKg := Lib.hid hkg
    clear hkg
    have HBg := Lib.hid ((HBa.out).trans (hbg.mono (by have := HBa.out.size; first | omega | (simp; done) | (simp; omega))))
    clear hbg
    have hzg := HBg.out.size
    refine hK9 _ _ (HBg.out) ?_
    clear hK9 K9
    try simp only [Act.put, List.setIfInBounds_toArray, List.set_cons_zero, List.set_cons_succ]
    repeat (first | (refine wpY_w ?_ (Or.inl ⟨by rfl, fun w9 => ?_⟩) ?_; rotate_left 1; go_simp; with_reducible rfl; simp only [Act.put, List.setIfInBounds_toArray, List.set_cons_zero, List.set_cons_succ]) | (refine wpY_l ?_ (HBg.out) (Or.inl ⟨by rfl, fun w9 hw9 => ?_⟩) ?_; rotate_left 1; obtain ⟨hc9, hf9⟩ := bcell hw9; go_simp; with_reducible rfl; simp only [Act.put, List.setIfInBounds_toArray, List.set_cons_zero, List.set_cons_succ]) | (refine wpY_w undef (Or.inr ⟨by rfl, rfl⟩) ?_; simp only [Act.put, List.setIfInBounds_toArray, List.set_cons_zero, List.set_cons_succ]) | (refine wpY_l undef (HBg.out) (Or.inr ⟨by rfl, rfl⟩) ?_; simp only [Act.put, List.setIfInBounds_toArray, List.set_cons_zero, List.set_cons_succ]))
    refine wpY_es (fun K9 hK9 => ?_)
    have u0 := ((HKg.out).cell 0).trans rfl
    have u1 := ((HKg.out).cell 1).trans rfl
    have f0 := (HKg.out).frozen 0
    have f1 := (HKg.out).frozen 1
    have hgl := (HKg.out).lt
    go_simp
    refine hK9 _ _ (by (repeat (first | exact Below.refl _ _ | exact HB9.out | exact HBa.out | exact HBg.out | (refine Below.drew ?_) | (refine Below.alloc ?_ (by first | omega | (simp; done) | (simp; omega)) _) | (refine Below.setCell ?_ (by first | omega | (simp; done) | (simp; omega)) _)))) ?_
    clear hK9 K9
    try simp only [Act.put, List.setIfInBounds_toArray, List.set_cons_zero, List.set_cons_succ]
    repeat (first | (refine wpY_w ?_ (Or.inl ⟨by rfl, fun w9 => ?_⟩) ?_; rotate_left 1; go_simp; with_reducible rfl; simp only [Act.put, List.setIfInBounds_toArray, List.set_cons_zero, List.set_cons_succ]) | (refine wpY_l ?_ (by (repeat (first | exact Below.refl _ _ | exact HB9.out | exact HBa.out | exact HBg.out | (refine Below.drew ?_) | (refine Below.alloc ?_ (by first | omega | (simp; done) | (simp; omega)) _) | (refine Below.setCell ?_ (by first | omega | (simp; done) | (simp; omega)) _)))) (Or.inl ⟨by rfl, fun w9 hw9 => ?_⟩) ?_; rotate_left 1; obtain ⟨hc9, hf9⟩ := bcell hw9; go_simp; with_reducible rfl; simp only [Act.put, List.setIfInBounds_toArray, List.set_cons_zero, List.set_cons_succ]) | (refine wpY_w undef (Or.inr ⟨by rfl, rfl⟩) ?_; simp only [Act.put, List.setIfInBounds_toArray, List.set_cons_zero, List.set_cons_succ]) | (refine wpY_l undef (by (repeat (first | exact Below.refl _ _ | exact HB9.out | exact HBa.out | exact HBg.out | (refine Below.drew ?_) | (refine Below.alloc ?_ (by first | omega | (simp; done) | (simp; omega)) _) | (refine Below.setCell ?_ (by first | omega | (simp; done) | (simp; omega)) _)))) (Or.inr ⟨by rfl, rfl⟩) ?_; simp only [Act.put, List.setIfInBounds_toArray, List.set_cons_zero, List.set_cons_succ]))
    refine wpY_nil ?_
    simp only [OnlyN_normal]
    refine hKK _ _ ?_
    clear hKK KK
    go_wp2_with fail
    go_ret2
    exact ⟨rfl, by (repeat (first | exact Below.refl _ _ | exact HB9.out | exact HBa.out | exact HBg.out | (refine Below.drew ?_) | (refine Below.alloc ?_ (by first | omega | (simp; done) | (simp; omega)) _) | (refine Below.setCell ?_ (by first | omega | (simp; done) | (simp; omega)) _)))⟩
end Go.Proofs.Ytlkffnmmphehdaa
