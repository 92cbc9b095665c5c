/-
  The walk of the document's Find of an element.
-/
import Derived.Test.YthhhhjllpejpgaaRefOne
import Derived.Test.YthhhhjllpejpgaaKeepNeq
import Derived.Test.YthhhhjllpejpgaaStore
namespace Go.Proofs.Ythhhhjllpejpgaa
open Go.RowKit
theorem found_first {α : Type} {p : α → Bool} {l : List α} {i : Nat} (hi : i < l.length) (h : ∀ k, (h : k < l.length) → k < i → p l[k] = false) (hp : p l[i] = true) : l.find? p = some l[i] := by
  induction l generalizing i with
  | nil => simp at hi
  | cons a l ih =>
    cases i with
    | zero => simp at hp; simp [List.find?_cons, hp]
    | succ i =>
      have h0 := h 0 (by simp) (by omega)
      simp at h0
      simp only [List.find?_cons, h0, List.getElem_cons_succ]
      exact ih (by simpa using hi) (fun k hk hki => h (k + 1) (by simpa using hk) (by omega)) (by simpa using hp)
set_option maxRecDepth 100000 in
set_option maxHeartbeats 8000000 in
theorem findE_is (A : Option Addr) (c : Nat) (l : List Elem) (x : Elem) (w : World) (hrd : RowRd w 12 Elem.cells A c l) :
    Calls Try.prog 48 #[.slice A l.length c, .agg #[.int .i64 x.id.kind, .string x.id.text, .int .i64 x.id.n, .int .i64 x.attr.kind, .string x.attr.text, .int .i64 x.attr.n, .int .i64 x.value.kind, .string x.value.text, .int .i64 x.value.n, .bool x.acc, .bool x.goal, .int .i64 x.tag]] w fun e w' => ((∀ y, l.find? (fun y => oneE y x) = some y → e = .returned (.tuple #[.agg #[.int .i64 y.id.kind, .string y.id.text, .int .i64 y.id.n, .int .i64 y.attr.kind, .string y.attr.text, .int .i64 y.attr.n, .int .i64 y.value.kind, .string y.value.text, .int .i64 y.value.n, .bool y.acc, .bool y.goal, .int .i64 y.tag], .bool true])) ∧ (l.find? (fun y => oneE y x) = none → e = .returned (.tuple #[.agg #[.int .i64 0, .string ⟨#[]⟩, .int .i64 0, .int .i64 0, .string ⟨#[]⟩, .int .i64 0, .int .i64 0, .string ⟨#[]⟩, .int .i64 0, .bool false, .bool false, .int .i64 0], .bool false]))) ∧ Below w.heap.size w w' := by
  have HRD := Lib.hid hrd
  have hlc := hrd.cap
  clear hrd
  go_enter Try.func48, Try.ntmps48
  go_wp2_with fail
  obtain ⟨W0, hW0⟩ : ∃ W0, W0 = (w.alloc (.cells #[.int .i64 x.id.kind, .string x.id.text, .int .i64 x.id.n, .int .i64 x.attr.kind, .string x.attr.text, .int .i64 x.attr.n, .int .i64 x.value.kind, .string x.value.text, .int .i64 x.value.n, .bool x.acc, .bool x.goal, .int .i64 x.tag] 72)).alloc (.cells #[.int .i64 0, .string ⟨#[]⟩, .int .i64 0, .int .i64 0, .string ⟨#[]⟩, .int .i64 0, .int .i64 0, .string ⟨#[]⟩, .int .i64 0, .bool false, .bool false, .int .i64 0] 72) := ⟨_, rfl⟩
  have hX0 : Blk W0 w.heap.size 72 #[.int .i64 x.id.kind, .string x.id.text, .int .i64 x.id.n, .int .i64 x.attr.kind, .string x.attr.text, .int .i64 x.attr.n, .int .i64 x.value.kind, .string x.value.text, .int .i64 x.value.n, .bool x.acc, .bool x.goal, .int .i64 x.tag] := by rw [hW0]; exact (Blk.new _ _ _).alloc _
  have hR0 : Blk W0 (w.heap.size + 1) 72 #[.int .i64 0, .string ⟨#[]⟩, .int .i64 0, .int .i64 0, .string ⟨#[]⟩, .int .i64 0, .int .i64 0, .string ⟨#[]⟩, .int .i64 0, .bool false, .bool false, .int .i64 0] := by
    rw [hW0]
    have := Blk.new (w.alloc (.cells #[.int .i64 x.id.kind, .string x.id.text, .int .i64 x.id.n, .int .i64 x.attr.kind, .string x.attr.text, .int .i64 x.attr.n, .int .i64 x.value.kind, .string x.value.text, .int .i64 x.value.n, .bool x.acc, .bool x.goal, .int .i64 x.tag] 72)) 72 #[.int .i64 0, .string ⟨#[]⟩, .int .i64 0, .int .i64 0, .string ⟨#[]⟩, .int .i64 0, .int .i64 0, .string ⟨#[]⟩, .int .i64 0, .bool false, .bool false, .int .i64 0]
    simpa using this
  have hB0 : Below w.heap.size w W0 := by rw [hW0]; exact ((Below.refl w.heap.size w).alloc (Nat.le_refl _) _).alloc (by simp) _
  rw [← hW0]
  clear hW0
  have HX0 := Lib.hid hX0
  have HR0 := Lib.hid hR0
  have HB0 := Lib.hid hB0
  have hz00 := hB0.size
  have hxl0 := hX0.lt
  have hrl0 := hR0.lt
  clear hX0 hB0 hR0
  go_loopw [6] (fun s wr => ∃ i : Nat, s = .int .i64 i ∧ i ≤ l.length ∧ (∀ k, (h : k < l.length) → k < i → oneE l[k] x = false) ∧ Below W0.heap.size W0 wr) (fun s wr => l.length - (intOf s).toNat)
  case atStart => exact ⟨0, rfl, Nat.zero_le _, fun k _ h => absurd h (by omega), Below.refl _ _⟩
  case round =>
    obtain ⟨i, rfl, hi, hall, hB⟩ := hrel
    have HALL := Lib.hid hall
    have HB := Lib.hid hB
    have HBw := Lib.hid (HB0.out.trans (hB.mono hz00))
    have hzr := hB.size
    have hXr := HX0.out.new_ hB
    have HRr := Lib.hid (HR0.out.new_ hB)
    by_cases hlt : i < l.length
    · have g1 : decide ((i : Int) < (l.length : Int)) = true := by simpa using hlt
      have y0 : wr.cell? ⟨w.heap.size, 0, none⟩ = some (.int .i64 x.id.kind) := (hXr.cell 0).trans rfl
      have y1 : wr.cell? ⟨w.heap.size, 1, none⟩ = some (.string x.id.text) := (hXr.cell 1).trans rfl
      have y2 : wr.cell? ⟨w.heap.size, 2, none⟩ = some (.int .i64 x.id.n) := (hXr.cell 2).trans rfl
      have y3 : wr.cell? ⟨w.heap.size, 3, none⟩ = some (.int .i64 x.attr.kind) := (hXr.cell 3).trans rfl
      have y4 : wr.cell? ⟨w.heap.size, 4, none⟩ = some (.string x.attr.text) := (hXr.cell 4).trans rfl
      have y5 : wr.cell? ⟨w.heap.size, 5, none⟩ = some (.int .i64 x.attr.n) := (hXr.cell 5).trans rfl
      have y6 : wr.cell? ⟨w.heap.size, 6, none⟩ = some (.int .i64 x.value.kind) := (hXr.cell 6).trans rfl
      have y7 : wr.cell? ⟨w.heap.size, 7, none⟩ = some (.string x.value.text) := (hXr.cell 7).trans rfl
      have y8 : wr.cell? ⟨w.heap.size, 8, none⟩ = some (.int .i64 x.value.n) := (hXr.cell 8).trans rfl
      have y9 : wr.cell? ⟨w.heap.size, 9, none⟩ = some (.bool x.acc) := (hXr.cell 9).trans rfl
      have y10 : wr.cell? ⟨w.heap.size, 10, none⟩ = some (.bool x.goal) := (hXr.cell 10).trans rfl
      have y11 : wr.cell? ⟨w.heap.size, 11, none⟩ = some (.int .i64 x.tag) := (hXr.cell 11).trans rfl
      have hxl := hXr.lt
      clear hall hB hXr
      have b1 : (0 : Int) ≤ (i : Int) := by omega
      have b2 : (i : Int) < (l.length : Int) := by omega
      obtain ⟨y, hy⟩ : ∃ y, y = l[i] := ⟨_, rfl⟩
      obtain ⟨g, off, rfl, hgs, q0, q1, q2, q3, q4, q5, q6, q7, q8, q9, q10, q11⟩ := elem_rd (HRD.out.new_ HBw.out) hlt
      rw [← hy] at q0 q1 q2 q3 q4 q5 q6 q7 q8 q9 q10 q11
      have HY := Lib.hid hy
      have HRG := Lib.hid (show wr.rangeAt g (off + i * 12) [.int .i64 y.id.kind, .string y.id.text, .int .i64 y.id.n, .int .i64 y.attr.kind, .string y.attr.text, .int .i64 y.attr.n, .int .i64 y.value.kind, .string y.value.text, .int .i64 y.value.n, .bool y.acc, .bool y.goal, .int .i64 y.tag] from by
        intro j v hv
        match j, hv with
        | 0, hv => injection hv with hv; subst hv; exact q0
        | 1, hv => injection hv with hv; subst hv; exact q1
        | 2, hv => injection hv with hv; subst hv; exact q2
        | 3, hv => injection hv with hv; subst hv; exact q3
        | 4, hv => injection hv with hv; subst hv; exact q4
        | 5, hv => injection hv with hv; subst hv; exact q5
        | 6, hv => injection hv with hv; subst hv; exact q6
        | 7, hv => injection hv with hv; subst hv; exact q7
        | 8, hv => injection hv with hv; subst hv; exact q8
        | 9, hv => injection hv with hv; subst hv; exact q9
        | 10, hv => injection hv with hv; subst hv; exact q10
        | 11, hv => injection hv with hv; subst hv; exact q11
        | j + 12, hv => simp at hv)
      clear hy
      go_wp2_with fail
      refine wp_region_E (fun w9 => Below wr.heap.size wr w9) [(0, 0), (1, 0), (2, 0), (3, 1), (4, 1), (5, 2)] (by kernel_rfl) (by kernel_rfl) (fun KK hKK => ?_)
      simp only [beside, List.filterMap_cons, List.filterMap_nil, List.getElem?_toArray, List.getElem?_cons_zero, List.getElem?_cons_succ, Option.map_some]
      repeat (first | (refine wpX_w ?_ (Or.inl ⟨by rfl, fun w9 => ?_⟩) ?_; rotate_left 1; go_simp; with_reducible rfl; simp only [Act.put, List.setIfInBounds_toArray, List.set_cons_zero, List.set_cons_succ]) | (refine wpX_l ?_ (((Below.refl _ _).drew)) (Or.inl ⟨by rfl, fun w9 hw9 => ?_⟩) ?_; rotate_left 1; obtain ⟨hc9, hf9⟩ := bcell hw9; go_simp; with_reducible rfl; simp only [Act.put, List.setIfInBounds_toArray, List.set_cons_zero, List.set_cons_succ]) | (refine wpX_w undef (Or.inr ⟨by rfl, rfl⟩) ?_; simp only [Act.put, List.setIfInBounds_toArray, List.set_cons_zero, List.set_cons_succ]) | (refine wpX_l undef (((Below.refl _ _).drew)) (Or.inr ⟨by rfl, rfl⟩) ?_; simp only [Act.put, List.setIfInBounds_toArray, List.set_cons_zero, List.set_cons_succ]))
      refine wpX_e (by kernel_rfl) (fun K9 hK9 => ?_)
      go_simp
      refine (one_is y x _).mono ?_
      rintro e w1 ⟨rfl, hb1⟩
      have HB1 := Lib.hid ((Below.refl wr.heap.size wr).drew.trans (hb1.mono (by simp)))
      have hzb1 := HB1.out.size
      clear hb1
      refine hK9 _ _ ?_
      clear hK9 K9
      refine wpX_nil ?_
      simp only [OnlyN_normal]
      refine hKK _ _ ?_
      clear hKK KK
      clear y0 y1 y2 y3 y4 y5 y6 y7 y8 y9 y10 y11 q0 q1 q2 q3 q4 q5 q6 q7 q8 q9 q10 q11
      cases ho : oneE y x
      · have HO := Lib.hid ho
        clear ho
        go_wp2_with fail
        go_roundw
        case rel =>
          refine ⟨i + 1, by go_num, by omega, fun k h hk => ?_, HB.out.trans (HB1.out.mono hzr)⟩
          rcases Nat.lt_or_ge k i with h3 | h3
          · exact HALL.out k h h3
          · obtain rfl : k = i := by omega
            rw [← HY.out]; exact HO.out
        case measure => simp [intOf] <;> omega
      · have HO := Lib.hid ho
        clear ho
        have HR1 := Lib.hid (HRr.out.new_ HB1.out)
        have HTH := Lib.hid (show w1.there (w.heap.size + 1) 0 (#[.int .i64 y.id.kind, .string y.id.text, .int .i64 y.id.n, .int .i64 y.attr.kind, .string y.attr.text, .int .i64 y.attr.n, .int .i64 y.value.kind, .string y.value.text, .int .i64 y.value.n, .bool y.acc, .bool y.goal, .int .i64 y.tag] : Array Value).size from HR1.out.there)
        have HRG1 := Lib.hid (show w1.rangeAt g (off + i * 12) [.int .i64 y.id.kind, .string y.id.text, .int .i64 y.id.n, .int .i64 y.attr.kind, .string y.attr.text, .int .i64 y.attr.n, .int .i64 y.value.kind, .string y.value.text, .int .i64 y.value.n, .bool y.acc, .bool y.goal, .int .i64 y.tag] from rangeAt_below HRG.out HB1.out hgs)
        have HBz := Lib.hid (HBw.out.trans (HB1.out.mono (by omega)))
        go_wp2_with (first | (with_reducible refine wpList_load_mid rfl 72 _ rfl g (off + i * 12) rfl [.int .i64 y.id.kind, .string y.id.text, .int .i64 y.id.n, .int .i64 y.attr.kind, .string y.attr.text, .int .i64 y.attr.n, .int .i64 y.value.kind, .string y.value.text, .int .i64 y.value.n, .bool y.acc, .bool y.goal, .int .i64 y.tag] _ HRG1.out Try.underlying72 rfl (by kernel_rfl) ?_) | (with_reducible refine wpList_store_mid rfl 72 _ _ rfl (w.heap.size + 1) 0 #[.int .i64 y.id.kind, .string y.id.text, .int .i64 y.id.n, .int .i64 y.attr.kind, .string y.attr.text, .int .i64 y.attr.n, .int .i64 y.value.kind, .string y.value.text, .int .i64 y.value.n, .bool y.acc, .bool y.goal, .int .i64 y.tag] rfl rfl HTH.out (by kernel_rfl) (by kernel_rfl) ?_))
        try simp only [Exit.inBlock, Exit.then]
        refine bodyPost_ret (v := .tuple #[.agg #[.int .i64 y.id.kind, .string y.id.text, .int .i64 y.id.n, .int .i64 y.attr.kind, .string y.attr.text, .int .i64 y.attr.n, .int .i64 y.value.kind, .string y.value.text, .int .i64 y.value.n, .bool y.acc, .bool y.goal, .int .i64 y.tag], .bool true]) ?_ rfl ⟨⟨fun y' h => ?_, fun h => ?_⟩, Below.setCells' _ _ HBz.out (by omega)⟩
        · exact results_cell_tmp (t := 4) (s := 5) (T := 72) rfl _ _ (w.heap.size + 1) [.int .i64 y.id.kind, .string y.id.text, .int .i64 y.id.n, .int .i64 y.attr.kind, .string y.attr.text, .int .i64 y.attr.n, .int .i64 y.value.kind, .string y.value.text, .int .i64 y.value.n, .bool y.acc, .bool y.goal, .int .i64 y.tag] _ rfl (World.rangeAt_setCells_same w1 (w.heap.size + 1) 0 [.int .i64 y.id.kind, .string y.id.text, .int .i64 y.id.n, .int .i64 y.attr.kind, .string y.attr.text, .int .i64 y.attr.n, .int .i64 y.value.kind, .string y.value.text, .int .i64 y.value.n, .bool y.acc, .bool y.goal, .int .i64 y.tag] HTH.out) Try.underlying72 rfl (by kernel_rfl)
        · have e := found_first (p := fun y => oneE y x) hlt HALL.out (by simp only [← HY.out]; exact HO.out)
          rw [e, ← HY.out] at h
          injection h with h
          rw [h]
        · have e := found_first (p := fun y => oneE y x) hlt HALL.out (by simp only [← HY.out]; exact HO.out)
          rw [e] at h
          cases h
    · have hie : i = l.length := by omega
      subst hie
      have g1 : decide ((l.length : Int) < (l.length : Int)) = false := by simp
      clear hall hB hXr
      go_wp2_with (first | (with_reducible refine wpList_store_mid rfl 72 _ _ rfl (w.heap.size + 1) 0 #[.int .i64 0, .string ⟨#[]⟩, .int .i64 0, .int .i64 0, .string ⟨#[]⟩, .int .i64 0, .int .i64 0, .string ⟨#[]⟩, .int .i64 0, .bool false, .bool false, .int .i64 0] rfl rfl HRr.out.there (by kernel_rfl) (by kernel_rfl) ?_))
      try simp only [Exit.inBlock, Exit.then]
      have e : l.find? (fun y => oneE y x) = none := List.find?_eq_none.2 (fun y hy => by
        obtain ⟨k, hk, rfl⟩ := List.getElem_of_mem hy
        rw [HALL.out k hk hk]; decide)
      refine bodyPost_ret (v := .tuple #[.agg #[.int .i64 0, .string ⟨#[]⟩, .int .i64 0, .int .i64 0, .string ⟨#[]⟩, .int .i64 0, .int .i64 0, .string ⟨#[]⟩, .int .i64 0, .bool false, .bool false, .int .i64 0], .bool false]) ?_ rfl ⟨⟨fun y' h => ?_, fun h => rfl⟩, Below.setCells' _ _ HBw.out (by omega)⟩
      · exact results_cell_tmp (t := 4) (s := 5) (T := 72) rfl _ _ (w.heap.size + 1) [.int .i64 0, .string ⟨#[]⟩, .int .i64 0, .int .i64 0, .string ⟨#[]⟩, .int .i64 0, .int .i64 0, .string ⟨#[]⟩, .int .i64 0, .bool false, .bool false, .int .i64 0] _ rfl (World.rangeAt_setCells_same wr (w.heap.size + 1) 0 [.int .i64 0, .string ⟨#[]⟩, .int .i64 0, .int .i64 0, .string ⟨#[]⟩, .int .i64 0, .int .i64 0, .string ⟨#[]⟩, .int .i64 0, .bool false, .bool false, .int .i64 0] HRr.out.there) Try.underlying72 rfl (by kernel_rfl)
      · rw [e] at h; cases h
end Go.Proofs.Ythhhhjllpejpgaa
