/-
  For every input SymTables answers true, and leaves its arguments and all that was there as they were. No conditions.
-/
import Derived.Test.YtlkffnmmphehdaaMg

namespace Go.Proofs.Ytlkffnmmphehdaa
open Go.RowKit Go.Shelf
attribute [local go_sem] Oper.semAt_some
/-- What stands between two rounds. -/
def Round4 (w : World) (T : TB) (k : Nat) (room : Int) (W : World) : Prop := ∃ L D A cap, One D W T L ∧ T.room = room ∧ RTabA W k room L A cap ∧ AIn A D ∧ D k ∧ (∀ j, j < w.heap.size → D j) ∧ w.heap.size ≤ k ∧ Below w.heap.size w W
theorem fr_low {w W W' : World} {D : Nat → Prop} (hF : Fr (fun j => ¬ D j) W W') (h : ∀ j, j < w.heap.size → D j) (hs : w.heap.size ≤ W.heap.size) : Below w.heap.size W W' := hF.below hs (fun j hj hn => hn (h j hj))
theorem from_in {A A' : Option Addr} {n m k : Nat} {D : Nat → Prop} (h : From A n A') (hA : AIn A D) (hm : AIn A' (fun j => j ≠ k ∧ j < m)) : AIn A' (fun j => D j ∨ (n ≤ j ∧ j < m)) := by
  intro a ha
  rcases h a ha with ⟨b, hb, e⟩ | h
  · exact .inl (by rw [← e]; exact hA b hb)
  · exact .inr ⟨h, (hm a ha).2⟩
theorem RTabA.blk_ne {W : World} {k g : Nat} {room : Int} {l : List Sym} {A : Option Addr} {cap : Nat} {t : TypeId} {cs : Array Value} (hR : RTabA W k room l A cap) (hB : Blk W g t cs) (ht : t ≠ 41) : g ≠ k := hB.ne_ hR.1 ht
set_option maxRecDepth 100000 in
set_option maxHeartbeats 16000000 in
theorem tables_walk (room : Int) (A0 : Option Addr) (c0 : Nat) (l : List Act4) (w : World) (hr : RowR repAct4 (· < w.heap.size) w A0 c0 l) :
    Calls Try.prog 7 #[.int .i64 room, .slice A0 l.length c0] w fun e w' => e = .returned (.bool true) ∧ Below w.heap.size w w' := by
  have hlc := hr.cap
  have HR := Lib.hid hr
  clear hr
  by_cases hbad : room < 1 ∨ 4096 < room
  · by_cases hlt : room < 1
    all_goals
      first | have t1 : decide (room < 1) = true := by (simp; omega) | skip
      first | have t1 : decide (room < 1) = false := by (simp; omega) | skip
      first | have t2 : decide ((4096 : Int) < room) = true := by (simp; omega) | skip
      have HBAD := Lib.hid hbad
      clear hbad hlt
      go_enter Try.func7, Try.ntmps7
      go_wp2_with fail
      refine (tabnew_no room HBAD.out w).mono ?_
      rintro e w1 ⟨rfl, rfl⟩
      go_wp2_with fail
      refine (wakes4_is _).mono ?_
      rintro e w1 ⟨rfl, hb1⟩
      have HB1 := Lib.hid hb1
      clear hb1
      go_wp2_with fail
      go_ret
      exact ⟨rfl, HB1.out⟩
  have h1 : 1 ≤ room := by omega
  have h2 : room ≤ 4096 := by omega
  have t1 : decide (room < 1) = false := by simp; omega
  have t2 : decide ((4096 : Int) < room) = false := by simp; omega
  clear hbad
  by_cases hlen : 100 < l.length
  · have t3 : decide ((100 : Int) < (l.length : Int)) = true := by simp; omega
    clear hlen
    go_enter Try.func7, Try.ntmps7
    go_wp2_with fail
    refine (one_new room w h1 h2).mono ?_
    rintro e w1 ⟨T, rfl, hrm, hO, hb⟩
    have HB := Lib.hid hb
    clear hO hb hrm
    go_wp2_with fail
    refine (wakes4_is _).mono ?_
    rintro e w2 ⟨rfl, hb1⟩
    have HB1 := Lib.hid (HB.out.trans (hb1.mono HB.out.size))
    clear hb1
    go_wp2_with fail
    go_ret
    exact ⟨rfl, HB1.out⟩
  have t3 : decide ((100 : Int) < (l.length : Int)) = false := by simp; omega
  have hl100 : (l.length : Int) ≤ 100 := by omega
  clear hlen
  go_enter Try.func7, Try.ntmps7
  go_wp2_with fail
  refine (one_new room w h1 h2).mono ?_
  rintro e w1 ⟨T, rfl, hrm, hO, hb⟩
  have HB := Lib.hid hb
  have HO := Lib.hid hO
  have HRM := Lib.hid hrm
  clear hO hb hrm
  go_wp2_with fail
  obtain ⟨k, hk⟩ : ∃ k, k = w1.heap.size := ⟨_, rfl⟩
  obtain ⟨W0, hW0⟩ : ∃ W0, W0 = w1.alloc (.cells #[.int .i64 room, .slice none 0 0] 41) := ⟨_, rfl⟩
  have hb0 : Below w1.heap.size w1 W0 := by rw [hW0]; exact (Below.refl _ _).alloc (Nat.le_refl _) _
  have hR0 : RTabA W0 k room [] none 0 := by
    rw [hW0, hk]
    exact ⟨Blk.new _ _ _, RowRd.nil _ _ _, AIn.none_ _⟩
  have hst : Round4 w T k room W0 := by
    refine ⟨[], _, none, 0, HO.out.protect hb0, HRM.out, hR0, AIn.none_ _, ?_, fun j hj => .inl hj, by have := HB.out.size; omega, HB.out.trans (hb0.mono HB.out.size)⟩
    have := hR0.1.lt
    exact .inr ⟨by omega, this⟩
  rw [← hk, ← hW0]
  have HST := Lib.hid hst
  clear hb0 hR0 hst hW0 hk t1 t2 t3
  go_loopw [8] (fun s wr => ∃ i : Nat, s = .int .i64 i ∧ i ≤ l.length ∧ Round4 w T k room wr) (fun s wr => l.length - (intOf s).toNat)
  case atStart => exact ⟨0, rfl, Nat.zero_le _, HST.out⟩
  case round =>
    obtain ⟨i, rfl, hi, hrd⟩ := hrel
    obtain ⟨L, D, A, cap, hO, hrm, hR, hAD, hDk, hlow, hkw, hBl⟩ := hrd
    have HO := Lib.hid hO
    have HRT := Lib.hid hR
    have HD := Lib.hid (⟨hAD, hDk, hlow⟩ : AIn A D ∧ D k ∧ ∀ j, j < w.heap.size → D j)
    have HBl := Lib.hid hBl
    have hsl := hBl.size
    obtain ⟨hls, hlv, hll, hl4⟩ := hO.list_
    have HLS := Lib.hid hls
    have HLV := Lib.hid hlv
    rw [hrm] at hll hl4
    clear hO hrm hR hAD hDk hlow hBl HST hls hlv
    by_cases hlt : i < l.length
    · obtain ⟨x, hx⟩ : ∃ x, x = l[i] := ⟨_, rfl⟩
      obtain ⟨g, off, A1, c1, rfl, _, hg, q0, q1, q2, q3, q4, q5, hrow⟩ := at_Act4 (HR.out.new_ HBl.out) hlt
      rw [← hx] at q0 q1 q2 q3 q4 q5 hrow
      have b1 : (0 : Int) ≤ (i : Int) := by omega
      have b2 : (i : Int) < (l.length : Int) := by omega
      have HROW := Lib.hid hrow
      clear hx hrow
      by_cases h20 : 20 < x.l.length
      · have t1 : decide ((20 : Int) < (x.l.length : Int)) = true := by simp; omega
        clear h20
        go_wp2_with fail
        refine (wakes4_is _).mono ?_
        rintro e w2 ⟨rfl, hb1⟩
        have HB1 := Lib.hid ((HBl.out.alloc HBl.out.size _).trans (hb1.mono (by have := HBl.out.size; simp; omega)))
        clear hb1 q0 q1 q2 q3 q4 q5
        go_wp2_with fail
        go_ret
        exact ⟨rfl, HB1.out⟩
      have t1 : decide ((20 : Int) < (x.l.length : Int)) = false := by simp; omega
      by_cases h100 : 100 < x.s.text.size
      · have t2 : decide ((100 : Int) < (x.s.text.size : Int)) = true := by simp; omega
        clear h20 h100
        go_wp2_with fail
        refine (wakes4_is _).mono ?_
        rintro e w2 ⟨rfl, hb1⟩
        have HB1 := Lib.hid ((HBl.out.alloc HBl.out.size _).trans (hb1.mono (by have := HBl.out.size; simp; omega)))
        clear hb1 q0 q1 q2 q3 q4 q5
        go_wp2_with fail
        go_ret
        exact ⟨rfl, HB1.out⟩
      have t2 : decide ((100 : Int) < (x.s.text.size : Int)) = false := by simp; omega
      have hx20 : (x.l.length : Int) ≤ 20 := by omega
      clear h20 h100
      go_wp2_with fail
      obtain ⟨q, hq⟩ : ∃ q, q = wr.heap.size := ⟨_, rfl⟩
      rw [← hq]
      obtain ⟨V, hV⟩ : ∃ V, V = wr.alloc (.cells #[.int .i64 x.do_, .int .u8 (x.letter.toNat : Int), .int .i64 x.s.kind, .string x.s.text, .int .i64 x.s.n, .slice A1 x.l.length c1] 43) := ⟨_, rfl⟩
      have hbV : Below wr.heap.size wr V := by rw [hV]; exact (Below.refl _ _).alloc (Nat.le_refl _) _
      have hQV : Blk V q 43 #[.int .i64 x.do_, .int .u8 (x.letter.toNat : Int), .int .i64 x.s.kind, .string x.s.text, .int .i64 x.s.n, .slice A1 x.l.length c1] := by rw [hV, hq]; exact Blk.new _ _ _
      rw [← hV]
      have HOV := Lib.hid (HO.out.below hbV)
      have HRV := Lib.hid (HRT.out.below_ hbV)
      have HBV := Lib.hid (HBl.out.trans (hbV.mono HBl.out.size))
      have HQV := Lib.hid hQV
      have HXV := Lib.hid (HROW.out.new_ hbV)
      have l0 : V.cell? ⟨q, 0, none⟩ = some (.int .i64 x.do_) := (hQV.cell 0).trans rfl
      have l1 : V.cell? ⟨q, 1, none⟩ = some (.int .u8 (x.letter.toNat : Int)) := (hQV.cell 1).trans rfl
      have hqV := hQV.lt
      clear hV hbV hQV hq q0 q1 q2 q3 q4 q5
      obtain ⟨j, hj, hj6⟩ := within_nat x.do_ (n := 6) (by decide)
      refine (within_is x.do_ 6 _ (by decide)).mono ?_
      rintro e w' ⟨rfl, rfl⟩
      rw [show within x.do_ 6 = (j : Int) from hj]
      clear hj
      have hj7 : j = 0 ∨ j = 1 ∨ j = 2 ∨ j = 3 ∨ j = 4 ∨ j = 5 := by omega
      clear hj6
      rcases hj7 with rfl | rfl | rfl | rfl | rfl | rfl
      · clear l0 l1
        go_wp2_with fail
        refine wp_region_E (fun w9 => Blk w9 q 43 #[.int .i64 x.do_, .int .u8 (x.letter.toNat : Int), .int .i64 x.s.kind, .string x.s.text, .int .i64 x.s.n, .slice A1 x.l.length c1]) [(0, 0), (1, 0), (2, 1), (4, 0), (5, 0), (6, 1), (3, 2), (7, 2), (8, 0), (9, 0)] (by kernel_rfl) (by kernel_rfl) (fun KK hKK => ?_)
        simp only [beside, List.filterMap_cons, List.filterMap_nil, List.getElem?_toArray, List.getElem?_cons_zero, List.getElem?_cons_succ, Option.map_some]
        repeat (first | (refine wpX_w ?_ (Or.inl ⟨by rfl, fun w9 => ?_⟩) ?_; rotate_left 1; go_simp; with_reducible rfl; simp only [Act.put, List.setIfInBounds_toArray, List.set_cons_zero, List.set_cons_succ]) | (refine wpX_l ?_ ((HQV.out.drew)) (Or.inl ⟨by rfl, fun w9 hw9 => ?_⟩) ?_; rotate_left 1; have l0 := (hw9.cell 0).trans rfl; have l1 := (hw9.cell 1).trans rfl; have l2 := (hw9.cell 2).trans rfl; have l3 := (hw9.cell 3).trans rfl; have l4 := (hw9.cell 4).trans rfl; have l5 := (hw9.cell 5).trans rfl; have lq := hw9.lt; go_simp; with_reducible rfl; simp only [Act.put, List.setIfInBounds_toArray, List.set_cons_zero, List.set_cons_succ]) | (refine wpX_w undef (Or.inr ⟨by rfl, rfl⟩) ?_; simp only [Act.put, List.setIfInBounds_toArray, List.set_cons_zero, List.set_cons_succ]) | (refine wpX_l undef ((HQV.out.drew)) (Or.inr ⟨by rfl, rfl⟩) ?_; simp only [Act.put, List.setIfInBounds_toArray, List.set_cons_zero, List.set_cons_succ]))
        refine wpX_es (fun K9 hK9 => ?_)
        go_simp
        refine (one_put x.l A1 c1 (HOV.out.below ((Below.refl _ _).drew)) (RowR.rd (HXV.out.new_ ((Below.refl _ _).drew))) (by omega)).mono ?_
        rintro e W2 ⟨rfl, hO2, hF2, hK2⟩
        rw [HRM.out] at hO2 ⊢
        have hQ2 : Blk W2 q 43 #[.int .i64 x.do_, .int .u8 (x.letter.toNat : Int), .int .i64 x.s.kind, .string x.s.text, .int .i64 x.s.n, .slice A1 x.l.length c1] := hK2 _ _ _ (by decide) (by decide) (by decide) (by decide) HQV.out.drew
        have hR2 : RTabA W2 k room L A cap := (HRV.out.below_ ((Below.refl _ _).drew)).frD hK2 hF2 HD.out.1
        have hbW2 : Below w.heap.size V W2 := (Below.drew (Below.refl _ _)).trans (fr_low hF2 HD.out.2.2 (by have := HBV.out.size; simp; omega))
        have HO2 := Lib.hid hO2
        have HR2 := Lib.hid hR2
        have HQ2 := Lib.hid hQ2
        have HX2 := Lib.hid (HXV.out.keep (D' := (· < w.heap.size)) hbW2.size (fun j hj _ => ⟨hj, hbW2.block j hj⟩))
        have HB2 := Lib.hid (HBV.out.trans hbW2)
        clear hO2 hF2 hK2 hQ2 hR2 hbW2
        refine hK9 _ _ HQ2.out ?_
        clear hK9 K9
        refine wpX_es (fun K9 hK9 => ?_)
        go_simp
        refine (doc_put k room x.l A A1 cap c1 HR2.out HLS.out (RowR.rd HX2.out) (by omega) (by omega)).mono ?_
        rintro e W3 ⟨rfl, ⟨A3, cap3, hR3, hfrom⟩, hF3⟩
        have hQ3 : Blk W3 q 43 #[.int .i64 x.do_, .int .u8 (x.letter.toNat : Int), .int .i64 x.s.kind, .string x.s.text, .int .i64 x.s.n, .slice A1 x.l.length c1] := HQ2.out.fr hF3 (HR2.out.blk_ne HQ2.out (by decide))
        have HO3 := Lib.hid (HO2.out.doc HR2.out hF3)
        have HD3 := Lib.hid (⟨from_in hfrom HD.out.1 hR3.2.2, .inl HD.out.2.1, fun j hj => .inl (HD.out.2.2 j hj)⟩ : AIn A3 (fun j => D j ∨ (W2.heap.size ≤ j ∧ j < W3.heap.size)) ∧ (fun j => D j ∨ (W2.heap.size ≤ j ∧ j < W3.heap.size)) k ∧ ∀ j, j < w.heap.size → (fun j => D j ∨ (W2.heap.size ≤ j ∧ j < W3.heap.size)) j)
        have HB3 := Lib.hid (HB2.out.trans (hF3.below HB2.out.size (fun j hj e => by omega)))
        have HR3 := Lib.hid hR3
        clear hR3 hfrom hF3
        refine hK9 _ _ hQ3 ?_
        clear hK9 K9 hQ3
        repeat (first | (refine wpX_w ?_ (Or.inl ⟨by rfl, fun w9 => ?_⟩) ?_; rotate_left 1; go_simp; with_reducible rfl; simp only [Act.put, List.setIfInBounds_toArray, List.set_cons_zero, List.set_cons_succ]) | (refine wpX_l ?_ (HQ2.out) (Or.inl ⟨by rfl, fun w9 hw9 => ?_⟩) ?_; rotate_left 1; have l0 := (hw9.cell 0).trans rfl; have l1 := (hw9.cell 1).trans rfl; have l2 := (hw9.cell 2).trans rfl; have l3 := (hw9.cell 3).trans rfl; have l4 := (hw9.cell 4).trans rfl; have l5 := (hw9.cell 5).trans rfl; have lq := hw9.lt; go_simp; with_reducible rfl; simp only [Act.put, List.setIfInBounds_toArray, List.set_cons_zero, List.set_cons_succ]) | (refine wpX_w undef (Or.inr ⟨by rfl, rfl⟩) ?_; simp only [Act.put, List.setIfInBounds_toArray, List.set_cons_zero, List.set_cons_succ]) | (refine wpX_l undef (HQ2.out) (Or.inr ⟨by rfl, rfl⟩) ?_; simp only [Act.put, List.setIfInBounds_toArray, List.set_cons_zero, List.set_cons_succ]))
        refine wpX_nil ?_
        simp only [OnlyN_normal]
        refine hKK _ _ ?_
        clear hKK KK
        go_wp2_with fail
        refine wp_region_E (fun w9 => Blk w9 k 41 #[.int .i64 room, .slice A3 (putList room L x.l).length cap3]) [(0, 0), (1, 0), (2, 0), (3, 0), (5, 0), (6, 0), (7, 0), (8, 1), (9, 0), (4, 2), (10, 0), (11, 0)] (by kernel_rfl) (by kernel_rfl) (fun KK hKK => ?_)
        simp only [beside, List.filterMap_cons, List.filterMap_nil, List.getElem?_toArray, List.getElem?_cons_zero, List.getElem?_cons_succ, Option.map_some]
        repeat (first | (refine wpX_w ?_ (Or.inl ⟨by rfl, fun w9 => ?_⟩) ?_; rotate_left 1; go_simp; with_reducible rfl; simp only [Act.put, List.setIfInBounds_toArray, List.set_cons_zero, List.set_cons_succ]) | (refine wpX_l ?_ ((HR3.out.1.drew)) (Or.inl ⟨by rfl, fun w9 hw9 => ?_⟩) ?_; rotate_left 1; have l0 := (hw9.cell 0).trans rfl; have l1 := (hw9.cell 1).trans rfl; have lq := hw9.lt; go_simp; with_reducible rfl; simp only [Act.put, List.setIfInBounds_toArray, List.set_cons_zero, List.set_cons_succ]) | (refine wpX_w undef (Or.inr ⟨by rfl, rfl⟩) ?_; simp only [Act.put, List.setIfInBounds_toArray, List.set_cons_zero, List.set_cons_succ]) | (refine wpX_l undef ((HR3.out.1.drew)) (Or.inr ⟨by rfl, rfl⟩) ?_; simp only [Act.put, List.setIfInBounds_toArray, List.set_cons_zero, List.set_cons_succ]))
        refine wpX_es (fun K9 hK9 => ?_)
        go_simp
        refine (one_len (HO3.out.below ((Below.refl _ _).drew))).mono ?_
        rintro e wx ⟨rfl, rfl⟩
        refine hK9 _ _ (HR3.out.1.drew) ?_
        clear hK9 K9
        repeat (first | (refine wpX_w ?_ (Or.inl ⟨by rfl, fun w9 => ?_⟩) ?_; rotate_left 1; go_simp; with_reducible rfl; simp only [Act.put, List.setIfInBounds_toArray, List.set_cons_zero, List.set_cons_succ]) | (refine wpX_l ?_ ((HR3.out.1.drew)) (Or.inl ⟨by rfl, fun w9 hw9 => ?_⟩) ?_; rotate_left 1; have l0 := (hw9.cell 0).trans rfl; have l1 := (hw9.cell 1).trans rfl; have lq := hw9.lt; go_simp; with_reducible rfl; simp only [Act.put, List.setIfInBounds_toArray, List.set_cons_zero, List.set_cons_succ]) | (refine wpX_w undef (Or.inr ⟨by rfl, rfl⟩) ?_; simp only [Act.put, List.setIfInBounds_toArray, List.set_cons_zero, List.set_cons_succ]) | (refine wpX_l undef ((HR3.out.1.drew)) (Or.inr ⟨by rfl, rfl⟩) ?_; simp only [Act.put, List.setIfInBounds_toArray, List.set_cons_zero, List.set_cons_succ]))
        refine wpX_nil ?_
        simp only [OnlyN_normal]
        refine hKK _ _ ?_
        clear hKK KK
        go_wp2_with fail
        go_roundw
        case rel => exact ⟨i + 1, by go_num, by omega, putList room L x.l, (fun j => D j ∨ (W2.heap.size ≤ j ∧ j < W3.heap.size)), A3, cap3, HO3.out.below ((Below.refl _ _).drew), HRM.out, HR3.out.below_ ((Below.refl _ _).drew), HD3.out.1, HD3.out.2.1, HD3.out.2.2, hkw, HB3.out.drew⟩
        case measure => simp [intOf] <;> omega
      · clear l0 l1
        go_wp2_with fail
        refine wp_region_E (fun w9 => Blk w9 q 43 #[.int .i64 x.do_, .int .u8 (x.letter.toNat : Int), .int .i64 x.s.kind, .string x.s.text, .int .i64 x.s.n, .slice A1 x.l.length c1]) [(0, 0), (1, 0), (2, 1), (4, 0), (5, 0), (6, 1), (3, 2), (7, 2), (8, 0), (9, 0)] (by kernel_rfl) (by kernel_rfl) (fun KK hKK => ?_)
        simp only [beside, List.filterMap_cons, List.filterMap_nil, List.getElem?_toArray, List.getElem?_cons_zero, List.getElem?_cons_succ, Option.map_some]
        repeat (first | (refine wpX_w ?_ (Or.inl ⟨by rfl, fun w9 => ?_⟩) ?_; rotate_left 1; go_simp; with_reducible rfl; simp only [Act.put, List.setIfInBounds_toArray, List.set_cons_zero, List.set_cons_succ]) | (refine wpX_l ?_ ((HQV.out.drew)) (Or.inl ⟨by rfl, fun w9 hw9 => ?_⟩) ?_; rotate_left 1; have l0 := (hw9.cell 0).trans rfl; have l1 := (hw9.cell 1).trans rfl; have l2 := (hw9.cell 2).trans rfl; have l3 := (hw9.cell 3).trans rfl; have l4 := (hw9.cell 4).trans rfl; have l5 := (hw9.cell 5).trans rfl; have lq := hw9.lt; go_simp; with_reducible rfl; simp only [Act.put, List.setIfInBounds_toArray, List.set_cons_zero, List.set_cons_succ]) | (refine wpX_w undef (Or.inr ⟨by rfl, rfl⟩) ?_; simp only [Act.put, List.setIfInBounds_toArray, List.set_cons_zero, List.set_cons_succ]) | (refine wpX_l undef ((HQV.out.drew)) (Or.inr ⟨by rfl, rfl⟩) ?_; simp only [Act.put, List.setIfInBounds_toArray, List.set_cons_zero, List.set_cons_succ]))
        refine wpX_es (fun K9 hK9 => ?_)
        go_simp
        refine (one_put x.l A1 c1 (HOV.out.below ((Below.refl _ _).drew)) (RowR.rd (HXV.out.new_ ((Below.refl _ _).drew))) (by omega)).mono ?_
        rintro e W2 ⟨rfl, hO2, hF2, hK2⟩
        rw [HRM.out] at hO2 ⊢
        have hQ2 : Blk W2 q 43 #[.int .i64 x.do_, .int .u8 (x.letter.toNat : Int), .int .i64 x.s.kind, .string x.s.text, .int .i64 x.s.n, .slice A1 x.l.length c1] := hK2 _ _ _ (by decide) (by decide) (by decide) (by decide) HQV.out.drew
        have hR2 : RTabA W2 k room L A cap := (HRV.out.below_ ((Below.refl _ _).drew)).frD hK2 hF2 HD.out.1
        have hbW2 : Below w.heap.size V W2 := (Below.drew (Below.refl _ _)).trans (fr_low hF2 HD.out.2.2 (by have := HBV.out.size; simp; omega))
        have HO2 := Lib.hid hO2
        have HR2 := Lib.hid hR2
        have HQ2 := Lib.hid hQ2
        have HX2 := Lib.hid (HXV.out.keep (D' := (· < w.heap.size)) hbW2.size (fun j hj _ => ⟨hj, hbW2.block j hj⟩))
        have HB2 := Lib.hid (HBV.out.trans hbW2)
        clear hO2 hF2 hK2 hQ2 hR2 hbW2
        refine hK9 _ _ HQ2.out ?_
        clear hK9 K9
        refine wpX_es (fun K9 hK9 => ?_)
        go_simp
        refine (doc_put k room x.l A A1 cap c1 HR2.out HLS.out (RowR.rd HX2.out) (by omega) (by omega)).mono ?_
        rintro e W3 ⟨rfl, ⟨A3, cap3, hR3, hfrom⟩, hF3⟩
        have hQ3 : Blk W3 q 43 #[.int .i64 x.do_, .int .u8 (x.letter.toNat : Int), .int .i64 x.s.kind, .string x.s.text, .int .i64 x.s.n, .slice A1 x.l.length c1] := HQ2.out.fr hF3 (HR2.out.blk_ne HQ2.out (by decide))
        have HO3 := Lib.hid (HO2.out.doc HR2.out hF3)
        have HD3 := Lib.hid (⟨from_in hfrom HD.out.1 hR3.2.2, .inl HD.out.2.1, fun j hj => .inl (HD.out.2.2 j hj)⟩ : AIn A3 (fun j => D j ∨ (W2.heap.size ≤ j ∧ j < W3.heap.size)) ∧ (fun j => D j ∨ (W2.heap.size ≤ j ∧ j < W3.heap.size)) k ∧ ∀ j, j < w.heap.size → (fun j => D j ∨ (W2.heap.size ≤ j ∧ j < W3.heap.size)) j)
        have HB3 := Lib.hid (HB2.out.trans (hF3.below HB2.out.size (fun j hj e => by omega)))
        have HR3 := Lib.hid hR3
        clear hR3 hfrom hF3
        refine hK9 _ _ hQ3 ?_
        clear hK9 K9 hQ3
        repeat (first | (refine wpX_w ?_ (Or.inl ⟨by rfl, fun w9 => ?_⟩) ?_; rotate_left 1; go_simp; with_reducible rfl; simp only [Act.put, List.setIfInBounds_toArray, List.set_cons_zero, List.set_cons_succ]) | (refine wpX_l ?_ (HQ2.out) (Or.inl ⟨by rfl, fun w9 hw9 => ?_⟩) ?_; rotate_left 1; have l0 := (hw9.cell 0).trans rfl; have l1 := (hw9.cell 1).trans rfl; have l2 := (hw9.cell 2).trans rfl; have l3 := (hw9.cell 3).trans rfl; have l4 := (hw9.cell 4).trans rfl; have l5 := (hw9.cell 5).trans rfl; have lq := hw9.lt; go_simp; with_reducible rfl; simp only [Act.put, List.setIfInBounds_toArray, List.set_cons_zero, List.set_cons_succ]) | (refine wpX_w undef (Or.inr ⟨by rfl, rfl⟩) ?_; simp only [Act.put, List.setIfInBounds_toArray, List.set_cons_zero, List.set_cons_succ]) | (refine wpX_l undef (HQ2.out) (Or.inr ⟨by rfl, rfl⟩) ?_; simp only [Act.put, List.setIfInBounds_toArray, List.set_cons_zero, List.set_cons_succ]))
        refine wpX_nil ?_
        simp only [OnlyN_normal]
        refine hKK _ _ ?_
        clear hKK KK
        go_wp2_with fail
        refine wp_region_E (fun w9 => Blk w9 k 41 #[.int .i64 room, .slice A3 (putList room L x.l).length cap3]) [(0, 0), (1, 0), (2, 0), (3, 0), (5, 0), (6, 0), (7, 0), (8, 1), (9, 0), (4, 2), (10, 0), (11, 0)] (by kernel_rfl) (by kernel_rfl) (fun KK hKK => ?_)
        simp only [beside, List.filterMap_cons, List.filterMap_nil, List.getElem?_toArray, List.getElem?_cons_zero, List.getElem?_cons_succ, Option.map_some]
        repeat (first | (refine wpX_w ?_ (Or.inl ⟨by rfl, fun w9 => ?_⟩) ?_; rotate_left 1; go_simp; with_reducible rfl; simp only [Act.put, List.setIfInBounds_toArray, List.set_cons_zero, List.set_cons_succ]) | (refine wpX_l ?_ ((HR3.out.1.drew)) (Or.inl ⟨by rfl, fun w9 hw9 => ?_⟩) ?_; rotate_left 1; have l0 := (hw9.cell 0).trans rfl; have l1 := (hw9.cell 1).trans rfl; have lq := hw9.lt; go_simp; with_reducible rfl; simp only [Act.put, List.setIfInBounds_toArray, List.set_cons_zero, List.set_cons_succ]) | (refine wpX_w undef (Or.inr ⟨by rfl, rfl⟩) ?_; simp only [Act.put, List.setIfInBounds_toArray, List.set_cons_zero, List.set_cons_succ]) | (refine wpX_l undef ((HR3.out.1.drew)) (Or.inr ⟨by rfl, rfl⟩) ?_; simp only [Act.put, List.setIfInBounds_toArray, List.set_cons_zero, List.set_cons_succ]))
        refine wpX_es (fun K9 hK9 => ?_)
        go_simp
        refine (one_len (HO3.out.below ((Below.refl _ _).drew))).mono ?_
        rintro e wx ⟨rfl, rfl⟩
        refine hK9 _ _ (HR3.out.1.drew) ?_
        clear hK9 K9
        repeat (first | (refine wpX_w ?_ (Or.inl ⟨by rfl, fun w9 => ?_⟩) ?_; rotate_left 1; go_simp; with_reducible rfl; simp only [Act.put, List.setIfInBounds_toArray, List.set_cons_zero, List.set_cons_succ]) | (refine wpX_l ?_ ((HR3.out.1.drew)) (Or.inl ⟨by rfl, fun w9 hw9 => ?_⟩) ?_; rotate_left 1; have l0 := (hw9.cell 0).trans rfl; have l1 := (hw9.cell 1).trans rfl; have lq := hw9.lt; go_simp; with_reducible rfl; simp only [Act.put, List.setIfInBounds_toArray, List.set_cons_zero, List.set_cons_succ]) | (refine wpX_w undef (Or.inr ⟨by rfl, rfl⟩) ?_; simp only [Act.put, List.setIfInBounds_toArray, List.set_cons_zero, List.set_cons_succ]) | (refine wpX_l undef ((HR3.out.1.drew)) (Or.inr ⟨by rfl, rfl⟩) ?_; simp only [Act.put, List.setIfInBounds_toArray, List.set_cons_zero, List.set_cons_succ]))
        refine wpX_nil ?_
        simp only [OnlyN_normal]
        refine hKK _ _ ?_
        clear hKK KK
        go_wp2_with fail
        go_roundw
        case rel => exact ⟨i + 1, by go_num, by omega, putList room L x.l, (fun j => D j ∨ (W2.heap.size ≤ j ∧ j < W3.heap.size)), A3, cap3, HO3.out.below ((Below.refl _ _).drew), HRM.out, HR3.out.below_ ((Below.refl _ _).drew), HD3.out.1, HD3.out.2.1, HD3.out.2.2, hkw, HB3.out.drew⟩
        case measure => simp [intOf] <;> omega
      · clear l0
        go_wp2_with fail
        refine (one_fresh x.letter HOV.out).mono ?_
        rintro e W2 ⟨rfl, hO2, hF2, hK2⟩
        rw [HRM.out] at hO2 ⊢
        obtain ⟨y, hy⟩ : ∃ y, y = freshS room L x.letter := ⟨_, rfl⟩
        rw [← hy]
        have HY := Lib.hid hy
        have hQ2 : Blk W2 q 43 #[.int .i64 x.do_, .int .u8 (x.letter.toNat : Int), .int .i64 x.s.kind, .string x.s.text, .int .i64 x.s.n, .slice A1 x.l.length c1] := hK2 _ _ _ (by decide) (by decide) (by decide) (by decide) HQV.out
        have hR2 : RTabA W2 k room L A cap := HRV.out.frD hK2 hF2 HD.out.1
        have hbW2 : Below w.heap.size V W2 := fr_low hF2 HD.out.2.2 HBV.out.size
        have HO1 := Lib.hid hO2
        have HR1 := Lib.hid hR2
        have HB1 := Lib.hid (HBV.out.trans hbW2)
        have l1 : W2.cell? ⟨q, 1, none⟩ = some (.int .u8 (x.letter.toNat : Int)) := (hQ2.cell 1).trans rfl
        have hq2 := hQ2.lt
        clear hO2 hF2 hK2 hQ2 hR2 hbW2 hy
        go_wp2_with fail
        obtain ⟨g1, hg1⟩ : ∃ g1, g1 = W2.heap.size := ⟨_, rfl⟩
        obtain ⟨W1, hW1⟩ : ∃ W1, W1 = W2.alloc (.cells #[.int .i64 y.kind, .string y.text, .int .i64 y.n] 23) := ⟨_, rfl⟩
        have hbn : Below W2.heap.size W2 W1 := by rw [hW1]; exact (Below.refl _ _).alloc (Nat.le_refl _) _
        have hY1 : Blk W1 g1 23 #[.int .i64 y.kind, .string y.text, .int .i64 y.n] := by rw [hW1, hg1]; exact Blk.new _ _ _
        rw [← hW1, ← hg1]
        have HOa := Lib.hid (HO1.out.below hbn)
        have HRa := Lib.hid (HR1.out.below_ hbn)
        have HBa := Lib.hid (HB1.out.trans (hbn.mono HB1.out.size))
        have HYa := Lib.hid hY1
        clear hW1 hg1 hbn hY1 l1 HO1 HR1 HB1
        refine (doc_fresh k room x.letter A cap HRa.out HLS.out HLV.out (by omega)).mono ?_
        rintro e W3 ⟨rfl, ⟨A3, cap3, hR3, hfrom⟩, hF3⟩
        rw [← HY.out]
        have hY3 := HYa.out.fr hF3 (HRa.out.blk_ne HYa.out (by decide))
        have HO3 := Lib.hid (HOa.out.doc HRa.out hF3)
        have HD3 := Lib.hid (⟨from_in hfrom HD.out.1 hR3.2.2, .inl HD.out.2.1, fun j hj => .inl (HD.out.2.2 j hj)⟩ : AIn A3 (fun j => D j ∨ (W1.heap.size ≤ j ∧ j < W3.heap.size)) ∧ (fun j => D j ∨ (W1.heap.size ≤ j ∧ j < W3.heap.size)) k ∧ ∀ j, j < w.heap.size → (fun j => D j ∨ (W1.heap.size ≤ j ∧ j < W3.heap.size)) j)
        have HB3 := Lib.hid (HBa.out.trans (hF3.below HBa.out.size (fun j hj e => by omega)))
        have HR3 := Lib.hid hR3
        clear hR3 hfrom hF3
        have y0 : W3.cell? ⟨g1, 0, none⟩ = some (.int .i64 y.kind) := (hY3.cell 0).trans rfl
        have y1 : W3.cell? ⟨g1, 1, none⟩ = some (.string y.text) := (hY3.cell 1).trans rfl
        have y2 : W3.cell? ⟨g1, 2, none⟩ = some (.int .i64 y.n) := (hY3.cell 2).trans rfl
        have hgl := hY3.lt
        clear hY3
        have he := eql_sym y y
        simp only [decide_true] at he
        go_wp2_with fail
        clear he y0 y1 y2
        obtain ⟨W4, hW4⟩ : ∃ W4, W4 = W3.alloc (.cells #[.int .i64 y.kind, .string y.text, .int .i64 y.n] 23) := ⟨_, rfl⟩
        have hbn : Below W3.heap.size W3 W4 := by rw [hW4]; exact (Below.refl _ _).alloc (Nat.le_refl _) _
        rw [← hW4]
        have HO4 := Lib.hid (HO3.out.below hbn)
        have HR4 := Lib.hid (HR3.out.below_ hbn)
        have HB4 := Lib.hid (HB3.out.trans (hbn.mono HB3.out.size))
        clear hW4 hbn HO3 HR3 HB3
        have HO3 := HO4
        have HR3 := HR4
        have HB3 := HB4
        clear HO4 HR4 HB4
        refine wp_region_E (fun w9 => Blk w9 k 41 #[.int .i64 room, .slice A3 (freshL room L x.letter).length cap3]) [(0, 0), (1, 0), (2, 0), (3, 0), (5, 0), (6, 0), (7, 0), (8, 1), (9, 0), (4, 2), (10, 0), (11, 0)] (by kernel_rfl) (by kernel_rfl) (fun KK hKK => ?_)
        simp only [beside, List.filterMap_cons, List.filterMap_nil, List.getElem?_toArray, List.getElem?_cons_zero, List.getElem?_cons_succ, Option.map_some]
        repeat (first | (refine wpX_w ?_ (Or.inl ⟨by rfl, fun w9 => ?_⟩) ?_; rotate_left 1; go_simp; with_reducible rfl; simp only [Act.put, List.setIfInBounds_toArray, List.set_cons_zero, List.set_cons_succ]) | (refine wpX_l ?_ ((HR3.out.1.drew)) (Or.inl ⟨by rfl, fun w9 hw9 => ?_⟩) ?_; rotate_left 1; have l0 := (hw9.cell 0).trans rfl; have l1 := (hw9.cell 1).trans rfl; have lq := hw9.lt; go_simp; with_reducible rfl; simp only [Act.put, List.setIfInBounds_toArray, List.set_cons_zero, List.set_cons_succ]) | (refine wpX_w undef (Or.inr ⟨by rfl, rfl⟩) ?_; simp only [Act.put, List.setIfInBounds_toArray, List.set_cons_zero, List.set_cons_succ]) | (refine wpX_l undef ((HR3.out.1.drew)) (Or.inr ⟨by rfl, rfl⟩) ?_; simp only [Act.put, List.setIfInBounds_toArray, List.set_cons_zero, List.set_cons_succ]))
        refine wpX_es (fun K9 hK9 => ?_)
        go_simp
        refine (one_len (HO3.out.below ((Below.refl _ _).drew))).mono ?_
        rintro e wx ⟨rfl, rfl⟩
        refine hK9 _ _ (HR3.out.1.drew) ?_
        clear hK9 K9
        repeat (first | (refine wpX_w ?_ (Or.inl ⟨by rfl, fun w9 => ?_⟩) ?_; rotate_left 1; go_simp; with_reducible rfl; simp only [Act.put, List.setIfInBounds_toArray, List.set_cons_zero, List.set_cons_succ]) | (refine wpX_l ?_ ((HR3.out.1.drew)) (Or.inl ⟨by rfl, fun w9 hw9 => ?_⟩) ?_; rotate_left 1; have l0 := (hw9.cell 0).trans rfl; have l1 := (hw9.cell 1).trans rfl; have lq := hw9.lt; go_simp; with_reducible rfl; simp only [Act.put, List.setIfInBounds_toArray, List.set_cons_zero, List.set_cons_succ]) | (refine wpX_w undef (Or.inr ⟨by rfl, rfl⟩) ?_; simp only [Act.put, List.setIfInBounds_toArray, List.set_cons_zero, List.set_cons_succ]) | (refine wpX_l undef ((HR3.out.1.drew)) (Or.inr ⟨by rfl, rfl⟩) ?_; simp only [Act.put, List.setIfInBounds_toArray, List.set_cons_zero, List.set_cons_succ]))
        refine wpX_nil ?_
        simp only [OnlyN_normal]
        refine hKK _ _ ?_
        clear hKK KK
        go_wp2_with fail
        go_roundw
        case rel => exact ⟨i + 1, by go_num, by omega, freshL room L x.letter, (fun j => D j ∨ (W1.heap.size ≤ j ∧ j < W3.heap.size)), A3, cap3, HO3.out.below ((Below.refl _ _).drew), HRM.out, HR3.out.below_ ((Below.refl _ _).drew), HD3.out.1, HD3.out.2.1, HD3.out.2.2, hkw, HB3.out.drew⟩
        case measure => simp [intOf] <;> omega
      · clear l0
        go_wp2_with fail
        refine (one_fresh x.letter HOV.out).mono ?_
        rintro e W2 ⟨rfl, hO2, hF2, hK2⟩
        rw [HRM.out] at hO2 ⊢
        obtain ⟨y, hy⟩ : ∃ y, y = freshS room L x.letter := ⟨_, rfl⟩
        rw [← hy]
        have HY := Lib.hid hy
        have hQ2 : Blk W2 q 43 #[.int .i64 x.do_, .int .u8 (x.letter.toNat : Int), .int .i64 x.s.kind, .string x.s.text, .int .i64 x.s.n, .slice A1 x.l.length c1] := hK2 _ _ _ (by decide) (by decide) (by decide) (by decide) HQV.out
        have hR2 : RTabA W2 k room L A cap := HRV.out.frD hK2 hF2 HD.out.1
        have hbW2 : Below w.heap.size V W2 := fr_low hF2 HD.out.2.2 HBV.out.size
        have HO1 := Lib.hid hO2
        have HR1 := Lib.hid hR2
        have HB1 := Lib.hid (HBV.out.trans hbW2)
        have l1 : W2.cell? ⟨q, 1, none⟩ = some (.int .u8 (x.letter.toNat : Int)) := (hQ2.cell 1).trans rfl
        have hq2 := hQ2.lt
        clear hO2 hF2 hK2 hQ2 hR2 hbW2 hy
        go_wp2_with fail
        obtain ⟨g1, hg1⟩ : ∃ g1, g1 = W2.heap.size := ⟨_, rfl⟩
        obtain ⟨W1, hW1⟩ : ∃ W1, W1 = W2.alloc (.cells #[.int .i64 y.kind, .string y.text, .int .i64 y.n] 23) := ⟨_, rfl⟩
        have hbn : Below W2.heap.size W2 W1 := by rw [hW1]; exact (Below.refl _ _).alloc (Nat.le_refl _) _
        have hY1 : Blk W1 g1 23 #[.int .i64 y.kind, .string y.text, .int .i64 y.n] := by rw [hW1, hg1]; exact Blk.new _ _ _
        rw [← hW1, ← hg1]
        have HOa := Lib.hid (HO1.out.below hbn)
        have HRa := Lib.hid (HR1.out.below_ hbn)
        have HBa := Lib.hid (HB1.out.trans (hbn.mono HB1.out.size))
        have HYa := Lib.hid hY1
        clear hW1 hg1 hbn hY1 l1 HO1 HR1 HB1
        refine (doc_fresh k room x.letter A cap HRa.out HLS.out HLV.out (by omega)).mono ?_
        rintro e W3 ⟨rfl, ⟨A3, cap3, hR3, hfrom⟩, hF3⟩
        rw [← HY.out]
        have hY3 := HYa.out.fr hF3 (HRa.out.blk_ne HYa.out (by decide))
        have HO3 := Lib.hid (HOa.out.doc HRa.out hF3)
        have HD3 := Lib.hid (⟨from_in hfrom HD.out.1 hR3.2.2, .inl HD.out.2.1, fun j hj => .inl (HD.out.2.2 j hj)⟩ : AIn A3 (fun j => D j ∨ (W1.heap.size ≤ j ∧ j < W3.heap.size)) ∧ (fun j => D j ∨ (W1.heap.size ≤ j ∧ j < W3.heap.size)) k ∧ ∀ j, j < w.heap.size → (fun j => D j ∨ (W1.heap.size ≤ j ∧ j < W3.heap.size)) j)
        have HB3 := Lib.hid (HBa.out.trans (hF3.below HBa.out.size (fun j hj e => by omega)))
        have HR3 := Lib.hid hR3
        clear hR3 hfrom hF3
        have y0 : W3.cell? ⟨g1, 0, none⟩ = some (.int .i64 y.kind) := (hY3.cell 0).trans rfl
        have y1 : W3.cell? ⟨g1, 1, none⟩ = some (.string y.text) := (hY3.cell 1).trans rfl
        have y2 : W3.cell? ⟨g1, 2, none⟩ = some (.int .i64 y.n) := (hY3.cell 2).trans rfl
        have hgl := hY3.lt
        clear hY3
        have he := eql_sym y y
        simp only [decide_true] at he
        go_wp2_with fail
        clear he y0 y1 y2
        obtain ⟨W4, hW4⟩ : ∃ W4, W4 = W3.alloc (.cells #[.int .i64 y.kind, .string y.text, .int .i64 y.n] 23) := ⟨_, rfl⟩
        have hbn : Below W3.heap.size W3 W4 := by rw [hW4]; exact (Below.refl _ _).alloc (Nat.le_refl _) _
        rw [← hW4]
        have HO4 := Lib.hid (HO3.out.below hbn)
        have HR4 := Lib.hid (HR3.out.below_ hbn)
        have HB4 := Lib.hid (HB3.out.trans (hbn.mono HB3.out.size))
        clear hW4 hbn HO3 HR3 HB3
        have HO3 := HO4
        have HR3 := HR4
        have HB3 := HB4
        clear HO4 HR4 HB4
        refine wp_region_E (fun w9 => Blk w9 k 41 #[.int .i64 room, .slice A3 (freshL room L x.letter).length cap3]) [(0, 0), (1, 0), (2, 0), (3, 0), (5, 0), (6, 0), (7, 0), (8, 1), (9, 0), (4, 2), (10, 0), (11, 0)] (by kernel_rfl) (by kernel_rfl) (fun KK hKK => ?_)
        simp only [beside, List.filterMap_cons, List.filterMap_nil, List.getElem?_toArray, List.getElem?_cons_zero, List.getElem?_cons_succ, Option.map_some]
        repeat (first | (refine wpX_w ?_ (Or.inl ⟨by rfl, fun w9 => ?_⟩) ?_; rotate_left 1; go_simp; with_reducible rfl; simp only [Act.put, List.setIfInBounds_toArray, List.set_cons_zero, List.set_cons_succ]) | (refine wpX_l ?_ ((HR3.out.1.drew)) (Or.inl ⟨by rfl, fun w9 hw9 => ?_⟩) ?_; rotate_left 1; have l0 := (hw9.cell 0).trans rfl; have l1 := (hw9.cell 1).trans rfl; have lq := hw9.lt; go_simp; with_reducible rfl; simp only [Act.put, List.setIfInBounds_toArray, List.set_cons_zero, List.set_cons_succ]) | (refine wpX_w undef (Or.inr ⟨by rfl, rfl⟩) ?_; simp only [Act.put, List.setIfInBounds_toArray, List.set_cons_zero, List.set_cons_succ]) | (refine wpX_l undef ((HR3.out.1.drew)) (Or.inr ⟨by rfl, rfl⟩) ?_; simp only [Act.put, List.setIfInBounds_toArray, List.set_cons_zero, List.set_cons_succ]))
        refine wpX_es (fun K9 hK9 => ?_)
        go_simp
        refine (one_len (HO3.out.below ((Below.refl _ _).drew))).mono ?_
        rintro e wx ⟨rfl, rfl⟩
        refine hK9 _ _ (HR3.out.1.drew) ?_
        clear hK9 K9
        repeat (first | (refine wpX_w ?_ (Or.inl ⟨by rfl, fun w9 => ?_⟩) ?_; rotate_left 1; go_simp; with_reducible rfl; simp only [Act.put, List.setIfInBounds_toArray, List.set_cons_zero, List.set_cons_succ]) | (refine wpX_l ?_ ((HR3.out.1.drew)) (Or.inl ⟨by rfl, fun w9 hw9 => ?_⟩) ?_; rotate_left 1; have l0 := (hw9.cell 0).trans rfl; have l1 := (hw9.cell 1).trans rfl; have lq := hw9.lt; go_simp; with_reducible rfl; simp only [Act.put, List.setIfInBounds_toArray, List.set_cons_zero, List.set_cons_succ]) | (refine wpX_w undef (Or.inr ⟨by rfl, rfl⟩) ?_; simp only [Act.put, List.setIfInBounds_toArray, List.set_cons_zero, List.set_cons_succ]) | (refine wpX_l undef ((HR3.out.1.drew)) (Or.inr ⟨by rfl, rfl⟩) ?_; simp only [Act.put, List.setIfInBounds_toArray, List.set_cons_zero, List.set_cons_succ]))
        refine wpX_nil ?_
        simp only [OnlyN_normal]
        refine hKK _ _ ?_
        clear hKK KK
        go_wp2_with fail
        go_roundw
        case rel => exact ⟨i + 1, by go_num, by omega, freshL room L x.letter, (fun j => D j ∨ (W1.heap.size ≤ j ∧ j < W3.heap.size)), A3, cap3, HO3.out.below ((Below.refl _ _).drew), HRM.out, HR3.out.below_ ((Below.refl _ _).drew), HD3.out.1, HD3.out.2.1, HD3.out.2.2, hkw, HB3.out.drew⟩
        case measure => simp [intOf] <;> omega
      · clear l0 l1
        have hSS : ∀ w9, Below V.heap.size V w9 → (fun w9 => Blk w9 q 43 #[.int .i64 x.do_, .int .u8 (x.letter.toNat : Int), .int .i64 x.s.kind, .string x.s.text, .int .i64 x.s.n, .slice A1 x.l.length c1] ∧ Blk w9 k 41 #[.int .i64 room, .slice A L.length cap]) w9 := fun w9 hb => ⟨HQV.out.new_ hb, HRV.out.1.new_ hb⟩
        go_wp2_with fail
        refine wp_region_E (fun w9 => Blk w9 q 43 #[.int .i64 x.do_, .int .u8 (x.letter.toNat : Int), .int .i64 x.s.kind, .string x.s.text, .int .i64 x.s.n, .slice A1 x.l.length c1] ∧ Blk w9 k 41 #[.int .i64 room, .slice A L.length cap]) [(0, 0), (1, 0), (2, 1), (4, 0), (5, 0), (6, 0), (7, 1), (8, 0), (9, 1), (3, 2), (10, 2), (11, 0), (12, 0)] (by kernel_rfl) (by kernel_rfl) (fun KK hKK => ?_)
        simp only [beside, List.filterMap_cons, List.filterMap_nil, List.getElem?_toArray, List.getElem?_cons_zero, List.getElem?_cons_succ, Option.map_some]
        repeat (first | (refine wpX_w ?_ (Or.inl ⟨by rfl, fun w9 => ?_⟩) ?_; rotate_left 1; go_simp; with_reducible rfl; simp only [Act.put, List.setIfInBounds_toArray, List.set_cons_zero, List.set_cons_succ]) | (refine wpX_l ?_ ((hSS _ ((Below.refl _ _).drew))) (Or.inl ⟨by rfl, fun w9 hw9 => ?_⟩) ?_; rotate_left 1; have l0 := (hw9.1.cell 0).trans rfl; have l1 := (hw9.1.cell 1).trans rfl; have l2 := (hw9.1.cell 2).trans rfl; have l3 := (hw9.1.cell 3).trans rfl; have l4 := (hw9.1.cell 4).trans rfl; have l5 := (hw9.1.cell 5).trans rfl; have lq := hw9.1.lt; have d0 := (hw9.2.cell 0).trans rfl; have d1 := (hw9.2.cell 1).trans rfl; have dq := hw9.2.lt; go_simp; with_reducible rfl; simp only [Act.put, List.setIfInBounds_toArray, List.set_cons_zero, List.set_cons_succ]) | (refine wpX_w undef (Or.inr ⟨by rfl, rfl⟩) ?_; simp only [Act.put, List.setIfInBounds_toArray, List.set_cons_zero, List.set_cons_succ]) | (refine wpX_l undef ((hSS _ ((Below.refl _ _).drew))) (Or.inr ⟨by rfl, rfl⟩) ?_; simp only [Act.put, List.setIfInBounds_toArray, List.set_cons_zero, List.set_cons_succ]))
        refine wpX_es (fun K9 hK9 => ?_)
        go_simp
        refine (one_has x.s (HOV.out.below ((Below.refl _ _).drew))).mono ?_
        rintro e W2 ⟨rfl, hb2⟩
        have HB2 := Lib.hid ((Below.refl V.heap.size V).drew.trans (hb2.mono (by simp)))
        have hz2 := HB2.out.size
        clear hb2
        refine hK9 _ _ (hSS _ HB2.out) ?_
        clear hK9 K9
        refine wpX_es (fun K9 hK9 => ?_)
        go_simp
        refine (has_is A cap L x.s _ (HRV.out.below_ HB2.out).2.1).mono ?_
        rintro e W3 ⟨rfl, hb3⟩
        have HB4 := Lib.hid (HB2.out.trans (hb3.mono hz2))
        clear hb3
        refine hK9 _ _ (hSS _ HB4.out) ?_
        clear hK9 K9
        repeat (first | (refine wpX_w ?_ (Or.inl ⟨by rfl, fun w9 => ?_⟩) ?_; rotate_left 1; go_simp; with_reducible rfl; simp only [Act.put, List.setIfInBounds_toArray, List.set_cons_zero, List.set_cons_succ]) | (refine wpX_l ?_ (hSS _ HB4.out) (Or.inl ⟨by rfl, fun w9 hw9 => ?_⟩) ?_; rotate_left 1; have l0 := (hw9.1.cell 0).trans rfl; have l1 := (hw9.1.cell 1).trans rfl; have l2 := (hw9.1.cell 2).trans rfl; have l3 := (hw9.1.cell 3).trans rfl; have l4 := (hw9.1.cell 4).trans rfl; have l5 := (hw9.1.cell 5).trans rfl; have lq := hw9.1.lt; have d0 := (hw9.2.cell 0).trans rfl; have d1 := (hw9.2.cell 1).trans rfl; have dq := hw9.2.lt; go_simp; with_reducible rfl; simp only [Act.put, List.setIfInBounds_toArray, List.set_cons_zero, List.set_cons_succ]) | (refine wpX_w undef (Or.inr ⟨by rfl, rfl⟩) ?_; simp only [Act.put, List.setIfInBounds_toArray, List.set_cons_zero, List.set_cons_succ]) | (refine wpX_l undef (hSS _ HB4.out) (Or.inr ⟨by rfl, rfl⟩) ?_; simp only [Act.put, List.setIfInBounds_toArray, List.set_cons_zero, List.set_cons_succ]))
        refine wpX_nil ?_
        simp only [OnlyN_normal]
        refine hKK _ _ ?_
        clear hKK KK
        clear hSS
        go_wp2_with fail
        have HO3 := Lib.hid (HOV.out.below HB4.out)
        have HR3 := Lib.hid (HRV.out.below_ HB4.out)
        have HB3 := Lib.hid (HBV.out.trans (HB4.out.mono HBV.out.size))
        have HD3 := HD
        refine wp_region_E (fun w9 => Blk w9 k 41 #[.int .i64 room, .slice A (L).length cap]) [(0, 0), (1, 0), (2, 0), (3, 0), (5, 0), (6, 0), (7, 0), (8, 1), (9, 0), (4, 2), (10, 0), (11, 0)] (by kernel_rfl) (by kernel_rfl) (fun KK hKK => ?_)
        simp only [beside, List.filterMap_cons, List.filterMap_nil, List.getElem?_toArray, List.getElem?_cons_zero, List.getElem?_cons_succ, Option.map_some]
        repeat (first | (refine wpX_w ?_ (Or.inl ⟨by rfl, fun w9 => ?_⟩) ?_; rotate_left 1; go_simp; with_reducible rfl; simp only [Act.put, List.setIfInBounds_toArray, List.set_cons_zero, List.set_cons_succ]) | (refine wpX_l ?_ ((HR3.out.1.drew)) (Or.inl ⟨by rfl, fun w9 hw9 => ?_⟩) ?_; rotate_left 1; have l0 := (hw9.cell 0).trans rfl; have l1 := (hw9.cell 1).trans rfl; have lq := hw9.lt; go_simp; with_reducible rfl; simp only [Act.put, List.setIfInBounds_toArray, List.set_cons_zero, List.set_cons_succ]) | (refine wpX_w undef (Or.inr ⟨by rfl, rfl⟩) ?_; simp only [Act.put, List.setIfInBounds_toArray, List.set_cons_zero, List.set_cons_succ]) | (refine wpX_l undef ((HR3.out.1.drew)) (Or.inr ⟨by rfl, rfl⟩) ?_; simp only [Act.put, List.setIfInBounds_toArray, List.set_cons_zero, List.set_cons_succ]))
        refine wpX_es (fun K9 hK9 => ?_)
        go_simp
        refine (one_len (HO3.out.below ((Below.refl _ _).drew))).mono ?_
        rintro e wx ⟨rfl, rfl⟩
        refine hK9 _ _ (HR3.out.1.drew) ?_
        clear hK9 K9
        repeat (first | (refine wpX_w ?_ (Or.inl ⟨by rfl, fun w9 => ?_⟩) ?_; rotate_left 1; go_simp; with_reducible rfl; simp only [Act.put, List.setIfInBounds_toArray, List.set_cons_zero, List.set_cons_succ]) | (refine wpX_l ?_ ((HR3.out.1.drew)) (Or.inl ⟨by rfl, fun w9 hw9 => ?_⟩) ?_; rotate_left 1; have l0 := (hw9.cell 0).trans rfl; have l1 := (hw9.cell 1).trans rfl; have lq := hw9.lt; go_simp; with_reducible rfl; simp only [Act.put, List.setIfInBounds_toArray, List.set_cons_zero, List.set_cons_succ]) | (refine wpX_w undef (Or.inr ⟨by rfl, rfl⟩) ?_; simp only [Act.put, List.setIfInBounds_toArray, List.set_cons_zero, List.set_cons_succ]) | (refine wpX_l undef ((HR3.out.1.drew)) (Or.inr ⟨by rfl, rfl⟩) ?_; simp only [Act.put, List.setIfInBounds_toArray, List.set_cons_zero, List.set_cons_succ]))
        refine wpX_nil ?_
        simp only [OnlyN_normal]
        refine hKK _ _ ?_
        clear hKK KK
        go_wp2_with fail
        go_roundw
        case rel => exact ⟨i + 1, by go_num, by omega, L, D, A, cap, HO3.out.below ((Below.refl _ _).drew), HRM.out, HR3.out.below_ ((Below.refl _ _).drew), HD3.out.1, HD3.out.2.1, HD3.out.2.2, hkw, HB3.out.drew⟩
        case measure => simp [intOf] <;> omega
      · clear l0 l1
        go_wp2_with fail
        refine wp_region_E (fun w9 => Blk w9 q 43 #[.int .i64 x.do_, .int .u8 (x.letter.toNat : Int), .int .i64 x.s.kind, .string x.s.text, .int .i64 x.s.n, .slice A1 x.l.length c1]) [(0, 0), (1, 0), (2, 1), (4, 0), (5, 0), (6, 1), (3, 2), (7, 2), (8, 0), (9, 0)] (by kernel_rfl) (by kernel_rfl) (fun KK hKK => ?_)
        simp only [beside, List.filterMap_cons, List.filterMap_nil, List.getElem?_toArray, List.getElem?_cons_zero, List.getElem?_cons_succ, Option.map_some]
        repeat (first | (refine wpX_w ?_ (Or.inl ⟨by rfl, fun w9 => ?_⟩) ?_; rotate_left 1; go_simp; with_reducible rfl; simp only [Act.put, List.setIfInBounds_toArray, List.set_cons_zero, List.set_cons_succ]) | (refine wpX_l ?_ ((HQV.out.drew)) (Or.inl ⟨by rfl, fun w9 hw9 => ?_⟩) ?_; rotate_left 1; have l0 := (hw9.cell 0).trans rfl; have l1 := (hw9.cell 1).trans rfl; have l2 := (hw9.cell 2).trans rfl; have l3 := (hw9.cell 3).trans rfl; have l4 := (hw9.cell 4).trans rfl; have l5 := (hw9.cell 5).trans rfl; have lq := hw9.lt; go_simp; with_reducible rfl; simp only [Act.put, List.setIfInBounds_toArray, List.set_cons_zero, List.set_cons_succ]) | (refine wpX_w undef (Or.inr ⟨by rfl, rfl⟩) ?_; simp only [Act.put, List.setIfInBounds_toArray, List.set_cons_zero, List.set_cons_succ]) | (refine wpX_l undef ((HQV.out.drew)) (Or.inr ⟨by rfl, rfl⟩) ?_; simp only [Act.put, List.setIfInBounds_toArray, List.set_cons_zero, List.set_cons_succ]))
        refine wpX_es (fun K9 hK9 => ?_)
        go_simp
        refine (one_next x.letter (HOV.out.below ((Below.refl _ _).drew))).mono ?_
        rintro e W2 ⟨rfl, hb2⟩
        have HB2 := Lib.hid ((Below.refl V.heap.size V).drew.trans (hb2.mono (by simp)))
        have hz2 := HB2.out.size
        clear hb2
        refine hK9 _ _ (HQV.out.new_ HB2.out) ?_
        clear hK9 K9
        refine wpX_es (fun K9 hK9 => ?_)
        go_simp
        refine (doc_next k room x.letter A cap (HRV.out.below_ HB2.out) HLV.out (by omega)).mono ?_
        rintro e W3 ⟨rfl, hb3⟩
        have HB4 := Lib.hid (HB2.out.trans (hb3.mono hz2))
        clear hb3
        refine hK9 _ _ (HQV.out.new_ HB4.out) ?_
        clear hK9 K9
        repeat (first | (refine wpX_w ?_ (Or.inl ⟨by rfl, fun w9 => ?_⟩) ?_; rotate_left 1; go_simp; with_reducible rfl; simp only [Act.put, List.setIfInBounds_toArray, List.set_cons_zero, List.set_cons_succ]) | (refine wpX_l ?_ (HQV.out.new_ HB4.out) (Or.inl ⟨by rfl, fun w9 hw9 => ?_⟩) ?_; rotate_left 1; have l0 := (hw9.cell 0).trans rfl; have l1 := (hw9.cell 1).trans rfl; have l2 := (hw9.cell 2).trans rfl; have l3 := (hw9.cell 3).trans rfl; have l4 := (hw9.cell 4).trans rfl; have l5 := (hw9.cell 5).trans rfl; have lq := hw9.lt; go_simp; with_reducible rfl; simp only [Act.put, List.setIfInBounds_toArray, List.set_cons_zero, List.set_cons_succ]) | (refine wpX_w undef (Or.inr ⟨by rfl, rfl⟩) ?_; simp only [Act.put, List.setIfInBounds_toArray, List.set_cons_zero, List.set_cons_succ]) | (refine wpX_l undef (HQV.out.new_ HB4.out) (Or.inr ⟨by rfl, rfl⟩) ?_; simp only [Act.put, List.setIfInBounds_toArray, List.set_cons_zero, List.set_cons_succ]))
        refine wpX_nil ?_
        simp only [OnlyN_normal]
        refine hKK _ _ ?_
        clear hKK KK
        go_wp2_with fail
        have HO3 := Lib.hid (HOV.out.below HB4.out)
        have HR3 := Lib.hid (HRV.out.below_ HB4.out)
        have HB3 := Lib.hid (HBV.out.trans (HB4.out.mono HBV.out.size))
        have HD3 := HD
        refine wp_region_E (fun w9 => Blk w9 k 41 #[.int .i64 room, .slice A (L).length cap]) [(0, 0), (1, 0), (2, 0), (3, 0), (5, 0), (6, 0), (7, 0), (8, 1), (9, 0), (4, 2), (10, 0), (11, 0)] (by kernel_rfl) (by kernel_rfl) (fun KK hKK => ?_)
        simp only [beside, List.filterMap_cons, List.filterMap_nil, List.getElem?_toArray, List.getElem?_cons_zero, List.getElem?_cons_succ, Option.map_some]
        repeat (first | (refine wpX_w ?_ (Or.inl ⟨by rfl, fun w9 => ?_⟩) ?_; rotate_left 1; go_simp; with_reducible rfl; simp only [Act.put, List.setIfInBounds_toArray, List.set_cons_zero, List.set_cons_succ]) | (refine wpX_l ?_ ((HR3.out.1.drew)) (Or.inl ⟨by rfl, fun w9 hw9 => ?_⟩) ?_; rotate_left 1; have l0 := (hw9.cell 0).trans rfl; have l1 := (hw9.cell 1).trans rfl; have lq := hw9.lt; go_simp; with_reducible rfl; simp only [Act.put, List.setIfInBounds_toArray, List.set_cons_zero, List.set_cons_succ]) | (refine wpX_w undef (Or.inr ⟨by rfl, rfl⟩) ?_; simp only [Act.put, List.setIfInBounds_toArray, List.set_cons_zero, List.set_cons_succ]) | (refine wpX_l undef ((HR3.out.1.drew)) (Or.inr ⟨by rfl, rfl⟩) ?_; simp only [Act.put, List.setIfInBounds_toArray, List.set_cons_zero, List.set_cons_succ]))
        refine wpX_es (fun K9 hK9 => ?_)
        go_simp
        refine (one_len (HO3.out.below ((Below.refl _ _).drew))).mono ?_
        rintro e wx ⟨rfl, rfl⟩
        refine hK9 _ _ (HR3.out.1.drew) ?_
        clear hK9 K9
        repeat (first | (refine wpX_w ?_ (Or.inl ⟨by rfl, fun w9 => ?_⟩) ?_; rotate_left 1; go_simp; with_reducible rfl; simp only [Act.put, List.setIfInBounds_toArray, List.set_cons_zero, List.set_cons_succ]) | (refine wpX_l ?_ ((HR3.out.1.drew)) (Or.inl ⟨by rfl, fun w9 hw9 => ?_⟩) ?_; rotate_left 1; have l0 := (hw9.cell 0).trans rfl; have l1 := (hw9.cell 1).trans rfl; have lq := hw9.lt; go_simp; with_reducible rfl; simp only [Act.put, List.setIfInBounds_toArray, List.set_cons_zero, List.set_cons_succ]) | (refine wpX_w undef (Or.inr ⟨by rfl, rfl⟩) ?_; simp only [Act.put, List.setIfInBounds_toArray, List.set_cons_zero, List.set_cons_succ]) | (refine wpX_l undef ((HR3.out.1.drew)) (Or.inr ⟨by rfl, rfl⟩) ?_; simp only [Act.put, List.setIfInBounds_toArray, List.set_cons_zero, List.set_cons_succ]))
        refine wpX_nil ?_
        simp only [OnlyN_normal]
        refine hKK _ _ ?_
        clear hKK KK
        go_wp2_with fail
        go_roundw
        case rel => exact ⟨i + 1, by go_num, by omega, L, D, A, cap, HO3.out.below ((Below.refl _ _).drew), HRM.out, HR3.out.below_ ((Below.refl _ _).drew), HD3.out.1, HD3.out.2.1, HD3.out.2.2, hkw, HB3.out.drew⟩
        case measure => simp [intOf] <;> omega
    · have hie : i = l.length := by omega
      subst hie
      go_wp2_with fail
      refine wp_region_E (fun w9 => Blk w9 k 41 #[.int .i64 room, .slice A L.length cap]) [(0, 0), (3, 0), (4, 0), (5, 0), (6, 1), (1, 2), (2, 2), (7, 2), (8, 0), (9, 2), (10, 0), (11, 0)] (by kernel_rfl) (by kernel_rfl) (fun KK hKK => ?_)
      simp only [beside, List.filterMap_cons, List.filterMap_nil, List.getElem?_toArray, List.getElem?_cons_zero, List.getElem?_cons_succ, Option.map_some]
      repeat (first | (refine wpX_w ?_ (Or.inl ⟨by rfl, fun w9 => ?_⟩) ?_; rotate_left 1; go_simp; with_reducible rfl; simp only [Act.put, List.setIfInBounds_toArray, List.set_cons_zero, List.set_cons_succ]) | (refine wpX_l ?_ ((HRT.out.1.drew)) (Or.inl ⟨by rfl, fun w9 hw9 => ?_⟩) ?_; rotate_left 1; have d0 := (hw9.cell 0).trans rfl; have d1 := (hw9.cell 1).trans rfl; have dq := hw9.lt; go_simp; with_reducible rfl; simp only [Act.put, List.setIfInBounds_toArray, List.set_cons_zero, List.set_cons_succ]) | (refine wpX_w undef (Or.inr ⟨by rfl, rfl⟩) ?_; simp only [Act.put, List.setIfInBounds_toArray, List.set_cons_zero, List.set_cons_succ]) | (refine wpX_l undef ((HRT.out.1.drew)) (Or.inr ⟨by rfl, rfl⟩) ?_; simp only [Act.put, List.setIfInBounds_toArray, List.set_cons_zero, List.set_cons_succ]))
      refine wpX_es (fun K9 hK9 => ?_)
      go_simp
      refine (mktall T.b _).mono ?_
      rintro e W2 ⟨rfl, hb2, hbox⟩
      have HB2 := Lib.hid ((Below.refl wr.heap.size wr).drew.trans (hb2.mono (by simp)))
      have HBOX := Lib.hid hbox
      clear hb2 hbox
      refine hK9 _ _ (HRT.out.1.new_ HB2.out) ?_
      clear hK9 K9
      refine wpX_es (fun K9 hK9 => ?_)
      go_simp
      refine (one_list _ (HO.out.below HB2.out) HBOX.out).mono ?_
      rintro e W3 ⟨A3, cap3, rfl, hrow3, hA3, hO3, hF3, hK3⟩
      have HR3 := Lib.hid ((HRT.out.below_ HB2.out).frD hK3 hF3 HD.out.1)
      have HROW3 := Lib.hid hrow3
      have HB3 := Lib.hid ((HBl.out.trans (HB2.out.mono hsl)).trans (fr_low hF3 HD.out.2.2 (by have := HB2.out.size; omega)))
      clear hrow3 hA3 hO3 hF3 hK3
      refine hK9 _ _ HR3.out.1 ?_
      clear hK9 K9
      refine wpX_es (fun K9 hK9 => ?_)
      go_simp
      refine (syms_is A3 A cap3 cap L L W3 HROW3.out HR3.out.2.1).mono ?_
      rintro e W4 ⟨rfl, hb4⟩
      rw [decide_eq_true rfl]
      have HB4 := Lib.hid (HB3.out.trans (hb4.mono HB3.out.size))
      have HR4 := Lib.hid (HR3.out.1.new_ hb4)
      clear hb4
      refine hK9 _ _ HR4.out ?_
      clear hK9 K9
      repeat (first | (refine wpX_w ?_ (Or.inl ⟨by rfl, fun w9 => ?_⟩) ?_; rotate_left 1; go_simp; with_reducible rfl; simp only [Act.put, List.setIfInBounds_toArray, List.set_cons_zero, List.set_cons_succ]) | (refine wpX_l ?_ (HR4.out) (Or.inl ⟨by rfl, fun w9 hw9 => ?_⟩) ?_; rotate_left 1; have d0 := (hw9.cell 0).trans rfl; have d1 := (hw9.cell 1).trans rfl; have dq := hw9.lt; go_simp; with_reducible rfl; simp only [Act.put, List.setIfInBounds_toArray, List.set_cons_zero, List.set_cons_succ]) | (refine wpX_w undef (Or.inr ⟨by rfl, rfl⟩) ?_; simp only [Act.put, List.setIfInBounds_toArray, List.set_cons_zero, List.set_cons_succ]) | (refine wpX_l undef (HR4.out) (Or.inr ⟨by rfl, rfl⟩) ?_; simp only [Act.put, List.setIfInBounds_toArray, List.set_cons_zero, List.set_cons_succ]))
      refine wpX_es (fun K9 hK9 => ?_)
      go_simp
      refine (wakes4_is _).mono ?_
      rintro e W5 ⟨rfl, hb5⟩
      have HB9 := Lib.hid (HB4.out.trans (hb5.mono HB4.out.size))
      have HR5 := Lib.hid (HR4.out.new_ hb5)
      clear hb5
      refine hK9 _ _ HR5.out ?_
      clear hK9 K9
      repeat (first | (refine wpX_w ?_ (Or.inl ⟨by rfl, fun w9 => ?_⟩) ?_; rotate_left 1; go_simp; with_reducible rfl; simp only [Act.put, List.setIfInBounds_toArray, List.set_cons_zero, List.set_cons_succ]) | (refine wpX_l ?_ (HR5.out) (Or.inl ⟨by rfl, fun w9 hw9 => ?_⟩) ?_; rotate_left 1; have d0 := (hw9.cell 0).trans rfl; have d1 := (hw9.cell 1).trans rfl; have dq := hw9.lt; go_simp; with_reducible rfl; simp only [Act.put, List.setIfInBounds_toArray, List.set_cons_zero, List.set_cons_succ]) | (refine wpX_w undef (Or.inr ⟨by rfl, rfl⟩) ?_; simp only [Act.put, List.setIfInBounds_toArray, List.set_cons_zero, List.set_cons_succ]) | (refine wpX_l undef (HR5.out) (Or.inr ⟨by rfl, rfl⟩) ?_; simp only [Act.put, List.setIfInBounds_toArray, List.set_cons_zero, List.set_cons_succ]))
      refine wpX_nil ?_
      simp only [OnlyN_normal]
      refine hKK _ _ ?_
      clear hKK KK
      go_wp2_with fail
      go_ret
      exact ⟨rfl, HB9.out⟩
end Go.Proofs.Ytlkffnmmphehdaa

namespace Go.Proofs.Ytlkffnmmphehdaa
open Go.ChangeShapes Go.WideShapes Go.ChangeAt Go.RowKit Go.Deep

theorem own_tables : ownKnob Try.prog.godebug = none := by kernel_rfl
theorem laid_tables : laidOutB Try.prog = true := by kernel_rfl
set_option maxRecDepth 100000 in
theorem tables_lifted (os : Os) (started : os.Started) (H : Type) (enc : TypeId × Value → H) :
    ReturnsInHanded {} Try.checked os 7 .any (Rows.symTablesSpec.pre6 enc Try.prog Try.f7 Rows.symTablesRow.domain false) (Rows.symTablesSpec.post enc Try.prog Try.f7 false true false false) := by
  refine returnsInHanded_of_change (C := Try.checked) own_tables started (by kernel_rfl) Try.func7
    (ChangeSpec.witness6 (enc := enc) (C := Try.checked) false ⟨#[], #[.int .i64 0, .slice none 0 0], []⟩ 8 (by kernel_rfl) (by kernel_rfl) (by kernel_rfl) (by kernel_rfl)) ?_
  intro W base args ds gs before hval0 hW hcnd _
  have hval : ∀ (j : Nat) t v, Try.f7.params[j]? = some t → args[j]? = some v → Value.okWide Try.prog W .any base t v := hval0
  have hW' := hW
  obtain ⟨p, q, hA0, hV, rfl, hfz, hnd⟩ := hW
  have hA : DataW.TrodAll enc Try.prog W 0 (fun _ => true) true Try.f7.params.toList args.toList ds p := hA0
  rw [Try.params7] at hA hval
  obtain ⟨v0, v1, d0, d1, p0, p1, rfl, rfl, rfl, h0, h1⟩ := trodAll_two hA
  obtain ⟨rfl, rfl⟩ := trodVars_none hV
  obtain ⟨n0, rfl, _, _, _⟩ := open_int Try.underlying3 (hval 0 3 v0 rfl rfl) h0
  obtain ⟨A1, c1, l1, rfl, r1⟩ := open_rowR Try.underlying33 (by decide) opens_Act4 (hval 1 33 v1 rfl rfl) h1
  clear hA0 hval0
  refine (tables_walk n0 A1 c1 l1 W r1).mono fun e W' ⟨he, hb⟩ => ?_
  subst he
  exact ⟨_, rfl, post_true (tb := 4) laid_tables rfl hW' (by kernel_rfl) Try.underlying4 (fun t ht => by
    have ht' : t ∈ [3, 33] := by
      have e : Try.f7.params.toList = [3, 33] := by rw [Try.params7]
      rwa [e] at ht
    simp only [List.mem_cons, List.not_mem_nil, or_false] at ht'
    rcases ht' with rfl | rfl <;> exact ⟨by kernel_rfl, of_decide_eq_true (by kernel_rfl)⟩) rfl rfl rfl hb⟩

theorem tables_holds : Rows.SymTablesSaid :=
  OpenClaim.holds_of_wide 7 Try.f7 rfl rfl rfl rfl rfl rfl rfl ⟨rfl, rfl, rfl, rfl, rfl⟩ rfl rfl rfl rfl rfl (by kernel_rfl) Try.func7 (by kernel_rfl)
    (of_decide_eq_true (by kernel_rfl)) (by unfold Func.isWrapper; first | (rw [if_pos (by decide +kernel)]; kernel_rfl) | (rw [if_neg (by decide +kernel)]; exact ⟨rfl, rfl⟩))
    (fun os started H enc _ => tables_lifted os started H enc)
end Go.Proofs.Ytlkffnmmphehdaa
