/-
  For every input SymClones answers true, and leaves its arguments and all that was there as they were. No conditions.
-/
import Derived.Test.YtlkffnmmphehdaaMg

namespace Go.Proofs.Ytlkffnmmphehdaa
open Go.RowKit Go.Shelf
attribute [local go_sem] Oper.semAt_some
theorem fr_low3 {w W W' : World} {D : Nat → Prop} (hF : Fr (fun j => ¬ D j) W W') (h : ∀ j, j < w.heap.size → D j) (hs : w.heap.size ≤ W.heap.size) : Below w.heap.size W W' := hF.below hs (fun j hj hn => hn (h j hj))
theorem putList_len {room : Int} {X : List Sym} : ((putList room [] X).length : Int) ≤ X.length := by
  have h := length_puts_le tc_sym X (Srt.nil (cmp := cmpSym))
  unfold putList
  split
  · split
    · simp
    · simpa using h
  · simp
set_option maxRecDepth 100000 in
set_option maxHeartbeats 16000000 in
theorem clones4_walk (A1 A2 : Option Addr) (c1 c2 : Nat) (l1 l2 : List Sym) (w : World) (hr1 : RowRd w 3 Sym.cells A1 c1 l1) (hr2 : RowRd w 3 Sym.cells A2 c2 l2) :
    Calls Try.prog 9 #[.slice A1 l1.length c1, .slice A2 l2.length c2] w fun e w' => e = .returned (.bool true) ∧ Below w.heap.size w w' := by
  have hlc1 := hr1.cap
  have hlc2 := hr2.cap
  have HR1 := Lib.hid hr1
  have HR2 := Lib.hid hr2
  clear hr1 hr2
  by_cases hbig : 40 < l1.length ∨ 40 < l2.length
  · by_cases h80 : 40 < l1.length
    all_goals
      first | have t1 : decide ((40 : Int) < (l1.length : Int)) = true := by (simp; omega) | skip
      first | have t1 : decide ((40 : Int) < (l1.length : Int)) = false := by (simp; omega) | skip
      first | have t2 : decide ((40 : Int) < (l2.length : Int)) = true := by (simp; omega) | skip
      clear hbig h80
      go_enter Try.func9, Try.ntmps9
      go_wp2_with fail
      refine (wakes4_is _).mono ?_
      rintro e w2 ⟨rfl, hb1⟩
      have HB1 := Lib.hid hb1
      clear hb1
      go_wp2_with fail
      go_ret
      exact ⟨rfl, HB1.out⟩
  have t1 : decide ((40 : Int) < (l1.length : Int)) = false := by simp; omega
  have t2 : decide ((40 : Int) < (l2.length : Int)) = false := by simp; omega
  have hl1 : (l1.length : Int) ≤ 40 := by omega
  have hl2 : (l2.length : Int) ≤ 40 := by omega
  clear hbig
  go_enter Try.func9, Try.ntmps9
  go_wp2_with fail
  refine (one_new 200 w (by decide) (by decide)).mono ?_
  rintro e w1 ⟨T, rfl, hrm, hO, hb⟩
  have HB := Lib.hid hb
  have HO := Lib.hid hO
  have HRM := Lib.hid hrm
  clear hO hb hrm t1 t2
  go_wp2_with fail
  refine (one_put l1 A1 c1 HO.out (HR1.out.new_ HB.out) (by omega)).mono ?_
  rintro e w2 ⟨rfl, hO2, hF2, hK2⟩
  rw [HRM.out] at hO2
  have HO2 := Lib.hid hO2
  have HB2 := Lib.hid (HB.out.trans (fr_low3 hF2 (fun j hj => hj) HB.out.size))
  clear hO2 hF2 hK2
  go_wp2_with fail
  refine (mktall T.b _).mono ?_
  rintro e w3 ⟨rfl, hb3, hbox⟩
  have HO3 := Lib.hid (HO2.out.below hb3)
  have HB3 := Lib.hid (HB2.out.trans (hb3.mono HB2.out.size))
  have HBOX := Lib.hid hbox
  clear hb3 hbox
  go_wp2_with fail
  refine (one_list _ HO3.out HBOX.out).mono ?_
  rintro e w4 ⟨A, cap, rfl, hrow, hA, hO4, hF4, hK4⟩
  have hlk := putList_len (room := 200) (X := l1)
  obtain ⟨L, hL⟩ : ∃ L, L = putList 200 [] l1 := ⟨_, rfl⟩
  rw [← hL] at hrow hO4 hlk ⊢
  have hl40 : (L.length : Int) ≤ 40 := by omega
  have HB4 := Lib.hid (HB3.out.trans (fr_low3 hF4 (fun j hj => hj) HB3.out.size))
  obtain ⟨D, hD⟩ : ∃ D : Nat → Prop, D = (fun j => j < w.heap.size ∨ (w3.heap.size ≤ j ∧ j < w4.heap.size)) := ⟨_, rfl⟩
  rw [← hD] at hO4
  have HD := Lib.hid (show AIn A D ∧ ∀ j, j < w.heap.size → D j by rw [hD]; exact ⟨hA.mono (fun j hj => .inr hj), fun j hj => .inl hj⟩)
  obtain ⟨hls, hlv, _, _⟩ := hO4.list_
  have hmb := maxL_bd 81 L 0 (by omega) (by omega) (valid_n hlv)
  have hm0 : 0 ≤ maxL L 81 := hmb.1
  have hm1 : maxL L 81 ≤ 1048576 := hmb.2
  have HLS := Lib.hid hls
  have HROW4 := Lib.hid hrow
  have HO4 := Lib.hid hO4
  clear hrow hO4 hF4 hK4 hA hL hD hls hlv hlk hmb
  go_wp2_with fail
  refine (two_clone HO4.out).mono ?_
  rintro e w5 ⟨T', rfl, hrm', hT5, hF5, hK5⟩
  have HRM' := Lib.hid (hrm'.trans HRM.out)
  have HT5 := Lib.hid hT5
  have HB5 := Lib.hid (HB4.out.trans (fr_low3 hF5 HD.out.2 HB4.out.size))
  have HROW5 := Lib.hid (HROW4.out.fr hF5 (HD.out.1.mono (fun j hj hn => hn hj)))
  clear hrm' hT5 hF5 hK5
  go_wp2_with fail
  refine (two_put l2 A2 c2 HT5.out (HR2.out.new_ HB5.out) (by omega)).mono ?_
  rintro e w6 ⟨rfl, hT6, hF6, hK6⟩
  have HT6 := Lib.hid hT6
  have HB6 := Lib.hid (HB5.out.trans (fr_low3 hF6 HD.out.2 HB5.out.size))
  have HROW6 := Lib.hid (HROW5.out.fr hF6 (HD.out.1.mono (fun j hj hn => hn hj)))
  clear hT6 hF6 hK6
  go_wp2_with fail
  refine (two_fresh 81 HT6.out).mono ?_
  rintro e w7 ⟨rfl, hT7, hF7, hK7⟩
  have HT7 := Lib.hid hT7.swap
  have HB7 := Lib.hid (HB6.out.trans (fr_low3 hF7 HD.out.2 HB6.out.size))
  have HROW7 := Lib.hid (HROW6.out.fr hF7 (HD.out.1.mono (fun j hj hn => hn hj)))
  clear hT7 hF7 hK7
  go_wp2_with fail
  refine (two_fresh 81 HT7.out).mono ?_
  rintro e w8 ⟨rfl, hT8, hF8, hK8⟩
  rw [HRM'.out] at hT8 ⊢
  have HT8 := Lib.hid hT8.one
  have HB8 := Lib.hid (HB7.out.trans (fr_low3 hF8 HD.out.2 HB7.out.size))
  have HROW8 := Lib.hid (HROW7.out.fr hF8 (HD.out.1.mono (fun j hj hn => hn hj)))
  clear hT8 hF8 hK8
  have hnx : nextL L 81 = maxL L 81 + 1 := by unfold nextL; rw [if_pos (by rfl)]
  by_cases hmax : 1048576 ≤ maxL L 81
  · have t1 : decide (1048576 ≤ maxL L 81) = true := by simpa using hmax
    have e0 : freshE 200 L 81 = 20 := by unfold freshE; rw [if_neg (by omega), if_pos (.inr (by omega))]
    have e1 : freshS 200 L 81 = zsym := by unfold freshS; rw [e0]; rfl
    have e2 : freshL 200 L 81 = L := by unfold freshL; rw [e0]; rfl
    have hT := HT8.out
    rw [e2] at hT
    have HT9 := Lib.hid hT
    rw [e0, e1]
    simp only [zsym]
    clear e0 e1 e2 hT hnx hmax
    go_wp2_with fail
    obtain ⟨g1, hg1⟩ : ∃ g1, g1 = w8.heap.size := ⟨_, rfl⟩
    obtain ⟨w9, hw9⟩ : ∃ w9, w9 = w8.alloc (.cells #[.int .i64 0, .string ⟨#[]⟩, .int .i64 0] 23) := ⟨_, rfl⟩
    have hbn : Below w8.heap.size w8 w9 := by rw [hw9]; exact (Below.refl _ _).alloc (Nat.le_refl _) _
    have hS9 : Blk w9 g1 23 #[.int .i64 0, .string ⟨#[]⟩, .int .i64 0] := by rw [hw9, hg1]; exact Blk.new _ _ _
    rw [← hw9, ← hg1]
    have HT10 := Lib.hid (HT9.out.below hbn)
    have HB10 := Lib.hid (HB8.out.trans (hbn.mono HB8.out.size))
    have HROW10 := Lib.hid (HROW8.out.new_ hbn)
    have y2 : w9.cell? ⟨g1, 2, none⟩ = some (.int .i64 0) := (hS9.cell 2).trans rfl
    have hgl := hS9.lt
    clear hbn hw9 hg1 hS9
    refine (most_is A cap L w9 HROW10.out (by omega)).mono ?_
    rintro e wx ⟨rfl, rfl⟩
    go_wp2_with fail
    refine (one_len HT10.out).mono ?_
    rintro e wx ⟨rfl, rfl⟩
    go_wp2_with fail
    refine (wakes4_is _).mono ?_
    rintro e w11 ⟨rfl, hb11⟩
    have HB11 := Lib.hid (HB10.out.trans (hb11.mono HB10.out.size))
    clear hb11
    go_wp2_with fail
    go_ret
    exact ⟨rfl, HB11.out⟩
  · have t1 : decide (1048576 ≤ maxL L 81) = false := by simpa using hmax
    have e0 : freshE 200 L 81 = 0 := by unfold freshE; rw [if_neg (by omega), if_neg (by omega)]
    have e1 : freshS 200 L 81 = ⟨1, letB 81, maxL L 81 + 1⟩ := by unfold freshS; rw [if_pos e0, hnx]
    have e2 : freshL 200 L 81 = put cmpSym L ⟨1, letB 81, nextL L 81⟩ := by unfold freshL; rw [if_pos e0]
    have hT := HT8.out
    rw [e2] at hT
    have HT9 := Lib.hid hT
    have hlen := length_put tc_sym HLS.out (fresh_not (L := L) (c := 81) (by rfl))
    have HLEN := Lib.hid (show (((put cmpSym L ⟨1, letB 81, nextL L 81⟩).length : Nat) : Int) = (L.length : Int) + 1 by omega)
    rw [e0, e1]
    dsimp only
    have v1 : IntKind.i64.wrap (1 + maxL L 81) = maxL L 81 + 1 := by rw [Int.add_comm]; exact IntWalk.i64_in _ (by omega)
    have v2 : IntKind.i64.wrap ((L.length : Int) + 1) = (L.length : Int) + 1 := IntWalk.i64_in _ (by omega)
    obtain ⟨L', hL'⟩ : ∃ L', L' = put cmpSym L ⟨1, letB 81, nextL L 81⟩ := ⟨_, rfl⟩
    rw [← hL'] at HT9 HLEN
    clear e0 e1 e2 hT hnx hmax hlen hL'
    go_wp2_with fail
    obtain ⟨g1, hg1⟩ : ∃ g1, g1 = w8.heap.size := ⟨_, rfl⟩
    obtain ⟨w9, hw9⟩ : ∃ w9, w9 = w8.alloc (.cells #[.int .i64 1, .string (letB 81), .int .i64 (maxL L 81 + 1)] 23) := ⟨_, rfl⟩
    have hbn : Below w8.heap.size w8 w9 := by rw [hw9]; exact (Below.refl _ _).alloc (Nat.le_refl _) _
    have hS9 : Blk w9 g1 23 #[.int .i64 1, .string (letB 81), .int .i64 (maxL L 81 + 1)] := by rw [hw9, hg1]; exact Blk.new _ _ _
    rw [← hw9, ← hg1]
    have HT10 := Lib.hid (HT9.out.below hbn)
    have HB10 := Lib.hid (HB8.out.trans (hbn.mono HB8.out.size))
    have HROW10 := Lib.hid (HROW8.out.new_ hbn)
    have y2 : w9.cell? ⟨g1, 2, none⟩ = some (.int .i64 (maxL L 81 + 1)) := (hS9.cell 2).trans rfl
    have hgl := hS9.lt
    clear hbn hw9 hg1 hS9
    refine (most_is A cap L w9 HROW10.out (by omega)).mono ?_
    rintro e wx ⟨rfl, rfl⟩
    go_wp2_with fail
    refine wp_region_E (fun w => Below w9.heap.size w9 w) [(0, 0), (1, 0), (2, 0), (3, 0), (4, 1), (5, 0), (6, 2), (7, 0), (8, 0), (9, 0), (10, 0), (11, 0), (13, 0), (14, 0), (15, 0), (12, 2), (16, 0), (17, 0), (18, 0), (19, 2), (20, 0), (21, 0)] (by kernel_rfl) (by kernel_rfl) (fun KK hKK => ?_)
    simp only [beside, List.filterMap_cons, List.filterMap_nil, List.getElem?_toArray, List.getElem?_cons_zero, List.getElem?_cons_succ, Option.map_some]
    repeat (first | (refine wpX_w ?_ (Or.inl ⟨by rfl, fun w9 => ?_⟩) ?_; rotate_left 1; go_simp; with_reducible rfl; simp only [Act.put, List.setIfInBounds_toArray, List.set_cons_zero, List.set_cons_succ]) | (refine wpX_l ?_ (((Below.refl _ _).drew)) (Or.inl ⟨by rfl, fun w9 hw9 => ?_⟩) ?_; rotate_left 1; obtain ⟨hc9, hf9⟩ := bcell hw9; go_simp; with_reducible rfl; simp only [Act.put, List.setIfInBounds_toArray, List.set_cons_zero, List.set_cons_succ]) | (refine wpX_w undef (Or.inr ⟨by rfl, rfl⟩) ?_; simp only [Act.put, List.setIfInBounds_toArray, List.set_cons_zero, List.set_cons_succ]) | (refine wpX_l undef (((Below.refl _ _).drew)) (Or.inr ⟨by rfl, rfl⟩) ?_; simp only [Act.put, List.setIfInBounds_toArray, List.set_cons_zero, List.set_cons_succ]))
    refine wpX_es (fun K9 hK9 => ?_)
    go_simp
    refine (most_is A cap L _ (HROW10.out.new_ ((Below.refl _ _).drew)) (by omega)).mono ?_
    rintro e X1 ⟨rfl, rfl⟩
    have HX1 := Lib.hid ((Below.refl w9.heap.size w9).drew)
    refine hK9 _ _ HX1.out ?_
    clear hK9 K9
    repeat (first | (refine wpX_w ?_ (Or.inl ⟨by rfl, fun w9 => ?_⟩) ?_; rotate_left 1; go_simp; with_reducible rfl; simp only [Act.put, List.setIfInBounds_toArray, List.set_cons_zero, List.set_cons_succ]) | (refine wpX_l ?_ (HX1.out) (Or.inl ⟨by rfl, fun w9 hw9 => ?_⟩) ?_; rotate_left 1; obtain ⟨hc9, hf9⟩ := bcell hw9; go_simp; with_reducible rfl; simp only [Act.put, List.setIfInBounds_toArray, List.set_cons_zero, List.set_cons_succ]) | (refine wpX_w undef (Or.inr ⟨by rfl, rfl⟩) ?_; simp only [Act.put, List.setIfInBounds_toArray, List.set_cons_zero, List.set_cons_succ]) | (refine wpX_l undef (HX1.out) (Or.inr ⟨by rfl, rfl⟩) ?_; simp only [Act.put, List.setIfInBounds_toArray, List.set_cons_zero, List.set_cons_succ]))
    refine wpX_es (fun K9 hK9 => ?_)
    go_simp
    refine (one_len (HT10.out.below HX1.out)).mono ?_
    rintro e X2 ⟨rfl, rfl⟩
    rw [HLEN.out]
    have HX2 := Lib.hid (HX1.out)
    refine hK9 _ _ HX2.out ?_
    clear hK9 K9
    repeat (first | (refine wpX_w ?_ (Or.inl ⟨by rfl, fun w9 => ?_⟩) ?_; rotate_left 1; go_simp; with_reducible rfl; simp only [Act.put, List.setIfInBounds_toArray, List.set_cons_zero, List.set_cons_succ]) | (refine wpX_l ?_ (HX2.out) (Or.inl ⟨by rfl, fun w9 hw9 => ?_⟩) ?_; rotate_left 1; obtain ⟨hc9, hf9⟩ := bcell hw9; go_simp; with_reducible rfl; simp only [Act.put, List.setIfInBounds_toArray, List.set_cons_zero, List.set_cons_succ]) | (refine wpX_w undef (Or.inr ⟨by rfl, rfl⟩) ?_; simp only [Act.put, List.setIfInBounds_toArray, List.set_cons_zero, List.set_cons_succ]) | (refine wpX_l undef (HX2.out) (Or.inr ⟨by rfl, rfl⟩) ?_; simp only [Act.put, List.setIfInBounds_toArray, List.set_cons_zero, List.set_cons_succ]))
    refine wpX_es (fun K9 hK9 => ?_)
    go_simp
    refine (wakes4_is _).mono ?_
    rintro e X3 ⟨rfl, hb3⟩
    have HX3 := Lib.hid ((HX2.out).trans (hb3.mono (by first | omega | (simp; done) | (have := (HX2.out).size; omega))))
    clear hb3
    refine hK9 _ _ HX3.out ?_
    clear hK9 K9
    repeat (first | (refine wpX_w ?_ (Or.inl ⟨by rfl, fun w9 => ?_⟩) ?_; rotate_left 1; go_simp; with_reducible rfl; simp only [Act.put, List.setIfInBounds_toArray, List.set_cons_zero, List.set_cons_succ]) | (refine wpX_l ?_ (HX3.out) (Or.inl ⟨by rfl, fun w9 hw9 => ?_⟩) ?_; rotate_left 1; obtain ⟨hc9, hf9⟩ := bcell hw9; go_simp; with_reducible rfl; simp only [Act.put, List.setIfInBounds_toArray, List.set_cons_zero, List.set_cons_succ]) | (refine wpX_w undef (Or.inr ⟨by rfl, rfl⟩) ?_; simp only [Act.put, List.setIfInBounds_toArray, List.set_cons_zero, List.set_cons_succ]) | (refine wpX_l undef (HX3.out) (Or.inr ⟨by rfl, rfl⟩) ?_; simp only [Act.put, List.setIfInBounds_toArray, List.set_cons_zero, List.set_cons_succ]))
    refine wpX_nil ?_
    simp only [OnlyN_normal]
    refine hKK _ _ ?_
    clear hKK KK
    go_wp2_with fail
    go_ret
    exact ⟨rfl, HB10.out.trans (HX3.out.mono HB10.out.size)⟩
end Go.Proofs.Ytlkffnmmphehdaa

namespace Go.Proofs.Ytlkffnmmphehdaa
open Go.ChangeShapes Go.WideShapes Go.ChangeAt Go.RowKit Go.Deep

theorem own_clones4 : ownKnob Try.prog.godebug = none := by kernel_rfl
theorem laid_clones4 : laidOutB Try.prog = true := by kernel_rfl
set_option maxRecDepth 100000 in
theorem clones4_lifted (os : Os) (started : os.Started) (H : Type) (enc : TypeId × Value → H) :
    ReturnsInHanded {} Try.checked os 9 .any (Rows.symClonesSpec.pre6 enc Try.prog Try.f9 Rows.symClonesRow.domain false) (Rows.symClonesSpec.post enc Try.prog Try.f9 false true false false) := by
  refine returnsInHanded_of_change (C := Try.checked) own_clones4 started (by kernel_rfl) Try.func9
    (ChangeSpec.witness6 (enc := enc) (C := Try.checked) false ⟨#[], #[.slice none 0 0, .slice none 0 0], []⟩ 8 (by kernel_rfl) (by kernel_rfl) (by kernel_rfl) (by kernel_rfl)) ?_
  intro W base args ds gs before hval0 hW hcnd _
  have hval : ∀ (j : Nat) t v, Try.f9.params[j]? = some t → args[j]? = some v → Value.okWide Try.prog W .any base t v := hval0
  have hW' := hW
  obtain ⟨p, q, hA0, hV, rfl, hfz, hnd⟩ := hW
  have hA : DataW.TrodAll enc Try.prog W 0 (fun _ => true) true Try.f9.params.toList args.toList ds p := hA0
  rw [Try.params9] at hA hval
  obtain ⟨v0, v1, d0, d1, p0, p1, rfl, rfl, rfl, h0, h1⟩ := trodAll_two hA
  obtain ⟨rfl, rfl⟩ := trodVars_none hV
  obtain ⟨A0, c0, l0, rfl, r0⟩ := open_row Try.underlying39 (by omega) reads_Sym (hval 0 39 v0 rfl rfl) h0
  obtain ⟨A1, c1, l1, rfl, r1⟩ := open_row Try.underlying39 (by omega) reads_Sym (hval 1 39 v1 rfl rfl) h1
  clear hA0 hval0
  refine (clones4_walk A0 A1 c0 c1 l0 l1 W r0 r1).mono fun e W' ⟨he, hb⟩ => ?_
  subst he
  exact ⟨_, rfl, post_true (tb := 4) laid_clones4 rfl hW' (by kernel_rfl) Try.underlying4 (fun t ht => by
    have ht' : t ∈ [39, 39] := by
      have e : Try.f9.params.toList = [39, 39] := by rw [Try.params9]
      rwa [e] at ht
    simp only [List.mem_cons, List.not_mem_nil, or_false] at ht'
    rcases ht' with rfl | rfl <;> exact ⟨by kernel_rfl, of_decide_eq_true (by kernel_rfl)⟩) rfl rfl rfl hb⟩

theorem clones4_holds : Rows.SymClonesSaid :=
  OpenClaim.holds_of_wide 9 Try.f9 rfl rfl rfl rfl rfl rfl rfl ⟨rfl, rfl, rfl, rfl, rfl⟩ rfl rfl rfl rfl rfl (by kernel_rfl) Try.func9 (by kernel_rfl)
    (of_decide_eq_true (by kernel_rfl)) (by unfold Func.isWrapper; first | (rw [if_pos (by decide +kernel)]; kernel_rfl) | (rw [if_neg (by decide +kernel)]; exact ⟨rfl, rfl⟩))
    (fun os started H enc _ => clones4_lifted os started H enc)
end Go.Proofs.Ytlkffnmmphehdaa
