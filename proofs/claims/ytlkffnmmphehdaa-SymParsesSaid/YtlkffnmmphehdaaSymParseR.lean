/-
  Symbols read by the document's own Parse: its walk, and that it answers what the program's does.
-/
import Derived.Test.YtlkffnmmphehdaaSymParse
import Derived.Test.YtlkffnmmphehdaaSymRead
namespace Go.Proofs.Ytlkffnmmphehdaa
open Go.RowKit
set_option maxHeartbeats 1000000 in
theorem only_yes (k n : Int) (t : ByteArray) (w : World) : Calls Try.prog 42 #[.agg #[.int .i64 k, .string t, .int .i64 n], .bool true] w fun e w' => e = .returned (.tuple #[.agg #[.int .i64 k, .string t, .int .i64 n], .bool true]) ∧ Below w.heap.size w w' := by
  go_enter Try.func42, Try.ntmps42
  go_wp2_with fail
  exact bodyPost_ret (v := .tuple #[.agg #[.int .i64 k, .string t, .int .i64 n], .bool true]) (by simp [results, Try.results42, go_sem]) rfl ⟨rfl, by (repeat (first | exact Below.refl _ _ | (refine Below.drew ?_) | (refine Below.alloc ?_ (by simp <;> omega) _) | (refine Below.setCell ?_ (by simp <;> omega) _)))⟩
set_option maxHeartbeats 1000000 in
theorem only_no (k n : Int) (t : ByteArray) (w : World) : Calls Try.prog 42 #[.agg #[.int .i64 k, .string t, .int .i64 n], .bool false] w fun e w' => e = .returned (.tuple #[.agg #[.int .i64 0, .string ⟨#[]⟩, .int .i64 0], .bool false]) ∧ Below w.heap.size w w' := by
  go_enter Try.func42, Try.ntmps42
  go_wp2_with fail
  exact bodyPost_ret (v := .tuple #[.agg #[.int .i64 0, .string ⟨#[]⟩, .int .i64 0], .bool false]) (by simp [results, Try.results42, go_sem]) rfl ⟨rfl, by (repeat (first | exact Below.refl _ _ | (refine Below.drew ?_) | (refine Below.alloc ?_ (by simp <;> omega) _) | (refine Below.setCell ?_ (by simp <;> omega) _)))⟩

/-! ### what it answers -/
theorem ext1_size {t : ByteArray} : (t.extract 1 t.size).size = t.size - 1 := by simp
theorem ext1_get {t : ByteArray} (h : 1 < t.size) (h2 : 0 < (t.extract 1 t.size).size) : (t.extract 1 t.size)[0] = t[1] := by
  simp [ByteArray.getElem_extract]
theorem ext01 {t : ByteArray} (h : 0 < t.size) : (t.extract 0 1).size = 1 ∧ ∀ h2 : 0 < (t.extract 0 1).size, (t.extract 0 1)[0] = t[0] := by
  refine ⟨by simp; omega, fun h2 => by simp [ByteArray.getElem_extract]⟩
theorem good_size {t : ByteArray} (h : goodNum t = true) : 0 < t.size ∧ t.size ≤ 10 ∧ ∀ k, (h : k < t.size) → digitB t[k] = true := by
  unfold goodNum at h
  simp only [Bool.and_eq_true, decide_eq_true_eq] at h
  exact ⟨h.1.1.1, h.1.1.2, allDig_iff.1 h.2⟩
theorem good_first {t : ByteArray} (h : goodNum t = true) (h0 : 0 < t.size) (h1 : t[0].toNat = 48) : t.size = 1 := by
  unfold goodNum at h
  simp only [Bool.and_eq_true, Bool.not_eq_true'] at h
  have h2 := h.1.2
  rw [headB_eq h0] at h2
  by_cases h3 : 1 < t.size
  · rw [decide_eq_true h3] at h2; simp [h1] at h2
  · omega
theorem fold_ge : ∀ (l : List UInt8) (a : Nat), a ≤ l.foldl (fun n c => 10 * n + (c.toNat - 48)) a
  | [], a => Nat.le_refl _
  | c :: l, a => by
    rw [List.foldl_cons]
    have := fold_ge l (10 * a + (c.toNat - 48))
    omega
theorem list_of_size {t : ByteArray} (h0 : 0 < t.size) : ∃ r, t.data.toList = t[0] :: r := by
  have hs : t.data.toList.length = t.size := Array.length_toList
  refine ⟨t.data.toList.drop 1, ?_⟩
  have e : t[0] = t.data.toList[0]'(by omega) := by rw [Array.getElem_toList]; rfl
  rw [e, List.getElem_cons_drop, List.drop_zero]
theorem tval_pos {t : ByteArray} (h0 : 0 < t.size) (h : digitB t[0] = true) (h1 : ¬ t[0].toNat = 48) : 0 < tval t := by
  obtain ⟨r, hr⟩ := list_of_size h0
  simp only [digitB, Bool.and_eq_true, decide_eq_true_eq] at h
  unfold tval val
  rw [hr, List.foldl_cons]
  have := fold_ge r (10 * 0 + (t[0].toNat - 48))
  omega
theorem tval_nought {t : ByteArray} (h0 : 0 < t.size) (h : t.size = 1) (h1 : t[0].toNat = 48) : tval t = 0 := by
  obtain ⟨r, hr⟩ := list_of_size h0
  have hs : t.data.toList.length = t.size := Array.length_toList
  rw [hr] at hs
  have hr0 : r = [] := List.eq_nil_of_length_eq_zero (by simp at hs; omega)
  subst hr0
  unfold tval val
  rw [hr]; simp [h1]
theorem tval_zero {t : ByteArray} (h : goodNum t = true) : tval t = 0 ↔ headB (fun c => c.toNat == 48) t = true := by
  obtain ⟨h0, _, hd⟩ := good_size h
  rw [headB_eq h0]
  constructor
  · intro e
    by_cases h1 : t[0].toNat = 48
    · simpa using h1
    · have := tval_pos h0 (hd 0 h0) h1; omega
  · intro e
    have h1 : t[0].toNat = 48 := by simpa using e
    exact tval_nought h0 (good_first h h0 h1) h1
theorem tval_lt {t : ByteArray} (h : goodNum t = true) : tval t < 10000000000 := by
  obtain ⟨_, h1, hd⟩ := good_size h
  have hs : t.data.toList.length = t.size := Array.length_toList
  have := val_lt t.data.toList (List.all_eq_true.1 (allDig_iff.2 hd))
  have h2 := pow_le_ten (show t.data.toList.length ≤ 10 by omega)
  unfold tval; omega
theorem good_digit_no {t : ByteArray} (h0 : 0 < t.size) (h : digitB t[0] = false) : goodNum t = false := good_no (.inr (.inr (.inr ⟨0, h0, h⟩)))
theorem great_not_digit {c : UInt8} (h : greatB c = true) : digitB c = false := by
  simp [greatB, digitB] at *; omega
theorem minus_not_digit {c : UInt8} (h : c.toNat = 45) : digitB c = false := by
  simp [digitB]; omega
/-- What Read tells, and what Parse makes of it. -/
def Says (t r : ByteArray) (k : Int) (tx : ByteArray) : Prop := ∃ (n : Int) (ok : Bool), readOf r = .tuple #[.int .i64 n, .bool ok] ∧ parseB t = if ok = true ∧ validB ⟨k, tx, n⟩ = true then some ⟨k, tx, n⟩ else none
theorem readRes_tuple (neg : Bool) (r : ByteArray) : readRes neg r = .tuple #[.int .i64 (if readGood neg r = true then (if neg = true then -(tval r : Int) else (tval r : Int)) else 0), .bool (readGood neg r)] := by
  unfold readRes
  cases readGood neg r <;> rfl
theorem says_id {t : ByteArray} (hw : isWord t = false) (h1 : 1 < t.size) (hg : greatB t[0] = true) (hm : ¬ t[1].toNat = 45) : Says t (t.extract 1 t.size) 1 (t.extract 0 1) := by
  have hz : 0 < t.size := by omega
  have hr0 : 0 < (t.extract 1 t.size).size := by rw [ext1_size]; omega
  have e1 : readOf (t.extract 1 t.size) = readRes false (t.extract 1 t.size) := by
    unfold readOf
    rw [headB_eq hr0, ext1_get h1 hr0]
    simp [hm]
  obtain ⟨e3, e4⟩ := ext01 hz
  refine ⟨_, _, by rw [e1, readRes_tuple], ?_⟩
  have e2 : readGood false (t.extract 1 t.size) = goodNum (t.extract 1 t.size) := by simp [readGood]
  rw [e2]
  unfold parseB
  rw [hw, headB_eq hz, hg]
  simp only [Bool.false_eq_true, if_false, if_true]
  cases hgd : goodNum (t.extract 1 t.size)
  · simp
  · simp only [if_true, true_and]
    have ev : validB ⟨1, t.extract 0 1, (tval (t.extract 1 t.size) : Int)⟩ = true ↔ (tval (t.extract 1 t.size) ≤ 1048576 ∧ tval (t.extract 1 t.size) ≠ 0) := by
      have e5 : headB greatB (t.extract 0 1) = true := by rw [headB_eq (by omega), e4 (by omega)]; exact hg
      simp [validB, e3, e5]; omega
    by_cases hc : validB ⟨1, t.extract 0 1, (tval (t.extract 1 t.size) : Int)⟩ = true
    · rw [if_pos (ev.1 hc), if_pos hc]
    · rw [if_neg (fun h => hc (ev.2 h)), if_neg hc]
theorem says_int {t : ByteArray} (hw : isWord t = false) (h : t.size ≤ 1 ∨ ∃ h1 : 1 < t.size, greatB (t[0]'(by omega)) = false ∨ t[1].toNat = 45) : Says t t 2 ⟨#[]⟩ := by
  have valid2 : ∀ n : Int, validB ⟨2, ⟨#[]⟩, n⟩ = true ↔ (-2147483647 ≤ n ∧ n ≤ 2147483647) := fun n => by
    have e : (⟨#[]⟩ : ByteArray).toList = [] := by kernel_rfl
    simp [validB, e]
  by_cases hz : 0 < t.size
  · by_cases hm : t[0].toNat = 45
    · have hg : greatB t[0] = false := by simp [greatB]; omega
      have e1 : readOf t = readRes true (t.extract 1 t.size) := by unfold readOf; rw [headB_eq hz]; simp [hm]
      refine ⟨_, _, by rw [e1, readRes_tuple], ?_⟩
      unfold parseB
      rw [hw, headB_eq hz, hg, headB_eq hz]
      simp only [hm, Bool.false_eq_true, if_false, if_true, beq_self_eq_true]
      cases hgd : goodNum (t.extract 1 t.size)
      · simp [readGood, hgd]
      · have hz2 := tval_zero hgd
        cases hh : headB (fun c => c.toNat == 48) (t.extract 1 t.size)
        · rw [hh] at hz2
          have e2 : readGood true (t.extract 1 t.size) = true := by simp [readGood, hgd, hh]
          rw [e2]
          simp only [if_true, true_and]
          have hne : tval (t.extract 1 t.size) ≠ 0 := fun e => by have := hz2.1 e; cases this
          by_cases hc : tval (t.extract 1 t.size) ≤ 2147483647
          · rw [if_pos ⟨hc, hne⟩, if_pos ((valid2 _).2 (by omega))]
          · rw [if_neg (fun h => hc h.1), if_neg (fun h => by have := (valid2 _).1 h; omega)]
        · rw [hh] at hz2
          have e2 : readGood true (t.extract 1 t.size) = false := by simp [readGood, hgd, hh]
          rw [e2]
          have e0 := hz2.2 rfl
          simp [e0]
    · have e1 : readOf t = readRes false t := by unfold readOf; rw [headB_eq hz]; simp [hm]
      have e2 : readGood false t = goodNum t := by simp [readGood]
      refine ⟨_, _, by rw [e1, readRes_tuple], ?_⟩
      rw [e2]
      unfold parseB
      rw [hw, headB_eq hz, headB_eq hz]
      have hm2 : (t[0].toNat == 45) = false := by simpa using hm
      rw [hm2]
      cases hg : greatB t[0]
      · simp only [Bool.false_eq_true, if_false]
        cases hgd : goodNum t
        · simp
        · simp only [if_true, true_and]
          by_cases hc : tval t ≤ 2147483647
          · rw [if_pos hc, if_pos ((valid2 _).2 (by omega))]
          · rw [if_neg hc, if_neg (fun h => by have := (valid2 _).1 h; omega)]
      · have hn := good_digit_no hz (great_not_digit hg)
        simp only [Bool.false_eq_true, if_false, if_true, hn, false_and]
        have hgr : goodNum (t.extract 1 t.size) = false := by
          rcases h with h | ⟨h1, h | h⟩
          · exact good_no (.inl (by rw [ext1_size]; omega))
          · rw [hg] at h; cases h
          · have hr0 : 0 < (t.extract 1 t.size).size := by rw [ext1_size]; omega
            exact good_digit_no hr0 (by rw [ext1_get h1 hr0]; exact minus_not_digit h)
        rw [hgr]; simp
  · have h0 : t.size = 0 := by omega
    have e : t = ⟨#[]⟩ := by apply ByteArray.ext; exact Array.eq_empty_of_size_eq_zero h0
    subst e
    exact ⟨0, false, rfl, by rfl⟩

set_option maxRecDepth 100000 in
set_option maxHeartbeats 8000000 in
theorem rparse_is (t : ByteArray) (hts : (t.size : Int) ≤ 1000000000) (w : World) : Calls Try.prog 16 #[.string t] w fun e w' => e = .returned (symRes (parseB t)) ∧ Below w.heap.size w w' := by
  cases hw : isWord t
  · have hint : Says t t 2 ⟨#[]⟩ → (∀ W, Calls Try.prog 41 #[.string t] W fun e w' => e = .returned (readOf t) ∧ W = w') := fun _ W => read_is t hts W
    by_cases h1 : 1 < t.size
    · have g1 : decide ((1 : Int) < (t.size : Int)) = true := by simp; omega
      have h0 : 0 < t.size := by omega
      have hl1 : (1 : Int) ≤ (t.size : Int) := by omega
      by_cases g65 : 65 ≤ t[0].toNat
      · have g2 : decide ((65 : Int) ≤ (t[0].toNat : Int)) = true := by simp; omega
        by_cases g90 : t[0].toNat ≤ 90
        · have g3 : decide ((t[0].toNat : Int) ≤ 90) = true := by simp; omega
          by_cases gm : t[1].toNat = 45
          · have g4 : ((t[1].toNat : Int) != 45) = false := by simp; omega
            have hs := says_int hw (.inr ⟨h1, .inr gm⟩)
            clear g65 g90 gm
            obtain ⟨n, ok, hN, hPB⟩ := hs
            have HN := Lib.hid hN
            clear hN
            cases ok
            · have HP2 : Hid (parseB t = none) := Lib.hid (by rw [hPB]; simp)
              clear hPB hint
              go_enter Try.func16, Try.ntmps16
              go_wp2_with (go_at_call 18; refine (rword_is _ _).mono ?_; rintro e w' ⟨rfl, rfl⟩)
              refine (read_is t hts _).mono ?_
              rintro e w1 ⟨rfl, rfl⟩
              rw [HN.out]
              go_wp2_with fail
              obtain ⟨W, hW⟩ : ∃ W, W = ((w.alloc (Obj.cells #[Value.int IntKind.i64 0, Value.string ⟨#[]⟩, Value.int IntKind.i64 0] 23)).alloc (Obj.cells #[Value.int IntKind.i64 2, Value.string (⟨#[]⟩), Value.int IntKind.i64 n] 23)) := ⟨_, rfl⟩
              have hX : Blk W w.heap.size 23 #[.int .i64 0, .string ⟨#[]⟩, .int .i64 0] := by rw [hW]; exact (Blk.new _ _ _).alloc _
              have hY : Blk W (w.heap.size + 1) 23 #[.int .i64 2, .string (⟨#[]⟩), .int .i64 n] := by
                rw [hW]
                have := Blk.new (w.alloc (Obj.cells #[Value.int IntKind.i64 0, Value.string ⟨#[]⟩, Value.int IntKind.i64 0] 23)) 23 #[.int .i64 2, .string (⟨#[]⟩), .int .i64 n]
                simpa using this
              have hB : Below w.heap.size w W := by rw [hW]; exact ((Below.refl _ _).alloc (Nat.le_refl _) _).alloc (by simp) _
              rw [← hW]
              clear hW
              have y0 := (hY.cell 0).trans rfl
              have y1 := (hY.cell 1).trans rfl
              have y2 := (hY.cell 2).trans rfl
              have hyl := hY.lt
              have HX := Lib.hid hX
              have HB := Lib.hid hB
              clear hX hY hB
              refine wp_region_E (fun w9 => Below W.heap.size W w9) [(0, 1), (1, 0), (2, 0), (3, 1), (4, 2), (5, 0), (6, 2), (7, 0), (8, 0), (9, 2), (10, 0)] (by kernel_rfl) (by kernel_rfl) (fun KK hKK => ?_)
              simp only [beside, List.filterMap_cons, List.filterMap_nil, List.getElem?_toArray, List.getElem?_cons_zero, List.getElem?_cons_succ, Option.map_some]
              repeat (first | (refine wpX_w ?_ (Or.inl ⟨by rfl, fun w9 => ?_⟩) ?_; rotate_left 1; go_simp; with_reducible rfl; simp only [Act.put, List.setIfInBounds_toArray, List.set_cons_zero, List.set_cons_succ]) | (refine wpX_l ?_ (((Below.refl _ _).drew)) (Or.inl ⟨by rfl, fun w9 hw9 => ?_⟩) ?_; rotate_left 1; obtain ⟨hc9, hf9⟩ := bcell hw9; go_simp; with_reducible rfl; simp only [Act.put, List.setIfInBounds_toArray, List.set_cons_zero, List.set_cons_succ]) | (refine wpX_w undef (Or.inr ⟨by rfl, rfl⟩) ?_; simp only [Act.put, List.setIfInBounds_toArray, List.set_cons_zero, List.set_cons_succ]) | (refine wpX_l undef (((Below.refl _ _).drew)) (Or.inr ⟨by rfl, rfl⟩) ?_; simp only [Act.put, List.setIfInBounds_toArray, List.set_cons_zero, List.set_cons_succ]))
              refine wpX_es (fun K9 hK9 => ?_)
              go_simp
              have HB2 := Lib.hid ((Below.refl W.heap.size W).drew)
              refine hK9 _ _ HB2.out ?_
              clear hK9 K9
              repeat (first | (refine wpX_w ?_ (Or.inl ⟨by rfl, fun w9 => ?_⟩) ?_; rotate_left 1; go_simp; with_reducible rfl; simp only [Act.put, List.setIfInBounds_toArray, List.set_cons_zero, List.set_cons_succ]) | (refine wpX_l ?_ (HB2.out) (Or.inl ⟨by rfl, fun w9 hw9 => ?_⟩) ?_; rotate_left 1; obtain ⟨hc9, hf9⟩ := bcell hw9; go_simp; with_reducible rfl; simp only [Act.put, List.setIfInBounds_toArray, List.set_cons_zero, List.set_cons_succ]) | (refine wpX_w undef (Or.inr ⟨by rfl, rfl⟩) ?_; simp only [Act.put, List.setIfInBounds_toArray, List.set_cons_zero, List.set_cons_succ]) | (refine wpX_l undef (HB2.out) (Or.inr ⟨by rfl, rfl⟩) ?_; simp only [Act.put, List.setIfInBounds_toArray, List.set_cons_zero, List.set_cons_succ]))
              refine wpX_e (by kernel_rfl) (fun K9 hK9 => ?_)
              go_simp
              refine (only_no _ _ _ _).mono ?_
              rintro e w3 ⟨rfl, hb3⟩
              have HB3 := Lib.hid (HB2.out.trans (hb3.mono (by have := HB2.out.size; first | omega | (simp; done) | (simp; omega))))
              have hX3 := HX.out.new_ HB3.out
              have u0 : w3.cell? ⟨w.heap.size, 0, none⟩ = some (.int .i64 0) := (hX3.cell 0).trans rfl
              have u1 : w3.cell? ⟨w.heap.size, 1, none⟩ = some (.string ⟨#[]⟩) := (hX3.cell 1).trans rfl
              have u2 : w3.cell? ⟨w.heap.size, 2, none⟩ = some (.int .i64 0) := (hX3.cell 2).trans rfl
              have f0 := hX3.frozen 0
              have f1 := hX3.frozen 1
              have f2 := hX3.frozen 2
              have hXl := hX3.lt
              clear hb3
              refine hK9 _ _ ?_
              clear hK9 K9
              repeat (first | (refine wpX_w ?_ (Or.inl ⟨by rfl, fun w9 => ?_⟩) ?_; rotate_left 1; go_simp; with_reducible rfl; simp only [Act.put, List.setIfInBounds_toArray, List.set_cons_zero, List.set_cons_succ]) | (refine wpX_l ?_ (HB2.out) (Or.inl ⟨by rfl, fun w9 hw9 => ?_⟩) ?_; rotate_left 1; obtain ⟨hc9, hf9⟩ := bcell hw9; go_simp; with_reducible rfl; simp only [Act.put, List.setIfInBounds_toArray, List.set_cons_zero, List.set_cons_succ]) | (refine wpX_w undef (Or.inr ⟨by rfl, rfl⟩) ?_; simp only [Act.put, List.setIfInBounds_toArray, List.set_cons_zero, List.set_cons_succ]) | (refine wpX_l undef (HB2.out) (Or.inr ⟨by rfl, rfl⟩) ?_; simp only [Act.put, List.setIfInBounds_toArray, List.set_cons_zero, List.set_cons_succ]))
              refine wpX_e (by kernel_rfl) (fun K9 hK9 => ?_)
              go_simp
              refine hK9 _ _ ?_
              clear hK9 K9
              repeat (first | (refine wpX_w ?_ (Or.inl ⟨by rfl, fun w9 => ?_⟩) ?_; rotate_left 1; go_simp; with_reducible rfl; simp only [Act.put, List.setIfInBounds_toArray, List.set_cons_zero, List.set_cons_succ]) | (refine wpX_l ?_ (HB2.out) (Or.inl ⟨by rfl, fun w9 hw9 => ?_⟩) ?_; rotate_left 1; obtain ⟨hc9, hf9⟩ := bcell hw9; go_simp; with_reducible rfl; simp only [Act.put, List.setIfInBounds_toArray, List.set_cons_zero, List.set_cons_succ]) | (refine wpX_w undef (Or.inr ⟨by rfl, rfl⟩) ?_; simp only [Act.put, List.setIfInBounds_toArray, List.set_cons_zero, List.set_cons_succ]) | (refine wpX_l undef (HB2.out) (Or.inr ⟨by rfl, rfl⟩) ?_; simp only [Act.put, List.setIfInBounds_toArray, List.set_cons_zero, List.set_cons_succ]))
              refine wpX_nil ?_
              simp only [OnlyN_normal]
              refine hKK _ _ ?_
              clear hKK KK
              go_wp2_with fail
              refine bodyPost_ret (v := .tuple #[.agg #[.int .i64 0, .string ⟨#[]⟩, .int .i64 0], .bool false]) (by simp [results, Try.results16, go_sem, u0, u1, u2]) rfl ⟨by rw [HP2.out] <;> rfl, ?_⟩
              exact ((((HB.out.trans (HB3.out.mono HB.out.size))).setCell (by simp) _).setCell (by simp) _).setCell (by simp) _
            · cases hvd : validB ⟨2, ⟨#[]⟩, n⟩
              · have HP2 : Hid (parseB t = none) := Lib.hid (by rw [hPB, hvd]; simp)
                clear hPB hint
                go_enter Try.func16, Try.ntmps16
                go_wp2_with (go_at_call 18; refine (rword_is _ _).mono ?_; rintro e w' ⟨rfl, rfl⟩)
                refine (read_is t hts _).mono ?_
                rintro e w1 ⟨rfl, rfl⟩
                rw [HN.out]
                go_wp2_with fail
                obtain ⟨W, hW⟩ : ∃ W, W = ((w.alloc (Obj.cells #[Value.int IntKind.i64 0, Value.string ⟨#[]⟩, Value.int IntKind.i64 0] 23)).alloc (Obj.cells #[Value.int IntKind.i64 2, Value.string (⟨#[]⟩), Value.int IntKind.i64 n] 23)) := ⟨_, rfl⟩
                have hX : Blk W w.heap.size 23 #[.int .i64 0, .string ⟨#[]⟩, .int .i64 0] := by rw [hW]; exact (Blk.new _ _ _).alloc _
                have hY : Blk W (w.heap.size + 1) 23 #[.int .i64 2, .string (⟨#[]⟩), .int .i64 n] := by
                  rw [hW]
                  have := Blk.new (w.alloc (Obj.cells #[Value.int IntKind.i64 0, Value.string ⟨#[]⟩, Value.int IntKind.i64 0] 23)) 23 #[.int .i64 2, .string (⟨#[]⟩), .int .i64 n]
                  simpa using this
                have hB : Below w.heap.size w W := by rw [hW]; exact ((Below.refl _ _).alloc (Nat.le_refl _) _).alloc (by simp) _
                rw [← hW]
                clear hW
                have y0 := (hY.cell 0).trans rfl
                have y1 := (hY.cell 1).trans rfl
                have y2 := (hY.cell 2).trans rfl
                have hyl := hY.lt
                have HX := Lib.hid hX
                have HB := Lib.hid hB
                clear hX hY hB
                refine wp_region_E (fun w9 => Below W.heap.size W w9) [(0, 1), (1, 0), (2, 0), (3, 1), (4, 2), (5, 0), (6, 2), (7, 0), (8, 0), (9, 2), (10, 0)] (by kernel_rfl) (by kernel_rfl) (fun KK hKK => ?_)
                simp only [beside, List.filterMap_cons, List.filterMap_nil, List.getElem?_toArray, List.getElem?_cons_zero, List.getElem?_cons_succ, Option.map_some]
                repeat (first | (refine wpX_w ?_ (Or.inl ⟨by rfl, fun w9 => ?_⟩) ?_; rotate_left 1; go_simp; with_reducible rfl; simp only [Act.put, List.setIfInBounds_toArray, List.set_cons_zero, List.set_cons_succ]) | (refine wpX_l ?_ (((Below.refl _ _).drew)) (Or.inl ⟨by rfl, fun w9 hw9 => ?_⟩) ?_; rotate_left 1; obtain ⟨hc9, hf9⟩ := bcell hw9; go_simp; with_reducible rfl; simp only [Act.put, List.setIfInBounds_toArray, List.set_cons_zero, List.set_cons_succ]) | (refine wpX_w undef (Or.inr ⟨by rfl, rfl⟩) ?_; simp only [Act.put, List.setIfInBounds_toArray, List.set_cons_zero, List.set_cons_succ]) | (refine wpX_l undef (((Below.refl _ _).drew)) (Or.inr ⟨by rfl, rfl⟩) ?_; simp only [Act.put, List.setIfInBounds_toArray, List.set_cons_zero, List.set_cons_succ]))
                refine wpX_es (fun K9 hK9 => ?_)
                go_simp
                refine (rvalid_is ⟨2, ⟨#[]⟩, n⟩ _).mono ?_
                rintro e w2 ⟨rfl, hb2⟩
                have HB2 := Lib.hid ((Below.refl W.heap.size W).drew.trans (hb2.mono (by simp)))
                clear hb2
                refine hK9 _ _ HB2.out ?_
                clear hK9 K9
                repeat (first | (refine wpX_w ?_ (Or.inl ⟨by rfl, fun w9 => ?_⟩) ?_; rotate_left 1; go_simp; with_reducible rfl; simp only [Act.put, List.setIfInBounds_toArray, List.set_cons_zero, List.set_cons_succ]) | (refine wpX_l ?_ (HB2.out) (Or.inl ⟨by rfl, fun w9 hw9 => ?_⟩) ?_; rotate_left 1; obtain ⟨hc9, hf9⟩ := bcell hw9; go_simp; with_reducible rfl; simp only [Act.put, List.setIfInBounds_toArray, List.set_cons_zero, List.set_cons_succ]) | (refine wpX_w undef (Or.inr ⟨by rfl, rfl⟩) ?_; simp only [Act.put, List.setIfInBounds_toArray, List.set_cons_zero, List.set_cons_succ]) | (refine wpX_l undef (HB2.out) (Or.inr ⟨by rfl, rfl⟩) ?_; simp only [Act.put, List.setIfInBounds_toArray, List.set_cons_zero, List.set_cons_succ]))
                refine wpX_e (by kernel_rfl) (fun K9 hK9 => ?_)
                go_simp
                refine (only_no _ _ _ _).mono ?_
                rintro e w3 ⟨rfl, hb3⟩
                have HB3 := Lib.hid (HB2.out.trans (hb3.mono (by have := HB2.out.size; first | omega | (simp; done) | (simp; omega))))
                have hX3 := HX.out.new_ HB3.out
                have u0 : w3.cell? ⟨w.heap.size, 0, none⟩ = some (.int .i64 0) := (hX3.cell 0).trans rfl
                have u1 : w3.cell? ⟨w.heap.size, 1, none⟩ = some (.string ⟨#[]⟩) := (hX3.cell 1).trans rfl
                have u2 : w3.cell? ⟨w.heap.size, 2, none⟩ = some (.int .i64 0) := (hX3.cell 2).trans rfl
                have f0 := hX3.frozen 0
                have f1 := hX3.frozen 1
                have f2 := hX3.frozen 2
                have hXl := hX3.lt
                clear hb3
                refine hK9 _ _ ?_
                clear hK9 K9
                repeat (first | (refine wpX_w ?_ (Or.inl ⟨by rfl, fun w9 => ?_⟩) ?_; rotate_left 1; go_simp; with_reducible rfl; simp only [Act.put, List.setIfInBounds_toArray, List.set_cons_zero, List.set_cons_succ]) | (refine wpX_l ?_ (HB2.out) (Or.inl ⟨by rfl, fun w9 hw9 => ?_⟩) ?_; rotate_left 1; obtain ⟨hc9, hf9⟩ := bcell hw9; go_simp; with_reducible rfl; simp only [Act.put, List.setIfInBounds_toArray, List.set_cons_zero, List.set_cons_succ]) | (refine wpX_w undef (Or.inr ⟨by rfl, rfl⟩) ?_; simp only [Act.put, List.setIfInBounds_toArray, List.set_cons_zero, List.set_cons_succ]) | (refine wpX_l undef (HB2.out) (Or.inr ⟨by rfl, rfl⟩) ?_; simp only [Act.put, List.setIfInBounds_toArray, List.set_cons_zero, List.set_cons_succ]))
                refine wpX_e (by kernel_rfl) (fun K9 hK9 => ?_)
                go_simp
                refine hK9 _ _ ?_
                clear hK9 K9
                repeat (first | (refine wpX_w ?_ (Or.inl ⟨by rfl, fun w9 => ?_⟩) ?_; rotate_left 1; go_simp; with_reducible rfl; simp only [Act.put, List.setIfInBounds_toArray, List.set_cons_zero, List.set_cons_succ]) | (refine wpX_l ?_ (HB2.out) (Or.inl ⟨by rfl, fun w9 hw9 => ?_⟩) ?_; rotate_left 1; obtain ⟨hc9, hf9⟩ := bcell hw9; go_simp; with_reducible rfl; simp only [Act.put, List.setIfInBounds_toArray, List.set_cons_zero, List.set_cons_succ]) | (refine wpX_w undef (Or.inr ⟨by rfl, rfl⟩) ?_; simp only [Act.put, List.setIfInBounds_toArray, List.set_cons_zero, List.set_cons_succ]) | (refine wpX_l undef (HB2.out) (Or.inr ⟨by rfl, rfl⟩) ?_; simp only [Act.put, List.setIfInBounds_toArray, List.set_cons_zero, List.set_cons_succ]))
                refine wpX_nil ?_
                simp only [OnlyN_normal]
                refine hKK _ _ ?_
                clear hKK KK
                go_wp2_with fail
                refine bodyPost_ret (v := .tuple #[.agg #[.int .i64 0, .string ⟨#[]⟩, .int .i64 0], .bool false]) (by simp [results, Try.results16, go_sem, u0, u1, u2]) rfl ⟨by rw [HP2.out] <;> rfl, ?_⟩
                exact ((((HB.out.trans (HB3.out.mono HB.out.size))).setCell (by simp) _).setCell (by simp) _).setCell (by simp) _
              · have HP2 : Hid (parseB t = some ⟨2, ⟨#[]⟩, n⟩) := Lib.hid (by rw [hPB, hvd]; simp)
                clear hPB hint
                go_enter Try.func16, Try.ntmps16
                go_wp2_with (go_at_call 18; refine (rword_is _ _).mono ?_; rintro e w' ⟨rfl, rfl⟩)
                refine (read_is t hts _).mono ?_
                rintro e w1 ⟨rfl, rfl⟩
                rw [HN.out]
                go_wp2_with fail
                obtain ⟨W, hW⟩ : ∃ W, W = ((w.alloc (Obj.cells #[Value.int IntKind.i64 0, Value.string ⟨#[]⟩, Value.int IntKind.i64 0] 23)).alloc (Obj.cells #[Value.int IntKind.i64 2, Value.string (⟨#[]⟩), Value.int IntKind.i64 n] 23)) := ⟨_, rfl⟩
                have hX : Blk W w.heap.size 23 #[.int .i64 0, .string ⟨#[]⟩, .int .i64 0] := by rw [hW]; exact (Blk.new _ _ _).alloc _
                have hY : Blk W (w.heap.size + 1) 23 #[.int .i64 2, .string (⟨#[]⟩), .int .i64 n] := by
                  rw [hW]
                  have := Blk.new (w.alloc (Obj.cells #[Value.int IntKind.i64 0, Value.string ⟨#[]⟩, Value.int IntKind.i64 0] 23)) 23 #[.int .i64 2, .string (⟨#[]⟩), .int .i64 n]
                  simpa using this
                have hB : Below w.heap.size w W := by rw [hW]; exact ((Below.refl _ _).alloc (Nat.le_refl _) _).alloc (by simp) _
                rw [← hW]
                clear hW
                have y0 := (hY.cell 0).trans rfl
                have y1 := (hY.cell 1).trans rfl
                have y2 := (hY.cell 2).trans rfl
                have hyl := hY.lt
                have HX := Lib.hid hX
                have HB := Lib.hid hB
                clear hX hY hB
                refine wp_region_E (fun w9 => Below W.heap.size W w9) [(0, 1), (1, 0), (2, 0), (3, 1), (4, 2), (5, 0), (6, 2), (7, 0), (8, 0), (9, 2), (10, 0)] (by kernel_rfl) (by kernel_rfl) (fun KK hKK => ?_)
                simp only [beside, List.filterMap_cons, List.filterMap_nil, List.getElem?_toArray, List.getElem?_cons_zero, List.getElem?_cons_succ, Option.map_some]
                repeat (first | (refine wpX_w ?_ (Or.inl ⟨by rfl, fun w9 => ?_⟩) ?_; rotate_left 1; go_simp; with_reducible rfl; simp only [Act.put, List.setIfInBounds_toArray, List.set_cons_zero, List.set_cons_succ]) | (refine wpX_l ?_ (((Below.refl _ _).drew)) (Or.inl ⟨by rfl, fun w9 hw9 => ?_⟩) ?_; rotate_left 1; obtain ⟨hc9, hf9⟩ := bcell hw9; go_simp; with_reducible rfl; simp only [Act.put, List.setIfInBounds_toArray, List.set_cons_zero, List.set_cons_succ]) | (refine wpX_w undef (Or.inr ⟨by rfl, rfl⟩) ?_; simp only [Act.put, List.setIfInBounds_toArray, List.set_cons_zero, List.set_cons_succ]) | (refine wpX_l undef (((Below.refl _ _).drew)) (Or.inr ⟨by rfl, rfl⟩) ?_; simp only [Act.put, List.setIfInBounds_toArray, List.set_cons_zero, List.set_cons_succ]))
                refine wpX_es (fun K9 hK9 => ?_)
                go_simp
                refine (rvalid_is ⟨2, ⟨#[]⟩, n⟩ _).mono ?_
                rintro e w2 ⟨rfl, hb2⟩
                have HB2 := Lib.hid ((Below.refl W.heap.size W).drew.trans (hb2.mono (by simp)))
                clear hb2
                refine hK9 _ _ HB2.out ?_
                clear hK9 K9
                repeat (first | (refine wpX_w ?_ (Or.inl ⟨by rfl, fun w9 => ?_⟩) ?_; rotate_left 1; go_simp; with_reducible rfl; simp only [Act.put, List.setIfInBounds_toArray, List.set_cons_zero, List.set_cons_succ]) | (refine wpX_l ?_ (HB2.out) (Or.inl ⟨by rfl, fun w9 hw9 => ?_⟩) ?_; rotate_left 1; obtain ⟨hc9, hf9⟩ := bcell hw9; go_simp; with_reducible rfl; simp only [Act.put, List.setIfInBounds_toArray, List.set_cons_zero, List.set_cons_succ]) | (refine wpX_w undef (Or.inr ⟨by rfl, rfl⟩) ?_; simp only [Act.put, List.setIfInBounds_toArray, List.set_cons_zero, List.set_cons_succ]) | (refine wpX_l undef (HB2.out) (Or.inr ⟨by rfl, rfl⟩) ?_; simp only [Act.put, List.setIfInBounds_toArray, List.set_cons_zero, List.set_cons_succ]))
                refine wpX_e (by kernel_rfl) (fun K9 hK9 => ?_)
                go_simp
                refine (only_yes _ _ _ _).mono ?_
                rintro e w3 ⟨rfl, hb3⟩
                have HB3 := Lib.hid (HB2.out.trans (hb3.mono (by have := HB2.out.size; first | omega | (simp; done) | (simp; omega))))
                have hX3 := HX.out.new_ HB3.out
                have u0 : w3.cell? ⟨w.heap.size, 0, none⟩ = some (.int .i64 0) := (hX3.cell 0).trans rfl
                have u1 : w3.cell? ⟨w.heap.size, 1, none⟩ = some (.string ⟨#[]⟩) := (hX3.cell 1).trans rfl
                have u2 : w3.cell? ⟨w.heap.size, 2, none⟩ = some (.int .i64 0) := (hX3.cell 2).trans rfl
                have f0 := hX3.frozen 0
                have f1 := hX3.frozen 1
                have f2 := hX3.frozen 2
                have hXl := hX3.lt
                clear hb3
                refine hK9 _ _ ?_
                clear hK9 K9
                repeat (first | (refine wpX_w ?_ (Or.inl ⟨by rfl, fun w9 => ?_⟩) ?_; rotate_left 1; go_simp; with_reducible rfl; simp only [Act.put, List.setIfInBounds_toArray, List.set_cons_zero, List.set_cons_succ]) | (refine wpX_l ?_ (HB2.out) (Or.inl ⟨by rfl, fun w9 hw9 => ?_⟩) ?_; rotate_left 1; obtain ⟨hc9, hf9⟩ := bcell hw9; go_simp; with_reducible rfl; simp only [Act.put, List.setIfInBounds_toArray, List.set_cons_zero, List.set_cons_succ]) | (refine wpX_w undef (Or.inr ⟨by rfl, rfl⟩) ?_; simp only [Act.put, List.setIfInBounds_toArray, List.set_cons_zero, List.set_cons_succ]) | (refine wpX_l undef (HB2.out) (Or.inr ⟨by rfl, rfl⟩) ?_; simp only [Act.put, List.setIfInBounds_toArray, List.set_cons_zero, List.set_cons_succ]))
                refine wpX_e (by kernel_rfl) (fun K9 hK9 => ?_)
                go_simp
                refine hK9 _ _ ?_
                clear hK9 K9
                repeat (first | (refine wpX_w ?_ (Or.inl ⟨by rfl, fun w9 => ?_⟩) ?_; rotate_left 1; go_simp; with_reducible rfl; simp only [Act.put, List.setIfInBounds_toArray, List.set_cons_zero, List.set_cons_succ]) | (refine wpX_l ?_ (HB2.out) (Or.inl ⟨by rfl, fun w9 hw9 => ?_⟩) ?_; rotate_left 1; obtain ⟨hc9, hf9⟩ := bcell hw9; go_simp; with_reducible rfl; simp only [Act.put, List.setIfInBounds_toArray, List.set_cons_zero, List.set_cons_succ]) | (refine wpX_w undef (Or.inr ⟨by rfl, rfl⟩) ?_; simp only [Act.put, List.setIfInBounds_toArray, List.set_cons_zero, List.set_cons_succ]) | (refine wpX_l undef (HB2.out) (Or.inr ⟨by rfl, rfl⟩) ?_; simp only [Act.put, List.setIfInBounds_toArray, List.set_cons_zero, List.set_cons_succ]))
                refine wpX_nil ?_
                simp only [OnlyN_normal]
                refine hKK _ _ ?_
                clear hKK KK
                go_wp2_with fail
                refine bodyPost_ret (v := .tuple #[.agg #[.int .i64 2, .string ⟨#[]⟩, .int .i64 n], .bool true]) (by simp [results, Try.results16, go_sem, u0, u1, u2]) rfl ⟨by rw [HP2.out] <;> rfl, ?_⟩
                exact ((((HB.out.trans (HB3.out.mono HB.out.size))).setCell (by simp) _).setCell (by simp) _).setCell (by simp) _
          · have g4 : ((t[1].toNat : Int) != 45) = true := by simp; omega
            have hs := says_id hw h1 (by simp [greatB, g65, g90]) gm
            clear g65 g90 gm
            obtain ⟨n, ok, hN, hPB⟩ := hs
            have HN := Lib.hid hN
            clear hN
            cases ok
            · have HP2 : Hid (parseB t = none) := Lib.hid (by rw [hPB]; simp)
              clear hPB hint
              go_enter Try.func16, Try.ntmps16
              go_wp2_with (go_at_call 18; refine (rword_is _ _).mono ?_; rintro e w' ⟨rfl, rfl⟩)
              refine (read_is (t.extract 1 t.size) (by rw [ext1_size]; omega) _).mono ?_
              rintro e w1 ⟨rfl, rfl⟩
              rw [HN.out]
              go_wp2_with fail
              obtain ⟨W, hW⟩ : ∃ W, W = ((w.alloc (Obj.cells #[Value.int IntKind.i64 0, Value.string ⟨#[]⟩, Value.int IntKind.i64 0] 23)).alloc (Obj.cells #[Value.int IntKind.i64 1, Value.string (t.extract 0 1), Value.int IntKind.i64 n] 23)) := ⟨_, rfl⟩
              have hX : Blk W w.heap.size 23 #[.int .i64 0, .string ⟨#[]⟩, .int .i64 0] := by rw [hW]; exact (Blk.new _ _ _).alloc _
              have hY : Blk W (w.heap.size + 1) 23 #[.int .i64 1, .string (t.extract 0 1), .int .i64 n] := by
                rw [hW]
                have := Blk.new (w.alloc (Obj.cells #[Value.int IntKind.i64 0, Value.string ⟨#[]⟩, Value.int IntKind.i64 0] 23)) 23 #[.int .i64 1, .string (t.extract 0 1), .int .i64 n]
                simpa using this
              have hB : Below w.heap.size w W := by rw [hW]; exact ((Below.refl _ _).alloc (Nat.le_refl _) _).alloc (by simp) _
              rw [← hW]
              clear hW
              have y0 := (hY.cell 0).trans rfl
              have y1 := (hY.cell 1).trans rfl
              have y2 := (hY.cell 2).trans rfl
              have hyl := hY.lt
              have HX := Lib.hid hX
              have HB := Lib.hid hB
              clear hX hY hB
              refine wp_region_E (fun w9 => Below W.heap.size W w9) [(0, 1), (1, 0), (2, 0), (3, 1), (4, 2), (5, 0), (6, 2), (7, 0), (8, 0), (9, 2), (10, 0)] (by kernel_rfl) (by kernel_rfl) (fun KK hKK => ?_)
              simp only [beside, List.filterMap_cons, List.filterMap_nil, List.getElem?_toArray, List.getElem?_cons_zero, List.getElem?_cons_succ, Option.map_some]
              repeat (first | (refine wpX_w ?_ (Or.inl ⟨by rfl, fun w9 => ?_⟩) ?_; rotate_left 1; go_simp; with_reducible rfl; simp only [Act.put, List.setIfInBounds_toArray, List.set_cons_zero, List.set_cons_succ]) | (refine wpX_l ?_ (((Below.refl _ _).drew)) (Or.inl ⟨by rfl, fun w9 hw9 => ?_⟩) ?_; rotate_left 1; obtain ⟨hc9, hf9⟩ := bcell hw9; go_simp; with_reducible rfl; simp only [Act.put, List.setIfInBounds_toArray, List.set_cons_zero, List.set_cons_succ]) | (refine wpX_w undef (Or.inr ⟨by rfl, rfl⟩) ?_; simp only [Act.put, List.setIfInBounds_toArray, List.set_cons_zero, List.set_cons_succ]) | (refine wpX_l undef (((Below.refl _ _).drew)) (Or.inr ⟨by rfl, rfl⟩) ?_; simp only [Act.put, List.setIfInBounds_toArray, List.set_cons_zero, List.set_cons_succ]))
              refine wpX_es (fun K9 hK9 => ?_)
              go_simp
              have HB2 := Lib.hid ((Below.refl W.heap.size W).drew)
              refine hK9 _ _ HB2.out ?_
              clear hK9 K9
              repeat (first | (refine wpX_w ?_ (Or.inl ⟨by rfl, fun w9 => ?_⟩) ?_; rotate_left 1; go_simp; with_reducible rfl; simp only [Act.put, List.setIfInBounds_toArray, List.set_cons_zero, List.set_cons_succ]) | (refine wpX_l ?_ (HB2.out) (Or.inl ⟨by rfl, fun w9 hw9 => ?_⟩) ?_; rotate_left 1; obtain ⟨hc9, hf9⟩ := bcell hw9; go_simp; with_reducible rfl; simp only [Act.put, List.setIfInBounds_toArray, List.set_cons_zero, List.set_cons_succ]) | (refine wpX_w undef (Or.inr ⟨by rfl, rfl⟩) ?_; simp only [Act.put, List.setIfInBounds_toArray, List.set_cons_zero, List.set_cons_succ]) | (refine wpX_l undef (HB2.out) (Or.inr ⟨by rfl, rfl⟩) ?_; simp only [Act.put, List.setIfInBounds_toArray, List.set_cons_zero, List.set_cons_succ]))
              refine wpX_e (by kernel_rfl) (fun K9 hK9 => ?_)
              go_simp
              refine (only_no _ _ _ _).mono ?_
              rintro e w3 ⟨rfl, hb3⟩
              have HB3 := Lib.hid (HB2.out.trans (hb3.mono (by have := HB2.out.size; first | omega | (simp; done) | (simp; omega))))
              have hX3 := HX.out.new_ HB3.out
              have u0 : w3.cell? ⟨w.heap.size, 0, none⟩ = some (.int .i64 0) := (hX3.cell 0).trans rfl
              have u1 : w3.cell? ⟨w.heap.size, 1, none⟩ = some (.string ⟨#[]⟩) := (hX3.cell 1).trans rfl
              have u2 : w3.cell? ⟨w.heap.size, 2, none⟩ = some (.int .i64 0) := (hX3.cell 2).trans rfl
              have f0 := hX3.frozen 0
              have f1 := hX3.frozen 1
              have f2 := hX3.frozen 2
              have hXl := hX3.lt
              clear hb3
              refine hK9 _ _ ?_
              clear hK9 K9
              repeat (first | (refine wpX_w ?_ (Or.inl ⟨by rfl, fun w9 => ?_⟩) ?_; rotate_left 1; go_simp; with_reducible rfl; simp only [Act.put, List.setIfInBounds_toArray, List.set_cons_zero, List.set_cons_succ]) | (refine wpX_l ?_ (HB2.out) (Or.inl ⟨by rfl, fun w9 hw9 => ?_⟩) ?_; rotate_left 1; obtain ⟨hc9, hf9⟩ := bcell hw9; go_simp; with_reducible rfl; simp only [Act.put, List.setIfInBounds_toArray, List.set_cons_zero, List.set_cons_succ]) | (refine wpX_w undef (Or.inr ⟨by rfl, rfl⟩) ?_; simp only [Act.put, List.setIfInBounds_toArray, List.set_cons_zero, List.set_cons_succ]) | (refine wpX_l undef (HB2.out) (Or.inr ⟨by rfl, rfl⟩) ?_; simp only [Act.put, List.setIfInBounds_toArray, List.set_cons_zero, List.set_cons_succ]))
              refine wpX_e (by kernel_rfl) (fun K9 hK9 => ?_)
              go_simp
              refine hK9 _ _ ?_
              clear hK9 K9
              repeat (first | (refine wpX_w ?_ (Or.inl ⟨by rfl, fun w9 => ?_⟩) ?_; rotate_left 1; go_simp; with_reducible rfl; simp only [Act.put, List.setIfInBounds_toArray, List.set_cons_zero, List.set_cons_succ]) | (refine wpX_l ?_ (HB2.out) (Or.inl ⟨by rfl, fun w9 hw9 => ?_⟩) ?_; rotate_left 1; obtain ⟨hc9, hf9⟩ := bcell hw9; go_simp; with_reducible rfl; simp only [Act.put, List.setIfInBounds_toArray, List.set_cons_zero, List.set_cons_succ]) | (refine wpX_w undef (Or.inr ⟨by rfl, rfl⟩) ?_; simp only [Act.put, List.setIfInBounds_toArray, List.set_cons_zero, List.set_cons_succ]) | (refine wpX_l undef (HB2.out) (Or.inr ⟨by rfl, rfl⟩) ?_; simp only [Act.put, List.setIfInBounds_toArray, List.set_cons_zero, List.set_cons_succ]))
              refine wpX_nil ?_
              simp only [OnlyN_normal]
              refine hKK _ _ ?_
              clear hKK KK
              go_wp2_with fail
              refine bodyPost_ret (v := .tuple #[.agg #[.int .i64 0, .string ⟨#[]⟩, .int .i64 0], .bool false]) (by simp [results, Try.results16, go_sem, u0, u1, u2]) rfl ⟨by rw [HP2.out] <;> rfl, ?_⟩
              exact ((((HB.out.trans (HB3.out.mono HB.out.size))).setCell (by simp) _).setCell (by simp) _).setCell (by simp) _
            · cases hvd : validB ⟨1, t.extract 0 1, n⟩
              · have HP2 : Hid (parseB t = none) := Lib.hid (by rw [hPB, hvd]; simp)
                clear hPB hint
                go_enter Try.func16, Try.ntmps16
                go_wp2_with (go_at_call 18; refine (rword_is _ _).mono ?_; rintro e w' ⟨rfl, rfl⟩)
                refine (read_is (t.extract 1 t.size) (by rw [ext1_size]; omega) _).mono ?_
                rintro e w1 ⟨rfl, rfl⟩
                rw [HN.out]
                go_wp2_with fail
                obtain ⟨W, hW⟩ : ∃ W, W = ((w.alloc (Obj.cells #[Value.int IntKind.i64 0, Value.string ⟨#[]⟩, Value.int IntKind.i64 0] 23)).alloc (Obj.cells #[Value.int IntKind.i64 1, Value.string (t.extract 0 1), Value.int IntKind.i64 n] 23)) := ⟨_, rfl⟩
                have hX : Blk W w.heap.size 23 #[.int .i64 0, .string ⟨#[]⟩, .int .i64 0] := by rw [hW]; exact (Blk.new _ _ _).alloc _
                have hY : Blk W (w.heap.size + 1) 23 #[.int .i64 1, .string (t.extract 0 1), .int .i64 n] := by
                  rw [hW]
                  have := Blk.new (w.alloc (Obj.cells #[Value.int IntKind.i64 0, Value.string ⟨#[]⟩, Value.int IntKind.i64 0] 23)) 23 #[.int .i64 1, .string (t.extract 0 1), .int .i64 n]
                  simpa using this
                have hB : Below w.heap.size w W := by rw [hW]; exact ((Below.refl _ _).alloc (Nat.le_refl _) _).alloc (by simp) _
                rw [← hW]
                clear hW
                have y0 := (hY.cell 0).trans rfl
                have y1 := (hY.cell 1).trans rfl
                have y2 := (hY.cell 2).trans rfl
                have hyl := hY.lt
                have HX := Lib.hid hX
                have HB := Lib.hid hB
                clear hX hY hB
                refine wp_region_E (fun w9 => Below W.heap.size W w9) [(0, 1), (1, 0), (2, 0), (3, 1), (4, 2), (5, 0), (6, 2), (7, 0), (8, 0), (9, 2), (10, 0)] (by kernel_rfl) (by kernel_rfl) (fun KK hKK => ?_)
                simp only [beside, List.filterMap_cons, List.filterMap_nil, List.getElem?_toArray, List.getElem?_cons_zero, List.getElem?_cons_succ, Option.map_some]
                repeat (first | (refine wpX_w ?_ (Or.inl ⟨by rfl, fun w9 => ?_⟩) ?_; rotate_left 1; go_simp; with_reducible rfl; simp only [Act.put, List.setIfInBounds_toArray, List.set_cons_zero, List.set_cons_succ]) | (refine wpX_l ?_ (((Below.refl _ _).drew)) (Or.inl ⟨by rfl, fun w9 hw9 => ?_⟩) ?_; rotate_left 1; obtain ⟨hc9, hf9⟩ := bcell hw9; go_simp; with_reducible rfl; simp only [Act.put, List.setIfInBounds_toArray, List.set_cons_zero, List.set_cons_succ]) | (refine wpX_w undef (Or.inr ⟨by rfl, rfl⟩) ?_; simp only [Act.put, List.setIfInBounds_toArray, List.set_cons_zero, List.set_cons_succ]) | (refine wpX_l undef (((Below.refl _ _).drew)) (Or.inr ⟨by rfl, rfl⟩) ?_; simp only [Act.put, List.setIfInBounds_toArray, List.set_cons_zero, List.set_cons_succ]))
                refine wpX_es (fun K9 hK9 => ?_)
                go_simp
                refine (rvalid_is ⟨1, t.extract 0 1, n⟩ _).mono ?_
                rintro e w2 ⟨rfl, hb2⟩
                have HB2 := Lib.hid ((Below.refl W.heap.size W).drew.trans (hb2.mono (by simp)))
                clear hb2
                refine hK9 _ _ HB2.out ?_
                clear hK9 K9
                repeat (first | (refine wpX_w ?_ (Or.inl ⟨by rfl, fun w9 => ?_⟩) ?_; rotate_left 1; go_simp; with_reducible rfl; simp only [Act.put, List.setIfInBounds_toArray, List.set_cons_zero, List.set_cons_succ]) | (refine wpX_l ?_ (HB2.out) (Or.inl ⟨by rfl, fun w9 hw9 => ?_⟩) ?_; rotate_left 1; obtain ⟨hc9, hf9⟩ := bcell hw9; go_simp; with_reducible rfl; simp only [Act.put, List.setIfInBounds_toArray, List.set_cons_zero, List.set_cons_succ]) | (refine wpX_w undef (Or.inr ⟨by rfl, rfl⟩) ?_; simp only [Act.put, List.setIfInBounds_toArray, List.set_cons_zero, List.set_cons_succ]) | (refine wpX_l undef (HB2.out) (Or.inr ⟨by rfl, rfl⟩) ?_; simp only [Act.put, List.setIfInBounds_toArray, List.set_cons_zero, List.set_cons_succ]))
                refine wpX_e (by kernel_rfl) (fun K9 hK9 => ?_)
                go_simp
                refine (only_no _ _ _ _).mono ?_
                rintro e w3 ⟨rfl, hb3⟩
                have HB3 := Lib.hid (HB2.out.trans (hb3.mono (by have := HB2.out.size; first | omega | (simp; done) | (simp; omega))))
                have hX3 := HX.out.new_ HB3.out
                have u0 : w3.cell? ⟨w.heap.size, 0, none⟩ = some (.int .i64 0) := (hX3.cell 0).trans rfl
                have u1 : w3.cell? ⟨w.heap.size, 1, none⟩ = some (.string ⟨#[]⟩) := (hX3.cell 1).trans rfl
                have u2 : w3.cell? ⟨w.heap.size, 2, none⟩ = some (.int .i64 0) := (hX3.cell 2).trans rfl
                have f0 := hX3.frozen 0
                have f1 := hX3.frozen 1
                have f2 := hX3.frozen 2
                have hXl := hX3.lt
                clear hb3
                refine hK9 _ _ ?_
                clear hK9 K9
                repeat (first | (refine wpX_w ?_ (Or.inl ⟨by rfl, fun w9 => ?_⟩) ?_; rotate_left 1; go_simp; with_reducible rfl; simp only [Act.put, List.setIfInBounds_toArray, List.set_cons_zero, List.set_cons_succ]) | (refine wpX_l ?_ (HB2.out) (Or.inl ⟨by rfl, fun w9 hw9 => ?_⟩) ?_; rotate_left 1; obtain ⟨hc9, hf9⟩ := bcell hw9; go_simp; with_reducible rfl; simp only [Act.put, List.setIfInBounds_toArray, List.set_cons_zero, List.set_cons_succ]) | (refine wpX_w undef (Or.inr ⟨by rfl, rfl⟩) ?_; simp only [Act.put, List.setIfInBounds_toArray, List.set_cons_zero, List.set_cons_succ]) | (refine wpX_l undef (HB2.out) (Or.inr ⟨by rfl, rfl⟩) ?_; simp only [Act.put, List.setIfInBounds_toArray, List.set_cons_zero, List.set_cons_succ]))
                refine wpX_e (by kernel_rfl) (fun K9 hK9 => ?_)
                go_simp
                refine hK9 _ _ ?_
                clear hK9 K9
                repeat (first | (refine wpX_w ?_ (Or.inl ⟨by rfl, fun w9 => ?_⟩) ?_; rotate_left 1; go_simp; with_reducible rfl; simp only [Act.put, List.setIfInBounds_toArray, List.set_cons_zero, List.set_cons_succ]) | (refine wpX_l ?_ (HB2.out) (Or.inl ⟨by rfl, fun w9 hw9 => ?_⟩) ?_; rotate_left 1; obtain ⟨hc9, hf9⟩ := bcell hw9; go_simp; with_reducible rfl; simp only [Act.put, List.setIfInBounds_toArray, List.set_cons_zero, List.set_cons_succ]) | (refine wpX_w undef (Or.inr ⟨by rfl, rfl⟩) ?_; simp only [Act.put, List.setIfInBounds_toArray, List.set_cons_zero, List.set_cons_succ]) | (refine wpX_l undef (HB2.out) (Or.inr ⟨by rfl, rfl⟩) ?_; simp only [Act.put, List.setIfInBounds_toArray, List.set_cons_zero, List.set_cons_succ]))
                refine wpX_nil ?_
                simp only [OnlyN_normal]
                refine hKK _ _ ?_
                clear hKK KK
                go_wp2_with fail
                refine bodyPost_ret (v := .tuple #[.agg #[.int .i64 0, .string ⟨#[]⟩, .int .i64 0], .bool false]) (by simp [results, Try.results16, go_sem, u0, u1, u2]) rfl ⟨by rw [HP2.out] <;> rfl, ?_⟩
                exact ((((HB.out.trans (HB3.out.mono HB.out.size))).setCell (by simp) _).setCell (by simp) _).setCell (by simp) _
              · have HP2 : Hid (parseB t = some ⟨1, t.extract 0 1, n⟩) := Lib.hid (by rw [hPB, hvd]; simp)
                clear hPB hint
                go_enter Try.func16, Try.ntmps16
                go_wp2_with (go_at_call 18; refine (rword_is _ _).mono ?_; rintro e w' ⟨rfl, rfl⟩)
                refine (read_is (t.extract 1 t.size) (by rw [ext1_size]; omega) _).mono ?_
                rintro e w1 ⟨rfl, rfl⟩
                rw [HN.out]
                go_wp2_with fail
                obtain ⟨W, hW⟩ : ∃ W, W = ((w.alloc (Obj.cells #[Value.int IntKind.i64 0, Value.string ⟨#[]⟩, Value.int IntKind.i64 0] 23)).alloc (Obj.cells #[Value.int IntKind.i64 1, Value.string (t.extract 0 1), Value.int IntKind.i64 n] 23)) := ⟨_, rfl⟩
                have hX : Blk W w.heap.size 23 #[.int .i64 0, .string ⟨#[]⟩, .int .i64 0] := by rw [hW]; exact (Blk.new _ _ _).alloc _
                have hY : Blk W (w.heap.size + 1) 23 #[.int .i64 1, .string (t.extract 0 1), .int .i64 n] := by
                  rw [hW]
                  have := Blk.new (w.alloc (Obj.cells #[Value.int IntKind.i64 0, Value.string ⟨#[]⟩, Value.int IntKind.i64 0] 23)) 23 #[.int .i64 1, .string (t.extract 0 1), .int .i64 n]
                  simpa using this
                have hB : Below w.heap.size w W := by rw [hW]; exact ((Below.refl _ _).alloc (Nat.le_refl _) _).alloc (by simp) _
                rw [← hW]
                clear hW
                have y0 := (hY.cell 0).trans rfl
                have y1 := (hY.cell 1).trans rfl
                have y2 := (hY.cell 2).trans rfl
                have hyl := hY.lt
                have HX := Lib.hid hX
                have HB := Lib.hid hB
                clear hX hY hB
                refine wp_region_E (fun w9 => Below W.heap.size W w9) [(0, 1), (1, 0), (2, 0), (3, 1), (4, 2), (5, 0), (6, 2), (7, 0), (8, 0), (9, 2), (10, 0)] (by kernel_rfl) (by kernel_rfl) (fun KK hKK => ?_)
                simp only [beside, List.filterMap_cons, List.filterMap_nil, List.getElem?_toArray, List.getElem?_cons_zero, List.getElem?_cons_succ, Option.map_some]
                repeat (first | (refine wpX_w ?_ (Or.inl ⟨by rfl, fun w9 => ?_⟩) ?_; rotate_left 1; go_simp; with_reducible rfl; simp only [Act.put, List.setIfInBounds_toArray, List.set_cons_zero, List.set_cons_succ]) | (refine wpX_l ?_ (((Below.refl _ _).drew)) (Or.inl ⟨by rfl, fun w9 hw9 => ?_⟩) ?_; rotate_left 1; obtain ⟨hc9, hf9⟩ := bcell hw9; go_simp; with_reducible rfl; simp only [Act.put, List.setIfInBounds_toArray, List.set_cons_zero, List.set_cons_succ]) | (refine wpX_w undef (Or.inr ⟨by rfl, rfl⟩) ?_; simp only [Act.put, List.setIfInBounds_toArray, List.set_cons_zero, List.set_cons_succ]) | (refine wpX_l undef (((Below.refl _ _).drew)) (Or.inr ⟨by rfl, rfl⟩) ?_; simp only [Act.put, List.setIfInBounds_toArray, List.set_cons_zero, List.set_cons_succ]))
                refine wpX_es (fun K9 hK9 => ?_)
                go_simp
                refine (rvalid_is ⟨1, t.extract 0 1, n⟩ _).mono ?_
                rintro e w2 ⟨rfl, hb2⟩
                have HB2 := Lib.hid ((Below.refl W.heap.size W).drew.trans (hb2.mono (by simp)))
                clear hb2
                refine hK9 _ _ HB2.out ?_
                clear hK9 K9
                repeat (first | (refine wpX_w ?_ (Or.inl ⟨by rfl, fun w9 => ?_⟩) ?_; rotate_left 1; go_simp; with_reducible rfl; simp only [Act.put, List.setIfInBounds_toArray, List.set_cons_zero, List.set_cons_succ]) | (refine wpX_l ?_ (HB2.out) (Or.inl ⟨by rfl, fun w9 hw9 => ?_⟩) ?_; rotate_left 1; obtain ⟨hc9, hf9⟩ := bcell hw9; go_simp; with_reducible rfl; simp only [Act.put, List.setIfInBounds_toArray, List.set_cons_zero, List.set_cons_succ]) | (refine wpX_w undef (Or.inr ⟨by rfl, rfl⟩) ?_; simp only [Act.put, List.setIfInBounds_toArray, List.set_cons_zero, List.set_cons_succ]) | (refine wpX_l undef (HB2.out) (Or.inr ⟨by rfl, rfl⟩) ?_; simp only [Act.put, List.setIfInBounds_toArray, List.set_cons_zero, List.set_cons_succ]))
                refine wpX_e (by kernel_rfl) (fun K9 hK9 => ?_)
                go_simp
                refine (only_yes _ _ _ _).mono ?_
                rintro e w3 ⟨rfl, hb3⟩
                have HB3 := Lib.hid (HB2.out.trans (hb3.mono (by have := HB2.out.size; first | omega | (simp; done) | (simp; omega))))
                have hX3 := HX.out.new_ HB3.out
                have u0 : w3.cell? ⟨w.heap.size, 0, none⟩ = some (.int .i64 0) := (hX3.cell 0).trans rfl
                have u1 : w3.cell? ⟨w.heap.size, 1, none⟩ = some (.string ⟨#[]⟩) := (hX3.cell 1).trans rfl
                have u2 : w3.cell? ⟨w.heap.size, 2, none⟩ = some (.int .i64 0) := (hX3.cell 2).trans rfl
                have f0 := hX3.frozen 0
                have f1 := hX3.frozen 1
                have f2 := hX3.frozen 2
                have hXl := hX3.lt
                clear hb3
                refine hK9 _ _ ?_
                clear hK9 K9
                repeat (first | (refine wpX_w ?_ (Or.inl ⟨by rfl, fun w9 => ?_⟩) ?_; rotate_left 1; go_simp; with_reducible rfl; simp only [Act.put, List.setIfInBounds_toArray, List.set_cons_zero, List.set_cons_succ]) | (refine wpX_l ?_ (HB2.out) (Or.inl ⟨by rfl, fun w9 hw9 => ?_⟩) ?_; rotate_left 1; obtain ⟨hc9, hf9⟩ := bcell hw9; go_simp; with_reducible rfl; simp only [Act.put, List.setIfInBounds_toArray, List.set_cons_zero, List.set_cons_succ]) | (refine wpX_w undef (Or.inr ⟨by rfl, rfl⟩) ?_; simp only [Act.put, List.setIfInBounds_toArray, List.set_cons_zero, List.set_cons_succ]) | (refine wpX_l undef (HB2.out) (Or.inr ⟨by rfl, rfl⟩) ?_; simp only [Act.put, List.setIfInBounds_toArray, List.set_cons_zero, List.set_cons_succ]))
                refine wpX_e (by kernel_rfl) (fun K9 hK9 => ?_)
                go_simp
                refine hK9 _ _ ?_
                clear hK9 K9
                repeat (first | (refine wpX_w ?_ (Or.inl ⟨by rfl, fun w9 => ?_⟩) ?_; rotate_left 1; go_simp; with_reducible rfl; simp only [Act.put, List.setIfInBounds_toArray, List.set_cons_zero, List.set_cons_succ]) | (refine wpX_l ?_ (HB2.out) (Or.inl ⟨by rfl, fun w9 hw9 => ?_⟩) ?_; rotate_left 1; obtain ⟨hc9, hf9⟩ := bcell hw9; go_simp; with_reducible rfl; simp only [Act.put, List.setIfInBounds_toArray, List.set_cons_zero, List.set_cons_succ]) | (refine wpX_w undef (Or.inr ⟨by rfl, rfl⟩) ?_; simp only [Act.put, List.setIfInBounds_toArray, List.set_cons_zero, List.set_cons_succ]) | (refine wpX_l undef (HB2.out) (Or.inr ⟨by rfl, rfl⟩) ?_; simp only [Act.put, List.setIfInBounds_toArray, List.set_cons_zero, List.set_cons_succ]))
                refine wpX_nil ?_
                simp only [OnlyN_normal]
                refine hKK _ _ ?_
                clear hKK KK
                go_wp2_with fail
                refine bodyPost_ret (v := .tuple #[.agg #[.int .i64 1, .string (t.extract 0 1), .int .i64 n], .bool true]) (by simp [results, Try.results16, go_sem, u0, u1, u2]) rfl ⟨by rw [HP2.out] <;> rfl, ?_⟩
                exact ((((HB.out.trans (HB3.out.mono HB.out.size))).setCell (by simp) _).setCell (by simp) _).setCell (by simp) _
        · have g3 : decide ((t[0].toNat : Int) ≤ 90) = false := by simp; omega
          have hs := says_int hw (.inr ⟨h1, .inl (by simp [greatB]; omega)⟩)
          clear g65 g90
          obtain ⟨n, ok, hN, hPB⟩ := hs
          have HN := Lib.hid hN
          clear hN
          cases ok
          · have HP2 : Hid (parseB t = none) := Lib.hid (by rw [hPB]; simp)
            clear hPB hint
            go_enter Try.func16, Try.ntmps16
            go_wp2_with (go_at_call 18; refine (rword_is _ _).mono ?_; rintro e w' ⟨rfl, rfl⟩)
            refine (read_is t hts _).mono ?_
            rintro e w1 ⟨rfl, rfl⟩
            rw [HN.out]
            go_wp2_with fail
            obtain ⟨W, hW⟩ : ∃ W, W = ((w.alloc (Obj.cells #[Value.int IntKind.i64 0, Value.string ⟨#[]⟩, Value.int IntKind.i64 0] 23)).alloc (Obj.cells #[Value.int IntKind.i64 2, Value.string (⟨#[]⟩), Value.int IntKind.i64 n] 23)) := ⟨_, rfl⟩
            have hX : Blk W w.heap.size 23 #[.int .i64 0, .string ⟨#[]⟩, .int .i64 0] := by rw [hW]; exact (Blk.new _ _ _).alloc _
            have hY : Blk W (w.heap.size + 1) 23 #[.int .i64 2, .string (⟨#[]⟩), .int .i64 n] := by
              rw [hW]
              have := Blk.new (w.alloc (Obj.cells #[Value.int IntKind.i64 0, Value.string ⟨#[]⟩, Value.int IntKind.i64 0] 23)) 23 #[.int .i64 2, .string (⟨#[]⟩), .int .i64 n]
              simpa using this
            have hB : Below w.heap.size w W := by rw [hW]; exact ((Below.refl _ _).alloc (Nat.le_refl _) _).alloc (by simp) _
            rw [← hW]
            clear hW
            have y0 := (hY.cell 0).trans rfl
            have y1 := (hY.cell 1).trans rfl
            have y2 := (hY.cell 2).trans rfl
            have hyl := hY.lt
            have HX := Lib.hid hX
            have HB := Lib.hid hB
            clear hX hY hB
            refine wp_region_E (fun w9 => Below W.heap.size W w9) [(0, 1), (1, 0), (2, 0), (3, 1), (4, 2), (5, 0), (6, 2), (7, 0), (8, 0), (9, 2), (10, 0)] (by kernel_rfl) (by kernel_rfl) (fun KK hKK => ?_)
            simp only [beside, List.filterMap_cons, List.filterMap_nil, List.getElem?_toArray, List.getElem?_cons_zero, List.getElem?_cons_succ, Option.map_some]
            repeat (first | (refine wpX_w ?_ (Or.inl ⟨by rfl, fun w9 => ?_⟩) ?_; rotate_left 1; go_simp; with_reducible rfl; simp only [Act.put, List.setIfInBounds_toArray, List.set_cons_zero, List.set_cons_succ]) | (refine wpX_l ?_ (((Below.refl _ _).drew)) (Or.inl ⟨by rfl, fun w9 hw9 => ?_⟩) ?_; rotate_left 1; obtain ⟨hc9, hf9⟩ := bcell hw9; go_simp; with_reducible rfl; simp only [Act.put, List.setIfInBounds_toArray, List.set_cons_zero, List.set_cons_succ]) | (refine wpX_w undef (Or.inr ⟨by rfl, rfl⟩) ?_; simp only [Act.put, List.setIfInBounds_toArray, List.set_cons_zero, List.set_cons_succ]) | (refine wpX_l undef (((Below.refl _ _).drew)) (Or.inr ⟨by rfl, rfl⟩) ?_; simp only [Act.put, List.setIfInBounds_toArray, List.set_cons_zero, List.set_cons_succ]))
            refine wpX_es (fun K9 hK9 => ?_)
            go_simp
            have HB2 := Lib.hid ((Below.refl W.heap.size W).drew)
            refine hK9 _ _ HB2.out ?_
            clear hK9 K9
            repeat (first | (refine wpX_w ?_ (Or.inl ⟨by rfl, fun w9 => ?_⟩) ?_; rotate_left 1; go_simp; with_reducible rfl; simp only [Act.put, List.setIfInBounds_toArray, List.set_cons_zero, List.set_cons_succ]) | (refine wpX_l ?_ (HB2.out) (Or.inl ⟨by rfl, fun w9 hw9 => ?_⟩) ?_; rotate_left 1; obtain ⟨hc9, hf9⟩ := bcell hw9; go_simp; with_reducible rfl; simp only [Act.put, List.setIfInBounds_toArray, List.set_cons_zero, List.set_cons_succ]) | (refine wpX_w undef (Or.inr ⟨by rfl, rfl⟩) ?_; simp only [Act.put, List.setIfInBounds_toArray, List.set_cons_zero, List.set_cons_succ]) | (refine wpX_l undef (HB2.out) (Or.inr ⟨by rfl, rfl⟩) ?_; simp only [Act.put, List.setIfInBounds_toArray, List.set_cons_zero, List.set_cons_succ]))
            refine wpX_e (by kernel_rfl) (fun K9 hK9 => ?_)
            go_simp
            refine (only_no _ _ _ _).mono ?_
            rintro e w3 ⟨rfl, hb3⟩
            have HB3 := Lib.hid (HB2.out.trans (hb3.mono (by have := HB2.out.size; first | omega | (simp; done) | (simp; omega))))
            have hX3 := HX.out.new_ HB3.out
            have u0 : w3.cell? ⟨w.heap.size, 0, none⟩ = some (.int .i64 0) := (hX3.cell 0).trans rfl
            have u1 : w3.cell? ⟨w.heap.size, 1, none⟩ = some (.string ⟨#[]⟩) := (hX3.cell 1).trans rfl
            have u2 : w3.cell? ⟨w.heap.size, 2, none⟩ = some (.int .i64 0) := (hX3.cell 2).trans rfl
            have f0 := hX3.frozen 0
            have f1 := hX3.frozen 1
            have f2 := hX3.frozen 2
            have hXl := hX3.lt
            clear hb3
            refine hK9 _ _ ?_
            clear hK9 K9
            repeat (first | (refine wpX_w ?_ (Or.inl ⟨by rfl, fun w9 => ?_⟩) ?_; rotate_left 1; go_simp; with_reducible rfl; simp only [Act.put, List.setIfInBounds_toArray, List.set_cons_zero, List.set_cons_succ]) | (refine wpX_l ?_ (HB2.out) (Or.inl ⟨by rfl, fun w9 hw9 => ?_⟩) ?_; rotate_left 1; obtain ⟨hc9, hf9⟩ := bcell hw9; go_simp; with_reducible rfl; simp only [Act.put, List.setIfInBounds_toArray, List.set_cons_zero, List.set_cons_succ]) | (refine wpX_w undef (Or.inr ⟨by rfl, rfl⟩) ?_; simp only [Act.put, List.setIfInBounds_toArray, List.set_cons_zero, List.set_cons_succ]) | (refine wpX_l undef (HB2.out) (Or.inr ⟨by rfl, rfl⟩) ?_; simp only [Act.put, List.setIfInBounds_toArray, List.set_cons_zero, List.set_cons_succ]))
            refine wpX_e (by kernel_rfl) (fun K9 hK9 => ?_)
            go_simp
            refine hK9 _ _ ?_
            clear hK9 K9
            repeat (first | (refine wpX_w ?_ (Or.inl ⟨by rfl, fun w9 => ?_⟩) ?_; rotate_left 1; go_simp; with_reducible rfl; simp only [Act.put, List.setIfInBounds_toArray, List.set_cons_zero, List.set_cons_succ]) | (refine wpX_l ?_ (HB2.out) (Or.inl ⟨by rfl, fun w9 hw9 => ?_⟩) ?_; rotate_left 1; obtain ⟨hc9, hf9⟩ := bcell hw9; go_simp; with_reducible rfl; simp only [Act.put, List.setIfInBounds_toArray, List.set_cons_zero, List.set_cons_succ]) | (refine wpX_w undef (Or.inr ⟨by rfl, rfl⟩) ?_; simp only [Act.put, List.setIfInBounds_toArray, List.set_cons_zero, List.set_cons_succ]) | (refine wpX_l undef (HB2.out) (Or.inr ⟨by rfl, rfl⟩) ?_; simp only [Act.put, List.setIfInBounds_toArray, List.set_cons_zero, List.set_cons_succ]))
            refine wpX_nil ?_
            simp only [OnlyN_normal]
            refine hKK _ _ ?_
            clear hKK KK
            go_wp2_with fail
            refine bodyPost_ret (v := .tuple #[.agg #[.int .i64 0, .string ⟨#[]⟩, .int .i64 0], .bool false]) (by simp [results, Try.results16, go_sem, u0, u1, u2]) rfl ⟨by rw [HP2.out] <;> rfl, ?_⟩
            exact ((((HB.out.trans (HB3.out.mono HB.out.size))).setCell (by simp) _).setCell (by simp) _).setCell (by simp) _
          · cases hvd : validB ⟨2, ⟨#[]⟩, n⟩
            · have HP2 : Hid (parseB t = none) := Lib.hid (by rw [hPB, hvd]; simp)
              clear hPB hint
              go_enter Try.func16, Try.ntmps16
              go_wp2_with (go_at_call 18; refine (rword_is _ _).mono ?_; rintro e w' ⟨rfl, rfl⟩)
              refine (read_is t hts _).mono ?_
              rintro e w1 ⟨rfl, rfl⟩
              rw [HN.out]
              go_wp2_with fail
              obtain ⟨W, hW⟩ : ∃ W, W = ((w.alloc (Obj.cells #[Value.int IntKind.i64 0, Value.string ⟨#[]⟩, Value.int IntKind.i64 0] 23)).alloc (Obj.cells #[Value.int IntKind.i64 2, Value.string (⟨#[]⟩), Value.int IntKind.i64 n] 23)) := ⟨_, rfl⟩
              have hX : Blk W w.heap.size 23 #[.int .i64 0, .string ⟨#[]⟩, .int .i64 0] := by rw [hW]; exact (Blk.new _ _ _).alloc _
              have hY : Blk W (w.heap.size + 1) 23 #[.int .i64 2, .string (⟨#[]⟩), .int .i64 n] := by
                rw [hW]
                have := Blk.new (w.alloc (Obj.cells #[Value.int IntKind.i64 0, Value.string ⟨#[]⟩, Value.int IntKind.i64 0] 23)) 23 #[.int .i64 2, .string (⟨#[]⟩), .int .i64 n]
                simpa using this
              have hB : Below w.heap.size w W := by rw [hW]; exact ((Below.refl _ _).alloc (Nat.le_refl _) _).alloc (by simp) _
              rw [← hW]
              clear hW
              have y0 := (hY.cell 0).trans rfl
              have y1 := (hY.cell 1).trans rfl
              have y2 := (hY.cell 2).trans rfl
              have hyl := hY.lt
              have HX := Lib.hid hX
              have HB := Lib.hid hB
              clear hX hY hB
              refine wp_region_E (fun w9 => Below W.heap.size W w9) [(0, 1), (1, 0), (2, 0), (3, 1), (4, 2), (5, 0), (6, 2), (7, 0), (8, 0), (9, 2), (10, 0)] (by kernel_rfl) (by kernel_rfl) (fun KK hKK => ?_)
              simp only [beside, List.filterMap_cons, List.filterMap_nil, List.getElem?_toArray, List.getElem?_cons_zero, List.getElem?_cons_succ, Option.map_some]
              repeat (first | (refine wpX_w ?_ (Or.inl ⟨by rfl, fun w9 => ?_⟩) ?_; rotate_left 1; go_simp; with_reducible rfl; simp only [Act.put, List.setIfInBounds_toArray, List.set_cons_zero, List.set_cons_succ]) | (refine wpX_l ?_ (((Below.refl _ _).drew)) (Or.inl ⟨by rfl, fun w9 hw9 => ?_⟩) ?_; rotate_left 1; obtain ⟨hc9, hf9⟩ := bcell hw9; go_simp; with_reducible rfl; simp only [Act.put, List.setIfInBounds_toArray, List.set_cons_zero, List.set_cons_succ]) | (refine wpX_w undef (Or.inr ⟨by rfl, rfl⟩) ?_; simp only [Act.put, List.setIfInBounds_toArray, List.set_cons_zero, List.set_cons_succ]) | (refine wpX_l undef (((Below.refl _ _).drew)) (Or.inr ⟨by rfl, rfl⟩) ?_; simp only [Act.put, List.setIfInBounds_toArray, List.set_cons_zero, List.set_cons_succ]))
              refine wpX_es (fun K9 hK9 => ?_)
              go_simp
              refine (rvalid_is ⟨2, ⟨#[]⟩, n⟩ _).mono ?_
              rintro e w2 ⟨rfl, hb2⟩
              have HB2 := Lib.hid ((Below.refl W.heap.size W).drew.trans (hb2.mono (by simp)))
              clear hb2
              refine hK9 _ _ HB2.out ?_
              clear hK9 K9
              repeat (first | (refine wpX_w ?_ (Or.inl ⟨by rfl, fun w9 => ?_⟩) ?_; rotate_left 1; go_simp; with_reducible rfl; simp only [Act.put, List.setIfInBounds_toArray, List.set_cons_zero, List.set_cons_succ]) | (refine wpX_l ?_ (HB2.out) (Or.inl ⟨by rfl, fun w9 hw9 => ?_⟩) ?_; rotate_left 1; obtain ⟨hc9, hf9⟩ := bcell hw9; go_simp; with_reducible rfl; simp only [Act.put, List.setIfInBounds_toArray, List.set_cons_zero, List.set_cons_succ]) | (refine wpX_w undef (Or.inr ⟨by rfl, rfl⟩) ?_; simp only [Act.put, List.setIfInBounds_toArray, List.set_cons_zero, List.set_cons_succ]) | (refine wpX_l undef (HB2.out) (Or.inr ⟨by rfl, rfl⟩) ?_; simp only [Act.put, List.setIfInBounds_toArray, List.set_cons_zero, List.set_cons_succ]))
              refine wpX_e (by kernel_rfl) (fun K9 hK9 => ?_)
              go_simp
              refine (only_no _ _ _ _).mono ?_
              rintro e w3 ⟨rfl, hb3⟩
              have HB3 := Lib.hid (HB2.out.trans (hb3.mono (by have := HB2.out.size; first | omega | (simp; done) | (simp; omega))))
              have hX3 := HX.out.new_ HB3.out
              have u0 : w3.cell? ⟨w.heap.size, 0, none⟩ = some (.int .i64 0) := (hX3.cell 0).trans rfl
              have u1 : w3.cell? ⟨w.heap.size, 1, none⟩ = some (.string ⟨#[]⟩) := (hX3.cell 1).trans rfl
              have u2 : w3.cell? ⟨w.heap.size, 2, none⟩ = some (.int .i64 0) := (hX3.cell 2).trans rfl
              have f0 := hX3.frozen 0
              have f1 := hX3.frozen 1
              have f2 := hX3.frozen 2
              have hXl := hX3.lt
              clear hb3
              refine hK9 _ _ ?_
              clear hK9 K9
              repeat (first | (refine wpX_w ?_ (Or.inl ⟨by rfl, fun w9 => ?_⟩) ?_; rotate_left 1; go_simp; with_reducible rfl; simp only [Act.put, List.setIfInBounds_toArray, List.set_cons_zero, List.set_cons_succ]) | (refine wpX_l ?_ (HB2.out) (Or.inl ⟨by rfl, fun w9 hw9 => ?_⟩) ?_; rotate_left 1; obtain ⟨hc9, hf9⟩ := bcell hw9; go_simp; with_reducible rfl; simp only [Act.put, List.setIfInBounds_toArray, List.set_cons_zero, List.set_cons_succ]) | (refine wpX_w undef (Or.inr ⟨by rfl, rfl⟩) ?_; simp only [Act.put, List.setIfInBounds_toArray, List.set_cons_zero, List.set_cons_succ]) | (refine wpX_l undef (HB2.out) (Or.inr ⟨by rfl, rfl⟩) ?_; simp only [Act.put, List.setIfInBounds_toArray, List.set_cons_zero, List.set_cons_succ]))
              refine wpX_e (by kernel_rfl) (fun K9 hK9 => ?_)
              go_simp
              refine hK9 _ _ ?_
              clear hK9 K9
              repeat (first | (refine wpX_w ?_ (Or.inl ⟨by rfl, fun w9 => ?_⟩) ?_; rotate_left 1; go_simp; with_reducible rfl; simp only [Act.put, List.setIfInBounds_toArray, List.set_cons_zero, List.set_cons_succ]) | (refine wpX_l ?_ (HB2.out) (Or.inl ⟨by rfl, fun w9 hw9 => ?_⟩) ?_; rotate_left 1; obtain ⟨hc9, hf9⟩ := bcell hw9; go_simp; with_reducible rfl; simp only [Act.put, List.setIfInBounds_toArray, List.set_cons_zero, List.set_cons_succ]) | (refine wpX_w undef (Or.inr ⟨by rfl, rfl⟩) ?_; simp only [Act.put, List.setIfInBounds_toArray, List.set_cons_zero, List.set_cons_succ]) | (refine wpX_l undef (HB2.out) (Or.inr ⟨by rfl, rfl⟩) ?_; simp only [Act.put, List.setIfInBounds_toArray, List.set_cons_zero, List.set_cons_succ]))
              refine wpX_nil ?_
              simp only [OnlyN_normal]
              refine hKK _ _ ?_
              clear hKK KK
              go_wp2_with fail
              refine bodyPost_ret (v := .tuple #[.agg #[.int .i64 0, .string ⟨#[]⟩, .int .i64 0], .bool false]) (by simp [results, Try.results16, go_sem, u0, u1, u2]) rfl ⟨by rw [HP2.out] <;> rfl, ?_⟩
              exact ((((HB.out.trans (HB3.out.mono HB.out.size))).setCell (by simp) _).setCell (by simp) _).setCell (by simp) _
            · have HP2 : Hid (parseB t = some ⟨2, ⟨#[]⟩, n⟩) := Lib.hid (by rw [hPB, hvd]; simp)
              clear hPB hint
              go_enter Try.func16, Try.ntmps16
              go_wp2_with (go_at_call 18; refine (rword_is _ _).mono ?_; rintro e w' ⟨rfl, rfl⟩)
              refine (read_is t hts _).mono ?_
              rintro e w1 ⟨rfl, rfl⟩
              rw [HN.out]
              go_wp2_with fail
              obtain ⟨W, hW⟩ : ∃ W, W = ((w.alloc (Obj.cells #[Value.int IntKind.i64 0, Value.string ⟨#[]⟩, Value.int IntKind.i64 0] 23)).alloc (Obj.cells #[Value.int IntKind.i64 2, Value.string (⟨#[]⟩), Value.int IntKind.i64 n] 23)) := ⟨_, rfl⟩
              have hX : Blk W w.heap.size 23 #[.int .i64 0, .string ⟨#[]⟩, .int .i64 0] := by rw [hW]; exact (Blk.new _ _ _).alloc _
              have hY : Blk W (w.heap.size + 1) 23 #[.int .i64 2, .string (⟨#[]⟩), .int .i64 n] := by
                rw [hW]
                have := Blk.new (w.alloc (Obj.cells #[Value.int IntKind.i64 0, Value.string ⟨#[]⟩, Value.int IntKind.i64 0] 23)) 23 #[.int .i64 2, .string (⟨#[]⟩), .int .i64 n]
                simpa using this
              have hB : Below w.heap.size w W := by rw [hW]; exact ((Below.refl _ _).alloc (Nat.le_refl _) _).alloc (by simp) _
              rw [← hW]
              clear hW
              have y0 := (hY.cell 0).trans rfl
              have y1 := (hY.cell 1).trans rfl
              have y2 := (hY.cell 2).trans rfl
              have hyl := hY.lt
              have HX := Lib.hid hX
              have HB := Lib.hid hB
              clear hX hY hB
              refine wp_region_E (fun w9 => Below W.heap.size W w9) [(0, 1), (1, 0), (2, 0), (3, 1), (4, 2), (5, 0), (6, 2), (7, 0), (8, 0), (9, 2), (10, 0)] (by kernel_rfl) (by kernel_rfl) (fun KK hKK => ?_)
              simp only [beside, List.filterMap_cons, List.filterMap_nil, List.getElem?_toArray, List.getElem?_cons_zero, List.getElem?_cons_succ, Option.map_some]
              repeat (first | (refine wpX_w ?_ (Or.inl ⟨by rfl, fun w9 => ?_⟩) ?_; rotate_left 1; go_simp; with_reducible rfl; simp only [Act.put, List.setIfInBounds_toArray, List.set_cons_zero, List.set_cons_succ]) | (refine wpX_l ?_ (((Below.refl _ _).drew)) (Or.inl ⟨by rfl, fun w9 hw9 => ?_⟩) ?_; rotate_left 1; obtain ⟨hc9, hf9⟩ := bcell hw9; go_simp; with_reducible rfl; simp only [Act.put, List.setIfInBounds_toArray, List.set_cons_zero, List.set_cons_succ]) | (refine wpX_w undef (Or.inr ⟨by rfl, rfl⟩) ?_; simp only [Act.put, List.setIfInBounds_toArray, List.set_cons_zero, List.set_cons_succ]) | (refine wpX_l undef (((Below.refl _ _).drew)) (Or.inr ⟨by rfl, rfl⟩) ?_; simp only [Act.put, List.setIfInBounds_toArray, List.set_cons_zero, List.set_cons_succ]))
              refine wpX_es (fun K9 hK9 => ?_)
              go_simp
              refine (rvalid_is ⟨2, ⟨#[]⟩, n⟩ _).mono ?_
              rintro e w2 ⟨rfl, hb2⟩
              have HB2 := Lib.hid ((Below.refl W.heap.size W).drew.trans (hb2.mono (by simp)))
              clear hb2
              refine hK9 _ _ HB2.out ?_
              clear hK9 K9
              repeat (first | (refine wpX_w ?_ (Or.inl ⟨by rfl, fun w9 => ?_⟩) ?_; rotate_left 1; go_simp; with_reducible rfl; simp only [Act.put, List.setIfInBounds_toArray, List.set_cons_zero, List.set_cons_succ]) | (refine wpX_l ?_ (HB2.out) (Or.inl ⟨by rfl, fun w9 hw9 => ?_⟩) ?_; rotate_left 1; obtain ⟨hc9, hf9⟩ := bcell hw9; go_simp; with_reducible rfl; simp only [Act.put, List.setIfInBounds_toArray, List.set_cons_zero, List.set_cons_succ]) | (refine wpX_w undef (Or.inr ⟨by rfl, rfl⟩) ?_; simp only [Act.put, List.setIfInBounds_toArray, List.set_cons_zero, List.set_cons_succ]) | (refine wpX_l undef (HB2.out) (Or.inr ⟨by rfl, rfl⟩) ?_; simp only [Act.put, List.setIfInBounds_toArray, List.set_cons_zero, List.set_cons_succ]))
              refine wpX_e (by kernel_rfl) (fun K9 hK9 => ?_)
              go_simp
              refine (only_yes _ _ _ _).mono ?_
              rintro e w3 ⟨rfl, hb3⟩
              have HB3 := Lib.hid (HB2.out.trans (hb3.mono (by have := HB2.out.size; first | omega | (simp; done) | (simp; omega))))
              have hX3 := HX.out.new_ HB3.out
              have u0 : w3.cell? ⟨w.heap.size, 0, none⟩ = some (.int .i64 0) := (hX3.cell 0).trans rfl
              have u1 : w3.cell? ⟨w.heap.size, 1, none⟩ = some (.string ⟨#[]⟩) := (hX3.cell 1).trans rfl
              have u2 : w3.cell? ⟨w.heap.size, 2, none⟩ = some (.int .i64 0) := (hX3.cell 2).trans rfl
              have f0 := hX3.frozen 0
              have f1 := hX3.frozen 1
              have f2 := hX3.frozen 2
              have hXl := hX3.lt
              clear hb3
              refine hK9 _ _ ?_
              clear hK9 K9
              repeat (first | (refine wpX_w ?_ (Or.inl ⟨by rfl, fun w9 => ?_⟩) ?_; rotate_left 1; go_simp; with_reducible rfl; simp only [Act.put, List.setIfInBounds_toArray, List.set_cons_zero, List.set_cons_succ]) | (refine wpX_l ?_ (HB2.out) (Or.inl ⟨by rfl, fun w9 hw9 => ?_⟩) ?_; rotate_left 1; obtain ⟨hc9, hf9⟩ := bcell hw9; go_simp; with_reducible rfl; simp only [Act.put, List.setIfInBounds_toArray, List.set_cons_zero, List.set_cons_succ]) | (refine wpX_w undef (Or.inr ⟨by rfl, rfl⟩) ?_; simp only [Act.put, List.setIfInBounds_toArray, List.set_cons_zero, List.set_cons_succ]) | (refine wpX_l undef (HB2.out) (Or.inr ⟨by rfl, rfl⟩) ?_; simp only [Act.put, List.setIfInBounds_toArray, List.set_cons_zero, List.set_cons_succ]))
              refine wpX_e (by kernel_rfl) (fun K9 hK9 => ?_)
              go_simp
              refine hK9 _ _ ?_
              clear hK9 K9
              repeat (first | (refine wpX_w ?_ (Or.inl ⟨by rfl, fun w9 => ?_⟩) ?_; rotate_left 1; go_simp; with_reducible rfl; simp only [Act.put, List.setIfInBounds_toArray, List.set_cons_zero, List.set_cons_succ]) | (refine wpX_l ?_ (HB2.out) (Or.inl ⟨by rfl, fun w9 hw9 => ?_⟩) ?_; rotate_left 1; obtain ⟨hc9, hf9⟩ := bcell hw9; go_simp; with_reducible rfl; simp only [Act.put, List.setIfInBounds_toArray, List.set_cons_zero, List.set_cons_succ]) | (refine wpX_w undef (Or.inr ⟨by rfl, rfl⟩) ?_; simp only [Act.put, List.setIfInBounds_toArray, List.set_cons_zero, List.set_cons_succ]) | (refine wpX_l undef (HB2.out) (Or.inr ⟨by rfl, rfl⟩) ?_; simp only [Act.put, List.setIfInBounds_toArray, List.set_cons_zero, List.set_cons_succ]))
              refine wpX_nil ?_
              simp only [OnlyN_normal]
              refine hKK _ _ ?_
              clear hKK KK
              go_wp2_with fail
              refine bodyPost_ret (v := .tuple #[.agg #[.int .i64 2, .string ⟨#[]⟩, .int .i64 n], .bool true]) (by simp [results, Try.results16, go_sem, u0, u1, u2]) rfl ⟨by rw [HP2.out] <;> rfl, ?_⟩
              exact ((((HB.out.trans (HB3.out.mono HB.out.size))).setCell (by simp) _).setCell (by simp) _).setCell (by simp) _
      · have g2 : decide ((65 : Int) ≤ (t[0].toNat : Int)) = false := by simp; omega
        have hs := says_int hw (.inr ⟨h1, .inl (by simp [greatB]; omega)⟩)
        clear g65
        obtain ⟨n, ok, hN, hPB⟩ := hs
        have HN := Lib.hid hN
        clear hN
        cases ok
        · have HP2 : Hid (parseB t = none) := Lib.hid (by rw [hPB]; simp)
          clear hPB hint
          go_enter Try.func16, Try.ntmps16
          go_wp2_with (go_at_call 18; refine (rword_is _ _).mono ?_; rintro e w' ⟨rfl, rfl⟩)
          refine (read_is t hts _).mono ?_
          rintro e w1 ⟨rfl, rfl⟩
          rw [HN.out]
          go_wp2_with fail
          obtain ⟨W, hW⟩ : ∃ W, W = ((w.alloc (Obj.cells #[Value.int IntKind.i64 0, Value.string ⟨#[]⟩, Value.int IntKind.i64 0] 23)).alloc (Obj.cells #[Value.int IntKind.i64 2, Value.string (⟨#[]⟩), Value.int IntKind.i64 n] 23)) := ⟨_, rfl⟩
          have hX : Blk W w.heap.size 23 #[.int .i64 0, .string ⟨#[]⟩, .int .i64 0] := by rw [hW]; exact (Blk.new _ _ _).alloc _
          have hY : Blk W (w.heap.size + 1) 23 #[.int .i64 2, .string (⟨#[]⟩), .int .i64 n] := by
            rw [hW]
            have := Blk.new (w.alloc (Obj.cells #[Value.int IntKind.i64 0, Value.string ⟨#[]⟩, Value.int IntKind.i64 0] 23)) 23 #[.int .i64 2, .string (⟨#[]⟩), .int .i64 n]
            simpa using this
          have hB : Below w.heap.size w W := by rw [hW]; exact ((Below.refl _ _).alloc (Nat.le_refl _) _).alloc (by simp) _
          rw [← hW]
          clear hW
          have y0 := (hY.cell 0).trans rfl
          have y1 := (hY.cell 1).trans rfl
          have y2 := (hY.cell 2).trans rfl
          have hyl := hY.lt
          have HX := Lib.hid hX
          have HB := Lib.hid hB
          clear hX hY hB
          refine wp_region_E (fun w9 => Below W.heap.size W w9) [(0, 1), (1, 0), (2, 0), (3, 1), (4, 2), (5, 0), (6, 2), (7, 0), (8, 0), (9, 2), (10, 0)] (by kernel_rfl) (by kernel_rfl) (fun KK hKK => ?_)
          simp only [beside, List.filterMap_cons, List.filterMap_nil, List.getElem?_toArray, List.getElem?_cons_zero, List.getElem?_cons_succ, Option.map_some]
          repeat (first | (refine wpX_w ?_ (Or.inl ⟨by rfl, fun w9 => ?_⟩) ?_; rotate_left 1; go_simp; with_reducible rfl; simp only [Act.put, List.setIfInBounds_toArray, List.set_cons_zero, List.set_cons_succ]) | (refine wpX_l ?_ (((Below.refl _ _).drew)) (Or.inl ⟨by rfl, fun w9 hw9 => ?_⟩) ?_; rotate_left 1; obtain ⟨hc9, hf9⟩ := bcell hw9; go_simp; with_reducible rfl; simp only [Act.put, List.setIfInBounds_toArray, List.set_cons_zero, List.set_cons_succ]) | (refine wpX_w undef (Or.inr ⟨by rfl, rfl⟩) ?_; simp only [Act.put, List.setIfInBounds_toArray, List.set_cons_zero, List.set_cons_succ]) | (refine wpX_l undef (((Below.refl _ _).drew)) (Or.inr ⟨by rfl, rfl⟩) ?_; simp only [Act.put, List.setIfInBounds_toArray, List.set_cons_zero, List.set_cons_succ]))
          refine wpX_es (fun K9 hK9 => ?_)
          go_simp
          have HB2 := Lib.hid ((Below.refl W.heap.size W).drew)
          refine hK9 _ _ HB2.out ?_
          clear hK9 K9
          repeat (first | (refine wpX_w ?_ (Or.inl ⟨by rfl, fun w9 => ?_⟩) ?_; rotate_left 1; go_simp; with_reducible rfl; simp only [Act.put, List.setIfInBounds_toArray, List.set_cons_zero, List.set_cons_succ]) | (refine wpX_l ?_ (HB2.out) (Or.inl ⟨by rfl, fun w9 hw9 => ?_⟩) ?_; rotate_left 1; obtain ⟨hc9, hf9⟩ := bcell hw9; go_simp; with_reducible rfl; simp only [Act.put, List.setIfInBounds_toArray, List.set_cons_zero, List.set_cons_succ]) | (refine wpX_w undef (Or.inr ⟨by rfl, rfl⟩) ?_; simp only [Act.put, List.setIfInBounds_toArray, List.set_cons_zero, List.set_cons_succ]) | (refine wpX_l undef (HB2.out) (Or.inr ⟨by rfl, rfl⟩) ?_; simp only [Act.put, List.setIfInBounds_toArray, List.set_cons_zero, List.set_cons_succ]))
          refine wpX_e (by kernel_rfl) (fun K9 hK9 => ?_)
          go_simp
          refine (only_no _ _ _ _).mono ?_
          rintro e w3 ⟨rfl, hb3⟩
          have HB3 := Lib.hid (HB2.out.trans (hb3.mono (by have := HB2.out.size; first | omega | (simp; done) | (simp; omega))))
          have hX3 := HX.out.new_ HB3.out
          have u0 : w3.cell? ⟨w.heap.size, 0, none⟩ = some (.int .i64 0) := (hX3.cell 0).trans rfl
          have u1 : w3.cell? ⟨w.heap.size, 1, none⟩ = some (.string ⟨#[]⟩) := (hX3.cell 1).trans rfl
          have u2 : w3.cell? ⟨w.heap.size, 2, none⟩ = some (.int .i64 0) := (hX3.cell 2).trans rfl
          have f0 := hX3.frozen 0
          have f1 := hX3.frozen 1
          have f2 := hX3.frozen 2
          have hXl := hX3.lt
          clear hb3
          refine hK9 _ _ ?_
          clear hK9 K9
          repeat (first | (refine wpX_w ?_ (Or.inl ⟨by rfl, fun w9 => ?_⟩) ?_; rotate_left 1; go_simp; with_reducible rfl; simp only [Act.put, List.setIfInBounds_toArray, List.set_cons_zero, List.set_cons_succ]) | (refine wpX_l ?_ (HB2.out) (Or.inl ⟨by rfl, fun w9 hw9 => ?_⟩) ?_; rotate_left 1; obtain ⟨hc9, hf9⟩ := bcell hw9; go_simp; with_reducible rfl; simp only [Act.put, List.setIfInBounds_toArray, List.set_cons_zero, List.set_cons_succ]) | (refine wpX_w undef (Or.inr ⟨by rfl, rfl⟩) ?_; simp only [Act.put, List.setIfInBounds_toArray, List.set_cons_zero, List.set_cons_succ]) | (refine wpX_l undef (HB2.out) (Or.inr ⟨by rfl, rfl⟩) ?_; simp only [Act.put, List.setIfInBounds_toArray, List.set_cons_zero, List.set_cons_succ]))
          refine wpX_e (by kernel_rfl) (fun K9 hK9 => ?_)
          go_simp
          refine hK9 _ _ ?_
          clear hK9 K9
          repeat (first | (refine wpX_w ?_ (Or.inl ⟨by rfl, fun w9 => ?_⟩) ?_; rotate_left 1; go_simp; with_reducible rfl; simp only [Act.put, List.setIfInBounds_toArray, List.set_cons_zero, List.set_cons_succ]) | (refine wpX_l ?_ (HB2.out) (Or.inl ⟨by rfl, fun w9 hw9 => ?_⟩) ?_; rotate_left 1; obtain ⟨hc9, hf9⟩ := bcell hw9; go_simp; with_reducible rfl; simp only [Act.put, List.setIfInBounds_toArray, List.set_cons_zero, List.set_cons_succ]) | (refine wpX_w undef (Or.inr ⟨by rfl, rfl⟩) ?_; simp only [Act.put, List.setIfInBounds_toArray, List.set_cons_zero, List.set_cons_succ]) | (refine wpX_l undef (HB2.out) (Or.inr ⟨by rfl, rfl⟩) ?_; simp only [Act.put, List.setIfInBounds_toArray, List.set_cons_zero, List.set_cons_succ]))
          refine wpX_nil ?_
          simp only [OnlyN_normal]
          refine hKK _ _ ?_
          clear hKK KK
          go_wp2_with fail
          refine bodyPost_ret (v := .tuple #[.agg #[.int .i64 0, .string ⟨#[]⟩, .int .i64 0], .bool false]) (by simp [results, Try.results16, go_sem, u0, u1, u2]) rfl ⟨by rw [HP2.out] <;> rfl, ?_⟩
          exact ((((HB.out.trans (HB3.out.mono HB.out.size))).setCell (by simp) _).setCell (by simp) _).setCell (by simp) _
        · cases hvd : validB ⟨2, ⟨#[]⟩, n⟩
          · have HP2 : Hid (parseB t = none) := Lib.hid (by rw [hPB, hvd]; simp)
            clear hPB hint
            go_enter Try.func16, Try.ntmps16
            go_wp2_with (go_at_call 18; refine (rword_is _ _).mono ?_; rintro e w' ⟨rfl, rfl⟩)
            refine (read_is t hts _).mono ?_
            rintro e w1 ⟨rfl, rfl⟩
            rw [HN.out]
            go_wp2_with fail
            obtain ⟨W, hW⟩ : ∃ W, W = ((w.alloc (Obj.cells #[Value.int IntKind.i64 0, Value.string ⟨#[]⟩, Value.int IntKind.i64 0] 23)).alloc (Obj.cells #[Value.int IntKind.i64 2, Value.string (⟨#[]⟩), Value.int IntKind.i64 n] 23)) := ⟨_, rfl⟩
            have hX : Blk W w.heap.size 23 #[.int .i64 0, .string ⟨#[]⟩, .int .i64 0] := by rw [hW]; exact (Blk.new _ _ _).alloc _
            have hY : Blk W (w.heap.size + 1) 23 #[.int .i64 2, .string (⟨#[]⟩), .int .i64 n] := by
              rw [hW]
              have := Blk.new (w.alloc (Obj.cells #[Value.int IntKind.i64 0, Value.string ⟨#[]⟩, Value.int IntKind.i64 0] 23)) 23 #[.int .i64 2, .string (⟨#[]⟩), .int .i64 n]
              simpa using this
            have hB : Below w.heap.size w W := by rw [hW]; exact ((Below.refl _ _).alloc (Nat.le_refl _) _).alloc (by simp) _
            rw [← hW]
            clear hW
            have y0 := (hY.cell 0).trans rfl
            have y1 := (hY.cell 1).trans rfl
            have y2 := (hY.cell 2).trans rfl
            have hyl := hY.lt
            have HX := Lib.hid hX
            have HB := Lib.hid hB
            clear hX hY hB
            refine wp_region_E (fun w9 => Below W.heap.size W w9) [(0, 1), (1, 0), (2, 0), (3, 1), (4, 2), (5, 0), (6, 2), (7, 0), (8, 0), (9, 2), (10, 0)] (by kernel_rfl) (by kernel_rfl) (fun KK hKK => ?_)
            simp only [beside, List.filterMap_cons, List.filterMap_nil, List.getElem?_toArray, List.getElem?_cons_zero, List.getElem?_cons_succ, Option.map_some]
            repeat (first | (refine wpX_w ?_ (Or.inl ⟨by rfl, fun w9 => ?_⟩) ?_; rotate_left 1; go_simp; with_reducible rfl; simp only [Act.put, List.setIfInBounds_toArray, List.set_cons_zero, List.set_cons_succ]) | (refine wpX_l ?_ (((Below.refl _ _).drew)) (Or.inl ⟨by rfl, fun w9 hw9 => ?_⟩) ?_; rotate_left 1; obtain ⟨hc9, hf9⟩ := bcell hw9; go_simp; with_reducible rfl; simp only [Act.put, List.setIfInBounds_toArray, List.set_cons_zero, List.set_cons_succ]) | (refine wpX_w undef (Or.inr ⟨by rfl, rfl⟩) ?_; simp only [Act.put, List.setIfInBounds_toArray, List.set_cons_zero, List.set_cons_succ]) | (refine wpX_l undef (((Below.refl _ _).drew)) (Or.inr ⟨by rfl, rfl⟩) ?_; simp only [Act.put, List.setIfInBounds_toArray, List.set_cons_zero, List.set_cons_succ]))
            refine wpX_es (fun K9 hK9 => ?_)
            go_simp
            refine (rvalid_is ⟨2, ⟨#[]⟩, n⟩ _).mono ?_
            rintro e w2 ⟨rfl, hb2⟩
            have HB2 := Lib.hid ((Below.refl W.heap.size W).drew.trans (hb2.mono (by simp)))
            clear hb2
            refine hK9 _ _ HB2.out ?_
            clear hK9 K9
            repeat (first | (refine wpX_w ?_ (Or.inl ⟨by rfl, fun w9 => ?_⟩) ?_; rotate_left 1; go_simp; with_reducible rfl; simp only [Act.put, List.setIfInBounds_toArray, List.set_cons_zero, List.set_cons_succ]) | (refine wpX_l ?_ (HB2.out) (Or.inl ⟨by rfl, fun w9 hw9 => ?_⟩) ?_; rotate_left 1; obtain ⟨hc9, hf9⟩ := bcell hw9; go_simp; with_reducible rfl; simp only [Act.put, List.setIfInBounds_toArray, List.set_cons_zero, List.set_cons_succ]) | (refine wpX_w undef (Or.inr ⟨by rfl, rfl⟩) ?_; simp only [Act.put, List.setIfInBounds_toArray, List.set_cons_zero, List.set_cons_succ]) | (refine wpX_l undef (HB2.out) (Or.inr ⟨by rfl, rfl⟩) ?_; simp only [Act.put, List.setIfInBounds_toArray, List.set_cons_zero, List.set_cons_succ]))
            refine wpX_e (by kernel_rfl) (fun K9 hK9 => ?_)
            go_simp
            refine (only_no _ _ _ _).mono ?_
            rintro e w3 ⟨rfl, hb3⟩
            have HB3 := Lib.hid (HB2.out.trans (hb3.mono (by have := HB2.out.size; first | omega | (simp; done) | (simp; omega))))
            have hX3 := HX.out.new_ HB3.out
            have u0 : w3.cell? ⟨w.heap.size, 0, none⟩ = some (.int .i64 0) := (hX3.cell 0).trans rfl
            have u1 : w3.cell? ⟨w.heap.size, 1, none⟩ = some (.string ⟨#[]⟩) := (hX3.cell 1).trans rfl
            have u2 : w3.cell? ⟨w.heap.size, 2, none⟩ = some (.int .i64 0) := (hX3.cell 2).trans rfl
            have f0 := hX3.frozen 0
            have f1 := hX3.frozen 1
            have f2 := hX3.frozen 2
            have hXl := hX3.lt
            clear hb3
            refine hK9 _ _ ?_
            clear hK9 K9
            repeat (first | (refine wpX_w ?_ (Or.inl ⟨by rfl, fun w9 => ?_⟩) ?_; rotate_left 1; go_simp; with_reducible rfl; simp only [Act.put, List.setIfInBounds_toArray, List.set_cons_zero, List.set_cons_succ]) | (refine wpX_l ?_ (HB2.out) (Or.inl ⟨by rfl, fun w9 hw9 => ?_⟩) ?_; rotate_left 1; obtain ⟨hc9, hf9⟩ := bcell hw9; go_simp; with_reducible rfl; simp only [Act.put, List.setIfInBounds_toArray, List.set_cons_zero, List.set_cons_succ]) | (refine wpX_w undef (Or.inr ⟨by rfl, rfl⟩) ?_; simp only [Act.put, List.setIfInBounds_toArray, List.set_cons_zero, List.set_cons_succ]) | (refine wpX_l undef (HB2.out) (Or.inr ⟨by rfl, rfl⟩) ?_; simp only [Act.put, List.setIfInBounds_toArray, List.set_cons_zero, List.set_cons_succ]))
            refine wpX_e (by kernel_rfl) (fun K9 hK9 => ?_)
            go_simp
            refine hK9 _ _ ?_
            clear hK9 K9
            repeat (first | (refine wpX_w ?_ (Or.inl ⟨by rfl, fun w9 => ?_⟩) ?_; rotate_left 1; go_simp; with_reducible rfl; simp only [Act.put, List.setIfInBounds_toArray, List.set_cons_zero, List.set_cons_succ]) | (refine wpX_l ?_ (HB2.out) (Or.inl ⟨by rfl, fun w9 hw9 => ?_⟩) ?_; rotate_left 1; obtain ⟨hc9, hf9⟩ := bcell hw9; go_simp; with_reducible rfl; simp only [Act.put, List.setIfInBounds_toArray, List.set_cons_zero, List.set_cons_succ]) | (refine wpX_w undef (Or.inr ⟨by rfl, rfl⟩) ?_; simp only [Act.put, List.setIfInBounds_toArray, List.set_cons_zero, List.set_cons_succ]) | (refine wpX_l undef (HB2.out) (Or.inr ⟨by rfl, rfl⟩) ?_; simp only [Act.put, List.setIfInBounds_toArray, List.set_cons_zero, List.set_cons_succ]))
            refine wpX_nil ?_
            simp only [OnlyN_normal]
            refine hKK _ _ ?_
            clear hKK KK
            go_wp2_with fail
            refine bodyPost_ret (v := .tuple #[.agg #[.int .i64 0, .string ⟨#[]⟩, .int .i64 0], .bool false]) (by simp [results, Try.results16, go_sem, u0, u1, u2]) rfl ⟨by rw [HP2.out] <;> rfl, ?_⟩
            exact ((((HB.out.trans (HB3.out.mono HB.out.size))).setCell (by simp) _).setCell (by simp) _).setCell (by simp) _
          · have HP2 : Hid (parseB t = some ⟨2, ⟨#[]⟩, n⟩) := Lib.hid (by rw [hPB, hvd]; simp)
            clear hPB hint
            go_enter Try.func16, Try.ntmps16
            go_wp2_with (go_at_call 18; refine (rword_is _ _).mono ?_; rintro e w' ⟨rfl, rfl⟩)
            refine (read_is t hts _).mono ?_
            rintro e w1 ⟨rfl, rfl⟩
            rw [HN.out]
            go_wp2_with fail
            obtain ⟨W, hW⟩ : ∃ W, W = ((w.alloc (Obj.cells #[Value.int IntKind.i64 0, Value.string ⟨#[]⟩, Value.int IntKind.i64 0] 23)).alloc (Obj.cells #[Value.int IntKind.i64 2, Value.string (⟨#[]⟩), Value.int IntKind.i64 n] 23)) := ⟨_, rfl⟩
            have hX : Blk W w.heap.size 23 #[.int .i64 0, .string ⟨#[]⟩, .int .i64 0] := by rw [hW]; exact (Blk.new _ _ _).alloc _
            have hY : Blk W (w.heap.size + 1) 23 #[.int .i64 2, .string (⟨#[]⟩), .int .i64 n] := by
              rw [hW]
              have := Blk.new (w.alloc (Obj.cells #[Value.int IntKind.i64 0, Value.string ⟨#[]⟩, Value.int IntKind.i64 0] 23)) 23 #[.int .i64 2, .string (⟨#[]⟩), .int .i64 n]
              simpa using this
            have hB : Below w.heap.size w W := by rw [hW]; exact ((Below.refl _ _).alloc (Nat.le_refl _) _).alloc (by simp) _
            rw [← hW]
            clear hW
            have y0 := (hY.cell 0).trans rfl
            have y1 := (hY.cell 1).trans rfl
            have y2 := (hY.cell 2).trans rfl
            have hyl := hY.lt
            have HX := Lib.hid hX
            have HB := Lib.hid hB
            clear hX hY hB
            refine wp_region_E (fun w9 => Below W.heap.size W w9) [(0, 1), (1, 0), (2, 0), (3, 1), (4, 2), (5, 0), (6, 2), (7, 0), (8, 0), (9, 2), (10, 0)] (by kernel_rfl) (by kernel_rfl) (fun KK hKK => ?_)
            simp only [beside, List.filterMap_cons, List.filterMap_nil, List.getElem?_toArray, List.getElem?_cons_zero, List.getElem?_cons_succ, Option.map_some]
            repeat (first | (refine wpX_w ?_ (Or.inl ⟨by rfl, fun w9 => ?_⟩) ?_; rotate_left 1; go_simp; with_reducible rfl; simp only [Act.put, List.setIfInBounds_toArray, List.set_cons_zero, List.set_cons_succ]) | (refine wpX_l ?_ (((Below.refl _ _).drew)) (Or.inl ⟨by rfl, fun w9 hw9 => ?_⟩) ?_; rotate_left 1; obtain ⟨hc9, hf9⟩ := bcell hw9; go_simp; with_reducible rfl; simp only [Act.put, List.setIfInBounds_toArray, List.set_cons_zero, List.set_cons_succ]) | (refine wpX_w undef (Or.inr ⟨by rfl, rfl⟩) ?_; simp only [Act.put, List.setIfInBounds_toArray, List.set_cons_zero, List.set_cons_succ]) | (refine wpX_l undef (((Below.refl _ _).drew)) (Or.inr ⟨by rfl, rfl⟩) ?_; simp only [Act.put, List.setIfInBounds_toArray, List.set_cons_zero, List.set_cons_succ]))
            refine wpX_es (fun K9 hK9 => ?_)
            go_simp
            refine (rvalid_is ⟨2, ⟨#[]⟩, n⟩ _).mono ?_
            rintro e w2 ⟨rfl, hb2⟩
            have HB2 := Lib.hid ((Below.refl W.heap.size W).drew.trans (hb2.mono (by simp)))
            clear hb2
            refine hK9 _ _ HB2.out ?_
            clear hK9 K9
            repeat (first | (refine wpX_w ?_ (Or.inl ⟨by rfl, fun w9 => ?_⟩) ?_; rotate_left 1; go_simp; with_reducible rfl; simp only [Act.put, List.setIfInBounds_toArray, List.set_cons_zero, List.set_cons_succ]) | (refine wpX_l ?_ (HB2.out) (Or.inl ⟨by rfl, fun w9 hw9 => ?_⟩) ?_; rotate_left 1; obtain ⟨hc9, hf9⟩ := bcell hw9; go_simp; with_reducible rfl; simp only [Act.put, List.setIfInBounds_toArray, List.set_cons_zero, List.set_cons_succ]) | (refine wpX_w undef (Or.inr ⟨by rfl, rfl⟩) ?_; simp only [Act.put, List.setIfInBounds_toArray, List.set_cons_zero, List.set_cons_succ]) | (refine wpX_l undef (HB2.out) (Or.inr ⟨by rfl, rfl⟩) ?_; simp only [Act.put, List.setIfInBounds_toArray, List.set_cons_zero, List.set_cons_succ]))
            refine wpX_e (by kernel_rfl) (fun K9 hK9 => ?_)
            go_simp
            refine (only_yes _ _ _ _).mono ?_
            rintro e w3 ⟨rfl, hb3⟩
            have HB3 := Lib.hid (HB2.out.trans (hb3.mono (by have := HB2.out.size; first | omega | (simp; done) | (simp; omega))))
            have hX3 := HX.out.new_ HB3.out
            have u0 : w3.cell? ⟨w.heap.size, 0, none⟩ = some (.int .i64 0) := (hX3.cell 0).trans rfl
            have u1 : w3.cell? ⟨w.heap.size, 1, none⟩ = some (.string ⟨#[]⟩) := (hX3.cell 1).trans rfl
            have u2 : w3.cell? ⟨w.heap.size, 2, none⟩ = some (.int .i64 0) := (hX3.cell 2).trans rfl
            have f0 := hX3.frozen 0
            have f1 := hX3.frozen 1
            have f2 := hX3.frozen 2
            have hXl := hX3.lt
            clear hb3
            refine hK9 _ _ ?_
            clear hK9 K9
            repeat (first | (refine wpX_w ?_ (Or.inl ⟨by rfl, fun w9 => ?_⟩) ?_; rotate_left 1; go_simp; with_reducible rfl; simp only [Act.put, List.setIfInBounds_toArray, List.set_cons_zero, List.set_cons_succ]) | (refine wpX_l ?_ (HB2.out) (Or.inl ⟨by rfl, fun w9 hw9 => ?_⟩) ?_; rotate_left 1; obtain ⟨hc9, hf9⟩ := bcell hw9; go_simp; with_reducible rfl; simp only [Act.put, List.setIfInBounds_toArray, List.set_cons_zero, List.set_cons_succ]) | (refine wpX_w undef (Or.inr ⟨by rfl, rfl⟩) ?_; simp only [Act.put, List.setIfInBounds_toArray, List.set_cons_zero, List.set_cons_succ]) | (refine wpX_l undef (HB2.out) (Or.inr ⟨by rfl, rfl⟩) ?_; simp only [Act.put, List.setIfInBounds_toArray, List.set_cons_zero, List.set_cons_succ]))
            refine wpX_e (by kernel_rfl) (fun K9 hK9 => ?_)
            go_simp
            refine hK9 _ _ ?_
            clear hK9 K9
            repeat (first | (refine wpX_w ?_ (Or.inl ⟨by rfl, fun w9 => ?_⟩) ?_; rotate_left 1; go_simp; with_reducible rfl; simp only [Act.put, List.setIfInBounds_toArray, List.set_cons_zero, List.set_cons_succ]) | (refine wpX_l ?_ (HB2.out) (Or.inl ⟨by rfl, fun w9 hw9 => ?_⟩) ?_; rotate_left 1; obtain ⟨hc9, hf9⟩ := bcell hw9; go_simp; with_reducible rfl; simp only [Act.put, List.setIfInBounds_toArray, List.set_cons_zero, List.set_cons_succ]) | (refine wpX_w undef (Or.inr ⟨by rfl, rfl⟩) ?_; simp only [Act.put, List.setIfInBounds_toArray, List.set_cons_zero, List.set_cons_succ]) | (refine wpX_l undef (HB2.out) (Or.inr ⟨by rfl, rfl⟩) ?_; simp only [Act.put, List.setIfInBounds_toArray, List.set_cons_zero, List.set_cons_succ]))
            refine wpX_nil ?_
            simp only [OnlyN_normal]
            refine hKK _ _ ?_
            clear hKK KK
            go_wp2_with fail
            refine bodyPost_ret (v := .tuple #[.agg #[.int .i64 2, .string ⟨#[]⟩, .int .i64 n], .bool true]) (by simp [results, Try.results16, go_sem, u0, u1, u2]) rfl ⟨by rw [HP2.out] <;> rfl, ?_⟩
            exact ((((HB.out.trans (HB3.out.mono HB.out.size))).setCell (by simp) _).setCell (by simp) _).setCell (by simp) _
    · have g1 : decide ((1 : Int) < (t.size : Int)) = false := by simp; omega
      have hs := says_int hw (.inl (by omega))
      obtain ⟨n, ok, hN, hPB⟩ := hs
      have HN := Lib.hid hN
      clear hN
      cases ok
      · have HP2 : Hid (parseB t = none) := Lib.hid (by rw [hPB]; simp)
        clear hPB hint
        go_enter Try.func16, Try.ntmps16
        go_wp2_with (go_at_call 18; refine (rword_is _ _).mono ?_; rintro e w' ⟨rfl, rfl⟩)
        refine (read_is t hts _).mono ?_
        rintro e w1 ⟨rfl, rfl⟩
        rw [HN.out]
        go_wp2_with fail
        obtain ⟨W, hW⟩ : ∃ W, W = ((w.alloc (Obj.cells #[Value.int IntKind.i64 0, Value.string ⟨#[]⟩, Value.int IntKind.i64 0] 23)).alloc (Obj.cells #[Value.int IntKind.i64 2, Value.string (⟨#[]⟩), Value.int IntKind.i64 n] 23)) := ⟨_, rfl⟩
        have hX : Blk W w.heap.size 23 #[.int .i64 0, .string ⟨#[]⟩, .int .i64 0] := by rw [hW]; exact (Blk.new _ _ _).alloc _
        have hY : Blk W (w.heap.size + 1) 23 #[.int .i64 2, .string (⟨#[]⟩), .int .i64 n] := by
          rw [hW]
          have := Blk.new (w.alloc (Obj.cells #[Value.int IntKind.i64 0, Value.string ⟨#[]⟩, Value.int IntKind.i64 0] 23)) 23 #[.int .i64 2, .string (⟨#[]⟩), .int .i64 n]
          simpa using this
        have hB : Below w.heap.size w W := by rw [hW]; exact ((Below.refl _ _).alloc (Nat.le_refl _) _).alloc (by simp) _
        rw [← hW]
        clear hW
        have y0 := (hY.cell 0).trans rfl
        have y1 := (hY.cell 1).trans rfl
        have y2 := (hY.cell 2).trans rfl
        have hyl := hY.lt
        have HX := Lib.hid hX
        have HB := Lib.hid hB
        clear hX hY hB
        refine wp_region_E (fun w9 => Below W.heap.size W w9) [(0, 1), (1, 0), (2, 0), (3, 1), (4, 2), (5, 0), (6, 2), (7, 0), (8, 0), (9, 2), (10, 0)] (by kernel_rfl) (by kernel_rfl) (fun KK hKK => ?_)
        simp only [beside, List.filterMap_cons, List.filterMap_nil, List.getElem?_toArray, List.getElem?_cons_zero, List.getElem?_cons_succ, Option.map_some]
        repeat (first | (refine wpX_w ?_ (Or.inl ⟨by rfl, fun w9 => ?_⟩) ?_; rotate_left 1; go_simp; with_reducible rfl; simp only [Act.put, List.setIfInBounds_toArray, List.set_cons_zero, List.set_cons_succ]) | (refine wpX_l ?_ (((Below.refl _ _).drew)) (Or.inl ⟨by rfl, fun w9 hw9 => ?_⟩) ?_; rotate_left 1; obtain ⟨hc9, hf9⟩ := bcell hw9; go_simp; with_reducible rfl; simp only [Act.put, List.setIfInBounds_toArray, List.set_cons_zero, List.set_cons_succ]) | (refine wpX_w undef (Or.inr ⟨by rfl, rfl⟩) ?_; simp only [Act.put, List.setIfInBounds_toArray, List.set_cons_zero, List.set_cons_succ]) | (refine wpX_l undef (((Below.refl _ _).drew)) (Or.inr ⟨by rfl, rfl⟩) ?_; simp only [Act.put, List.setIfInBounds_toArray, List.set_cons_zero, List.set_cons_succ]))
        refine wpX_es (fun K9 hK9 => ?_)
        go_simp
        have HB2 := Lib.hid ((Below.refl W.heap.size W).drew)
        refine hK9 _ _ HB2.out ?_
        clear hK9 K9
        repeat (first | (refine wpX_w ?_ (Or.inl ⟨by rfl, fun w9 => ?_⟩) ?_; rotate_left 1; go_simp; with_reducible rfl; simp only [Act.put, List.setIfInBounds_toArray, List.set_cons_zero, List.set_cons_succ]) | (refine wpX_l ?_ (HB2.out) (Or.inl ⟨by rfl, fun w9 hw9 => ?_⟩) ?_; rotate_left 1; obtain ⟨hc9, hf9⟩ := bcell hw9; go_simp; with_reducible rfl; simp only [Act.put, List.setIfInBounds_toArray, List.set_cons_zero, List.set_cons_succ]) | (refine wpX_w undef (Or.inr ⟨by rfl, rfl⟩) ?_; simp only [Act.put, List.setIfInBounds_toArray, List.set_cons_zero, List.set_cons_succ]) | (refine wpX_l undef (HB2.out) (Or.inr ⟨by rfl, rfl⟩) ?_; simp only [Act.put, List.setIfInBounds_toArray, List.set_cons_zero, List.set_cons_succ]))
        refine wpX_e (by kernel_rfl) (fun K9 hK9 => ?_)
        go_simp
        refine (only_no _ _ _ _).mono ?_
        rintro e w3 ⟨rfl, hb3⟩
        have HB3 := Lib.hid (HB2.out.trans (hb3.mono (by have := HB2.out.size; first | omega | (simp; done) | (simp; omega))))
        have hX3 := HX.out.new_ HB3.out
        have u0 : w3.cell? ⟨w.heap.size, 0, none⟩ = some (.int .i64 0) := (hX3.cell 0).trans rfl
        have u1 : w3.cell? ⟨w.heap.size, 1, none⟩ = some (.string ⟨#[]⟩) := (hX3.cell 1).trans rfl
        have u2 : w3.cell? ⟨w.heap.size, 2, none⟩ = some (.int .i64 0) := (hX3.cell 2).trans rfl
        have f0 := hX3.frozen 0
        have f1 := hX3.frozen 1
        have f2 := hX3.frozen 2
        have hXl := hX3.lt
        clear hb3
        refine hK9 _ _ ?_
        clear hK9 K9
        repeat (first | (refine wpX_w ?_ (Or.inl ⟨by rfl, fun w9 => ?_⟩) ?_; rotate_left 1; go_simp; with_reducible rfl; simp only [Act.put, List.setIfInBounds_toArray, List.set_cons_zero, List.set_cons_succ]) | (refine wpX_l ?_ (HB2.out) (Or.inl ⟨by rfl, fun w9 hw9 => ?_⟩) ?_; rotate_left 1; obtain ⟨hc9, hf9⟩ := bcell hw9; go_simp; with_reducible rfl; simp only [Act.put, List.setIfInBounds_toArray, List.set_cons_zero, List.set_cons_succ]) | (refine wpX_w undef (Or.inr ⟨by rfl, rfl⟩) ?_; simp only [Act.put, List.setIfInBounds_toArray, List.set_cons_zero, List.set_cons_succ]) | (refine wpX_l undef (HB2.out) (Or.inr ⟨by rfl, rfl⟩) ?_; simp only [Act.put, List.setIfInBounds_toArray, List.set_cons_zero, List.set_cons_succ]))
        refine wpX_e (by kernel_rfl) (fun K9 hK9 => ?_)
        go_simp
        refine hK9 _ _ ?_
        clear hK9 K9
        repeat (first | (refine wpX_w ?_ (Or.inl ⟨by rfl, fun w9 => ?_⟩) ?_; rotate_left 1; go_simp; with_reducible rfl; simp only [Act.put, List.setIfInBounds_toArray, List.set_cons_zero, List.set_cons_succ]) | (refine wpX_l ?_ (HB2.out) (Or.inl ⟨by rfl, fun w9 hw9 => ?_⟩) ?_; rotate_left 1; obtain ⟨hc9, hf9⟩ := bcell hw9; go_simp; with_reducible rfl; simp only [Act.put, List.setIfInBounds_toArray, List.set_cons_zero, List.set_cons_succ]) | (refine wpX_w undef (Or.inr ⟨by rfl, rfl⟩) ?_; simp only [Act.put, List.setIfInBounds_toArray, List.set_cons_zero, List.set_cons_succ]) | (refine wpX_l undef (HB2.out) (Or.inr ⟨by rfl, rfl⟩) ?_; simp only [Act.put, List.setIfInBounds_toArray, List.set_cons_zero, List.set_cons_succ]))
        refine wpX_nil ?_
        simp only [OnlyN_normal]
        refine hKK _ _ ?_
        clear hKK KK
        go_wp2_with fail
        refine bodyPost_ret (v := .tuple #[.agg #[.int .i64 0, .string ⟨#[]⟩, .int .i64 0], .bool false]) (by simp [results, Try.results16, go_sem, u0, u1, u2]) rfl ⟨by rw [HP2.out] <;> rfl, ?_⟩
        exact ((((HB.out.trans (HB3.out.mono HB.out.size))).setCell (by simp) _).setCell (by simp) _).setCell (by simp) _
      · cases hvd : validB ⟨2, ⟨#[]⟩, n⟩
        · have HP2 : Hid (parseB t = none) := Lib.hid (by rw [hPB, hvd]; simp)
          clear hPB hint
          go_enter Try.func16, Try.ntmps16
          go_wp2_with (go_at_call 18; refine (rword_is _ _).mono ?_; rintro e w' ⟨rfl, rfl⟩)
          refine (read_is t hts _).mono ?_
          rintro e w1 ⟨rfl, rfl⟩
          rw [HN.out]
          go_wp2_with fail
          obtain ⟨W, hW⟩ : ∃ W, W = ((w.alloc (Obj.cells #[Value.int IntKind.i64 0, Value.string ⟨#[]⟩, Value.int IntKind.i64 0] 23)).alloc (Obj.cells #[Value.int IntKind.i64 2, Value.string (⟨#[]⟩), Value.int IntKind.i64 n] 23)) := ⟨_, rfl⟩
          have hX : Blk W w.heap.size 23 #[.int .i64 0, .string ⟨#[]⟩, .int .i64 0] := by rw [hW]; exact (Blk.new _ _ _).alloc _
          have hY : Blk W (w.heap.size + 1) 23 #[.int .i64 2, .string (⟨#[]⟩), .int .i64 n] := by
            rw [hW]
            have := Blk.new (w.alloc (Obj.cells #[Value.int IntKind.i64 0, Value.string ⟨#[]⟩, Value.int IntKind.i64 0] 23)) 23 #[.int .i64 2, .string (⟨#[]⟩), .int .i64 n]
            simpa using this
          have hB : Below w.heap.size w W := by rw [hW]; exact ((Below.refl _ _).alloc (Nat.le_refl _) _).alloc (by simp) _
          rw [← hW]
          clear hW
          have y0 := (hY.cell 0).trans rfl
          have y1 := (hY.cell 1).trans rfl
          have y2 := (hY.cell 2).trans rfl
          have hyl := hY.lt
          have HX := Lib.hid hX
          have HB := Lib.hid hB
          clear hX hY hB
          refine wp_region_E (fun w9 => Below W.heap.size W w9) [(0, 1), (1, 0), (2, 0), (3, 1), (4, 2), (5, 0), (6, 2), (7, 0), (8, 0), (9, 2), (10, 0)] (by kernel_rfl) (by kernel_rfl) (fun KK hKK => ?_)
          simp only [beside, List.filterMap_cons, List.filterMap_nil, List.getElem?_toArray, List.getElem?_cons_zero, List.getElem?_cons_succ, Option.map_some]
          repeat (first | (refine wpX_w ?_ (Or.inl ⟨by rfl, fun w9 => ?_⟩) ?_; rotate_left 1; go_simp; with_reducible rfl; simp only [Act.put, List.setIfInBounds_toArray, List.set_cons_zero, List.set_cons_succ]) | (refine wpX_l ?_ (((Below.refl _ _).drew)) (Or.inl ⟨by rfl, fun w9 hw9 => ?_⟩) ?_; rotate_left 1; obtain ⟨hc9, hf9⟩ := bcell hw9; go_simp; with_reducible rfl; simp only [Act.put, List.setIfInBounds_toArray, List.set_cons_zero, List.set_cons_succ]) | (refine wpX_w undef (Or.inr ⟨by rfl, rfl⟩) ?_; simp only [Act.put, List.setIfInBounds_toArray, List.set_cons_zero, List.set_cons_succ]) | (refine wpX_l undef (((Below.refl _ _).drew)) (Or.inr ⟨by rfl, rfl⟩) ?_; simp only [Act.put, List.setIfInBounds_toArray, List.set_cons_zero, List.set_cons_succ]))
          refine wpX_es (fun K9 hK9 => ?_)
          go_simp
          refine (rvalid_is ⟨2, ⟨#[]⟩, n⟩ _).mono ?_
          rintro e w2 ⟨rfl, hb2⟩
          have HB2 := Lib.hid ((Below.refl W.heap.size W).drew.trans (hb2.mono (by simp)))
          clear hb2
          refine hK9 _ _ HB2.out ?_
          clear hK9 K9
          repeat (first | (refine wpX_w ?_ (Or.inl ⟨by rfl, fun w9 => ?_⟩) ?_; rotate_left 1; go_simp; with_reducible rfl; simp only [Act.put, List.setIfInBounds_toArray, List.set_cons_zero, List.set_cons_succ]) | (refine wpX_l ?_ (HB2.out) (Or.inl ⟨by rfl, fun w9 hw9 => ?_⟩) ?_; rotate_left 1; obtain ⟨hc9, hf9⟩ := bcell hw9; go_simp; with_reducible rfl; simp only [Act.put, List.setIfInBounds_toArray, List.set_cons_zero, List.set_cons_succ]) | (refine wpX_w undef (Or.inr ⟨by rfl, rfl⟩) ?_; simp only [Act.put, List.setIfInBounds_toArray, List.set_cons_zero, List.set_cons_succ]) | (refine wpX_l undef (HB2.out) (Or.inr ⟨by rfl, rfl⟩) ?_; simp only [Act.put, List.setIfInBounds_toArray, List.set_cons_zero, List.set_cons_succ]))
          refine wpX_e (by kernel_rfl) (fun K9 hK9 => ?_)
          go_simp
          refine (only_no _ _ _ _).mono ?_
          rintro e w3 ⟨rfl, hb3⟩
          have HB3 := Lib.hid (HB2.out.trans (hb3.mono (by have := HB2.out.size; first | omega | (simp; done) | (simp; omega))))
          have hX3 := HX.out.new_ HB3.out
          have u0 : w3.cell? ⟨w.heap.size, 0, none⟩ = some (.int .i64 0) := (hX3.cell 0).trans rfl
          have u1 : w3.cell? ⟨w.heap.size, 1, none⟩ = some (.string ⟨#[]⟩) := (hX3.cell 1).trans rfl
          have u2 : w3.cell? ⟨w.heap.size, 2, none⟩ = some (.int .i64 0) := (hX3.cell 2).trans rfl
          have f0 := hX3.frozen 0
          have f1 := hX3.frozen 1
          have f2 := hX3.frozen 2
          have hXl := hX3.lt
          clear hb3
          refine hK9 _ _ ?_
          clear hK9 K9
          repeat (first | (refine wpX_w ?_ (Or.inl ⟨by rfl, fun w9 => ?_⟩) ?_; rotate_left 1; go_simp; with_reducible rfl; simp only [Act.put, List.setIfInBounds_toArray, List.set_cons_zero, List.set_cons_succ]) | (refine wpX_l ?_ (HB2.out) (Or.inl ⟨by rfl, fun w9 hw9 => ?_⟩) ?_; rotate_left 1; obtain ⟨hc9, hf9⟩ := bcell hw9; go_simp; with_reducible rfl; simp only [Act.put, List.setIfInBounds_toArray, List.set_cons_zero, List.set_cons_succ]) | (refine wpX_w undef (Or.inr ⟨by rfl, rfl⟩) ?_; simp only [Act.put, List.setIfInBounds_toArray, List.set_cons_zero, List.set_cons_succ]) | (refine wpX_l undef (HB2.out) (Or.inr ⟨by rfl, rfl⟩) ?_; simp only [Act.put, List.setIfInBounds_toArray, List.set_cons_zero, List.set_cons_succ]))
          refine wpX_e (by kernel_rfl) (fun K9 hK9 => ?_)
          go_simp
          refine hK9 _ _ ?_
          clear hK9 K9
          repeat (first | (refine wpX_w ?_ (Or.inl ⟨by rfl, fun w9 => ?_⟩) ?_; rotate_left 1; go_simp; with_reducible rfl; simp only [Act.put, List.setIfInBounds_toArray, List.set_cons_zero, List.set_cons_succ]) | (refine wpX_l ?_ (HB2.out) (Or.inl ⟨by rfl, fun w9 hw9 => ?_⟩) ?_; rotate_left 1; obtain ⟨hc9, hf9⟩ := bcell hw9; go_simp; with_reducible rfl; simp only [Act.put, List.setIfInBounds_toArray, List.set_cons_zero, List.set_cons_succ]) | (refine wpX_w undef (Or.inr ⟨by rfl, rfl⟩) ?_; simp only [Act.put, List.setIfInBounds_toArray, List.set_cons_zero, List.set_cons_succ]) | (refine wpX_l undef (HB2.out) (Or.inr ⟨by rfl, rfl⟩) ?_; simp only [Act.put, List.setIfInBounds_toArray, List.set_cons_zero, List.set_cons_succ]))
          refine wpX_nil ?_
          simp only [OnlyN_normal]
          refine hKK _ _ ?_
          clear hKK KK
          go_wp2_with fail
          refine bodyPost_ret (v := .tuple #[.agg #[.int .i64 0, .string ⟨#[]⟩, .int .i64 0], .bool false]) (by simp [results, Try.results16, go_sem, u0, u1, u2]) rfl ⟨by rw [HP2.out] <;> rfl, ?_⟩
          exact ((((HB.out.trans (HB3.out.mono HB.out.size))).setCell (by simp) _).setCell (by simp) _).setCell (by simp) _
        · have HP2 : Hid (parseB t = some ⟨2, ⟨#[]⟩, n⟩) := Lib.hid (by rw [hPB, hvd]; simp)
          clear hPB hint
          go_enter Try.func16, Try.ntmps16
          go_wp2_with (go_at_call 18; refine (rword_is _ _).mono ?_; rintro e w' ⟨rfl, rfl⟩)
          refine (read_is t hts _).mono ?_
          rintro e w1 ⟨rfl, rfl⟩
          rw [HN.out]
          go_wp2_with fail
          obtain ⟨W, hW⟩ : ∃ W, W = ((w.alloc (Obj.cells #[Value.int IntKind.i64 0, Value.string ⟨#[]⟩, Value.int IntKind.i64 0] 23)).alloc (Obj.cells #[Value.int IntKind.i64 2, Value.string (⟨#[]⟩), Value.int IntKind.i64 n] 23)) := ⟨_, rfl⟩
          have hX : Blk W w.heap.size 23 #[.int .i64 0, .string ⟨#[]⟩, .int .i64 0] := by rw [hW]; exact (Blk.new _ _ _).alloc _
          have hY : Blk W (w.heap.size + 1) 23 #[.int .i64 2, .string (⟨#[]⟩), .int .i64 n] := by
            rw [hW]
            have := Blk.new (w.alloc (Obj.cells #[Value.int IntKind.i64 0, Value.string ⟨#[]⟩, Value.int IntKind.i64 0] 23)) 23 #[.int .i64 2, .string (⟨#[]⟩), .int .i64 n]
            simpa using this
          have hB : Below w.heap.size w W := by rw [hW]; exact ((Below.refl _ _).alloc (Nat.le_refl _) _).alloc (by simp) _
          rw [← hW]
          clear hW
          have y0 := (hY.cell 0).trans rfl
          have y1 := (hY.cell 1).trans rfl
          have y2 := (hY.cell 2).trans rfl
          have hyl := hY.lt
          have HX := Lib.hid hX
          have HB := Lib.hid hB
          clear hX hY hB
          refine wp_region_E (fun w9 => Below W.heap.size W w9) [(0, 1), (1, 0), (2, 0), (3, 1), (4, 2), (5, 0), (6, 2), (7, 0), (8, 0), (9, 2), (10, 0)] (by kernel_rfl) (by kernel_rfl) (fun KK hKK => ?_)
          simp only [beside, List.filterMap_cons, List.filterMap_nil, List.getElem?_toArray, List.getElem?_cons_zero, List.getElem?_cons_succ, Option.map_some]
          repeat (first | (refine wpX_w ?_ (Or.inl ⟨by rfl, fun w9 => ?_⟩) ?_; rotate_left 1; go_simp; with_reducible rfl; simp only [Act.put, List.setIfInBounds_toArray, List.set_cons_zero, List.set_cons_succ]) | (refine wpX_l ?_ (((Below.refl _ _).drew)) (Or.inl ⟨by rfl, fun w9 hw9 => ?_⟩) ?_; rotate_left 1; obtain ⟨hc9, hf9⟩ := bcell hw9; go_simp; with_reducible rfl; simp only [Act.put, List.setIfInBounds_toArray, List.set_cons_zero, List.set_cons_succ]) | (refine wpX_w undef (Or.inr ⟨by rfl, rfl⟩) ?_; simp only [Act.put, List.setIfInBounds_toArray, List.set_cons_zero, List.set_cons_succ]) | (refine wpX_l undef (((Below.refl _ _).drew)) (Or.inr ⟨by rfl, rfl⟩) ?_; simp only [Act.put, List.setIfInBounds_toArray, List.set_cons_zero, List.set_cons_succ]))
          refine wpX_es (fun K9 hK9 => ?_)
          go_simp
          refine (rvalid_is ⟨2, ⟨#[]⟩, n⟩ _).mono ?_
          rintro e w2 ⟨rfl, hb2⟩
          have HB2 := Lib.hid ((Below.refl W.heap.size W).drew.trans (hb2.mono (by simp)))
          clear hb2
          refine hK9 _ _ HB2.out ?_
          clear hK9 K9
          repeat (first | (refine wpX_w ?_ (Or.inl ⟨by rfl, fun w9 => ?_⟩) ?_; rotate_left 1; go_simp; with_reducible rfl; simp only [Act.put, List.setIfInBounds_toArray, List.set_cons_zero, List.set_cons_succ]) | (refine wpX_l ?_ (HB2.out) (Or.inl ⟨by rfl, fun w9 hw9 => ?_⟩) ?_; rotate_left 1; obtain ⟨hc9, hf9⟩ := bcell hw9; go_simp; with_reducible rfl; simp only [Act.put, List.setIfInBounds_toArray, List.set_cons_zero, List.set_cons_succ]) | (refine wpX_w undef (Or.inr ⟨by rfl, rfl⟩) ?_; simp only [Act.put, List.setIfInBounds_toArray, List.set_cons_zero, List.set_cons_succ]) | (refine wpX_l undef (HB2.out) (Or.inr ⟨by rfl, rfl⟩) ?_; simp only [Act.put, List.setIfInBounds_toArray, List.set_cons_zero, List.set_cons_succ]))
          refine wpX_e (by kernel_rfl) (fun K9 hK9 => ?_)
          go_simp
          refine (only_yes _ _ _ _).mono ?_
          rintro e w3 ⟨rfl, hb3⟩
          have HB3 := Lib.hid (HB2.out.trans (hb3.mono (by have := HB2.out.size; first | omega | (simp; done) | (simp; omega))))
          have hX3 := HX.out.new_ HB3.out
          have u0 : w3.cell? ⟨w.heap.size, 0, none⟩ = some (.int .i64 0) := (hX3.cell 0).trans rfl
          have u1 : w3.cell? ⟨w.heap.size, 1, none⟩ = some (.string ⟨#[]⟩) := (hX3.cell 1).trans rfl
          have u2 : w3.cell? ⟨w.heap.size, 2, none⟩ = some (.int .i64 0) := (hX3.cell 2).trans rfl
          have f0 := hX3.frozen 0
          have f1 := hX3.frozen 1
          have f2 := hX3.frozen 2
          have hXl := hX3.lt
          clear hb3
          refine hK9 _ _ ?_
          clear hK9 K9
          repeat (first | (refine wpX_w ?_ (Or.inl ⟨by rfl, fun w9 => ?_⟩) ?_; rotate_left 1; go_simp; with_reducible rfl; simp only [Act.put, List.setIfInBounds_toArray, List.set_cons_zero, List.set_cons_succ]) | (refine wpX_l ?_ (HB2.out) (Or.inl ⟨by rfl, fun w9 hw9 => ?_⟩) ?_; rotate_left 1; obtain ⟨hc9, hf9⟩ := bcell hw9; go_simp; with_reducible rfl; simp only [Act.put, List.setIfInBounds_toArray, List.set_cons_zero, List.set_cons_succ]) | (refine wpX_w undef (Or.inr ⟨by rfl, rfl⟩) ?_; simp only [Act.put, List.setIfInBounds_toArray, List.set_cons_zero, List.set_cons_succ]) | (refine wpX_l undef (HB2.out) (Or.inr ⟨by rfl, rfl⟩) ?_; simp only [Act.put, List.setIfInBounds_toArray, List.set_cons_zero, List.set_cons_succ]))
          refine wpX_e (by kernel_rfl) (fun K9 hK9 => ?_)
          go_simp
          refine hK9 _ _ ?_
          clear hK9 K9
          repeat (first | (refine wpX_w ?_ (Or.inl ⟨by rfl, fun w9 => ?_⟩) ?_; rotate_left 1; go_simp; with_reducible rfl; simp only [Act.put, List.setIfInBounds_toArray, List.set_cons_zero, List.set_cons_succ]) | (refine wpX_l ?_ (HB2.out) (Or.inl ⟨by rfl, fun w9 hw9 => ?_⟩) ?_; rotate_left 1; obtain ⟨hc9, hf9⟩ := bcell hw9; go_simp; with_reducible rfl; simp only [Act.put, List.setIfInBounds_toArray, List.set_cons_zero, List.set_cons_succ]) | (refine wpX_w undef (Or.inr ⟨by rfl, rfl⟩) ?_; simp only [Act.put, List.setIfInBounds_toArray, List.set_cons_zero, List.set_cons_succ]) | (refine wpX_l undef (HB2.out) (Or.inr ⟨by rfl, rfl⟩) ?_; simp only [Act.put, List.setIfInBounds_toArray, List.set_cons_zero, List.set_cons_succ]))
          refine wpX_nil ?_
          simp only [OnlyN_normal]
          refine hKK _ _ ?_
          clear hKK KK
          go_wp2_with fail
          refine bodyPost_ret (v := .tuple #[.agg #[.int .i64 2, .string ⟨#[]⟩, .int .i64 n], .bool true]) (by simp [results, Try.results16, go_sem, u0, u1, u2]) rfl ⟨by rw [HP2.out] <;> rfl, ?_⟩
          exact ((((HB.out.trans (HB3.out.mono HB.out.size))).setCell (by simp) _).setCell (by simp) _).setCell (by simp) _
  · have HP2 : Hid (parseB t = some ⟨3, t, 0⟩) := Lib.hid (by unfold parseB; rw [hw]; simp)
    go_enter Try.func16, Try.ntmps16
    go_wp2_with (go_at_call 18; refine (rword_is _ _).mono ?_; rintro e w' ⟨rfl, rfl⟩)
    exact bodyPost_ret (v := .tuple #[.agg #[.int .i64 3, .string t, .int .i64 0], .bool true]) (by simp [results, Try.results16, go_sem]) rfl ⟨by rw [HP2.out] <;> rfl, by (repeat (first | exact Below.refl _ _ | (refine Below.drew ?_) | (refine Below.alloc ?_ (by simp <;> omega) _) | (refine Below.setCell ?_ (by simp <;> omega) _)))⟩
end Go.Proofs.Ytlkffnmmphehdaa
