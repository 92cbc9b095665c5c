/-
  The walk of the document's Put of an element into a list in order.
-/
import Derived.Test.YthhhhjllpejpgaaRefOne
import Derived.Test.YthhhhjllpejpgaaRefPut
import Derived.Test.YthhhhjllpejpgaaOpsElem
namespace Go.Proofs.Ythhhhjllpejpgaa
open Go.RowKit
theorem suffix_newsE {w : World} {A A' : Option Addr} {c i : Nat} {l : List Elem} (h : RowRd w 12 Elem.cells A c l) (hi : i ≤ l.length) (hA : i < l.length → A' = (if c = i then A else A.map (·.add (i * 12)))) :
    0 < l.length - i → ∃ ad, A' = some ad ∧ ∀ j u, ((l.drop i).flatMap Elem.cells)[j]? = some u → w.cell? (ad.add j) = some u := by
  intro h0
  rw [hA (by omega)]
  exact (h.suffix i hi).news Elem.cells_length (by omega) (by simp; omega)
theorem rput_endE {w w4 : World} {l : List Elem} {x : Elem} {i : Nat} {v : Value} (hp : put cmpElem l x = l.take i ++ x :: l.drop i) (hi : i ≤ l.length)
    (ho : w4.ownsRow 0 72 12 v (i + 1 + (l.length - i)) ((l.take i).flatMap Elem.cells ++ Elem.cells x ++ (l.drop i).flatMap Elem.cells)) (hv : ∀ k, v.ownBlock = some k → w.heap.size ≤ k) :
    ∃ A' c', v = .slice A' (put cmpElem l x).length c' ∧ RowRd w4 12 Elem.cells A' c' (put cmpElem l x) ∧ AIn A' (fun k => w.heap.size ≤ k ∧ k < w4.heap.size) := by
  have e1 : i + 1 + (l.length - i) = (put cmpElem l x).length := by rw [hp]; simp; omega
  have e2 : (l.take i).flatMap Elem.cells ++ Elem.cells x ++ (l.drop i).flatMap Elem.cells = (put cmpElem l x).flatMap Elem.cells := by rw [hp]; simp
  rw [e1, e2] at ho
  obtain ⟨A', c', rfl, _⟩ := own_form2 ho
  refine ⟨A', c', rfl, ownsRow_rd Elem.cells_length ho, fun a ha => ?_⟩
  subst ha
  refine ⟨hv a.block rfl, ?_⟩
  rcases ownsRow_form ho with ⟨hv, _⟩ | ⟨g, cap, hv, _, _, hr, _⟩
  · cases hv
  · injection hv with hv; injection hv with hv; subst hv; exact hr.lt

theorem found_down {l : List Elem} {x : Elem} {i : Nat} (hs : Srt cmpElem l) (hi : i ≤ l.length) (h1 : ∀ k, (h : k < l.length) → i ≤ k → 0 < cmpElem l[k] x) (h2 : ∀ (h : 0 < i), cmpElem (l[i - 1]'(by omega)) x < 0) : put cmpElem l x = l.take i ++ x :: l.drop i := by
  have h4 : ∀ k, (h : k < l.length) → k < i → cmpElem l[k] x < 0 := by
    intro k h hk
    have e0 := h2 (by omega)
    rcases Nat.lt_or_ge k (i - 1) with hlt | hge
    · exact tc_elem.lt_trans (hs.lt hlt (by omega)) e0
    · obtain rfl : k = i - 1 := by omega
      exact e0
  have h5 := (at_none h4 h1).2.2
  have h6 := rank_none hi h4 h1
  rw [put_eq tc_elem hs h5, h6]
theorem elem_at {w : World} {A : Option Addr} {c k : Nat} {l : List Elem} (h : RowRd w 12 Elem.cells A c l) (hk : k < l.length) : ∃ g off, A = some ⟨g, off, none⟩ ∧ g < w.heap.size ∧ w.cell? ⟨g, off + k * 12, none⟩ = some (.int .i64 l[k].id.kind) ∧ w.cell? ⟨g, off + k * 12 + 1, none⟩ = some (.string l[k].id.text) ∧ w.cell? ⟨g, off + k * 12 + 2, none⟩ = some (.int .i64 l[k].id.n) ∧ w.cell? ⟨g, off + k * 12 + 3, none⟩ = some (.int .i64 l[k].attr.kind) ∧ w.cell? ⟨g, off + k * 12 + 4, none⟩ = some (.string l[k].attr.text) ∧ w.cell? ⟨g, off + k * 12 + 5, none⟩ = some (.int .i64 l[k].attr.n) ∧ w.cell? ⟨g, off + k * 12 + 6, none⟩ = some (.int .i64 l[k].value.kind) ∧ w.cell? ⟨g, off + k * 12 + 7, none⟩ = some (.string l[k].value.text) ∧ w.cell? ⟨g, off + k * 12 + 8, none⟩ = some (.int .i64 l[k].value.n) ∧ w.cell? ⟨g, off + k * 12 + 9, none⟩ = some (.bool l[k].acc) ∧ w.cell? ⟨g, off + k * 12 + 10, none⟩ = some (.bool l[k].goal) ∧ w.cell? ⟨g, off + k * 12 + 11, none⟩ = some (.int .i64 l[k].tag) := by
  obtain ⟨g, off, hA, hg, hc⟩ := h.at_ hk
  exact ⟨g, off, hA, hg, by simpa using hc 0 _ rfl, by simpa using hc 1 _ rfl, by simpa using hc 2 _ rfl, by simpa using hc 3 _ rfl, by simpa using hc 4 _ rfl, by simpa using hc 5 _ rfl, by simpa using hc 6 _ rfl, by simpa using hc 7 _ rfl, by simpa using hc 8 _ rfl, by simpa using hc 9 _ rfl, by simpa using hc 10 _ rfl, by simpa using hc 11 _ rfl⟩
set_option maxRecDepth 100000 in
set_option maxHeartbeats 16000000 in
theorem rputE_is (A : Option Addr) (c : Nat) (l : List Elem) (x : Elem) (w : World) (hrd : RowRd w 12 Elem.cells A c l) (hs : Srt cmpElem l) (hl : (l.length : Int) ≤ 1000000) :
    Calls Try.prog 65 #[.slice A l.length c, .agg #[.int .i64 x.id.kind, .string x.id.text, .int .i64 x.id.n, .int .i64 x.attr.kind, .string x.attr.text, .int .i64 x.attr.n, .int .i64 x.value.kind, .string x.value.text, .int .i64 x.value.n, .bool x.acc, .bool x.goal, .int .i64 x.tag]] w fun e w' => ∃ A' c', e = .returned (.slice A' (put cmpElem l x).length c') ∧ RowRd w' 12 Elem.cells A' c' (put cmpElem l x) ∧ (A' = A ∨ AIn A' (fun k => w.heap.size ≤ k ∧ k < w'.heap.size)) ∧ Below w.heap.size w w' := by
  obtain ⟨i0, hi0, hz0, hz1, hz2⟩ := info_parts info_Elem
  have HRD := Lib.hid hrd
  have HSO := Lib.hid hs
  have hlc := hrd.cap
  have hlcc := hrd.1
  clear hrd hs
  go_enter Try.func65, Try.ntmps65
  go_wp2_with fail
  obtain ⟨W0, hW0⟩ : ∃ W0, W0 = w.alloc (.cells #[.int .i64 x.id.kind, .string x.id.text, .int .i64 x.id.n, .int .i64 x.attr.kind, .string x.attr.text, .int .i64 x.attr.n, .int .i64 x.value.kind, .string x.value.text, .int .i64 x.value.n, .bool x.acc, .bool x.goal, .int .i64 x.tag] 72) := ⟨_, rfl⟩
  have hX0 : Blk W0 w.heap.size 72 #[.int .i64 x.id.kind, .string x.id.text, .int .i64 x.id.n, .int .i64 x.attr.kind, .string x.attr.text, .int .i64 x.attr.n, .int .i64 x.value.kind, .string x.value.text, .int .i64 x.value.n, .bool x.acc, .bool x.goal, .int .i64 x.tag] := by rw [hW0]; exact Blk.new _ _ _
  have hB0 : Below w.heap.size w W0 := by rw [hW0]; exact (Below.refl _ _).alloc (Nat.le_refl _) _
  rw [← hW0]
  clear hW0
  have HX0 := Lib.hid hX0
  have HB0 := Lib.hid hB0
  have hz00 := hB0.size
  have hxl0 := hX0.lt
  clear hX0 hB0
  go_loopw [5] (fun s wr => ∃ i : Nat, s = .int .i64 i ∧ i ≤ l.length ∧ (∀ k, (h : k < l.length) → i ≤ k → 0 < cmpElem l[k] x) ∧ Below W0.heap.size W0 wr) (fun s wr => (intOf s).toNat)
  case atStart => exact ⟨l.length, rfl, Nat.le_refl _, fun k h hk => absurd h (by omega), Below.refl _ _⟩
  case round =>
    obtain ⟨i, rfl, hi, hall, hB⟩ := hrel
    have HALL := Lib.hid hall
    have HB := Lib.hid hB
    have HBw := Lib.hid (HB0.out.trans (hB.mono hz00))
    have hXr := HX0.out.new_ hB
    have hzr := hB.size
    have HXr := Lib.hid hXr
    have y0 : wr.cell? ⟨w.heap.size, 0, none⟩ = some (.int .i64 x.id.kind) := (hXr.cell 0).trans rfl
    have y1 : wr.cell? ⟨w.heap.size, 1, none⟩ = some (.string x.id.text) := (hXr.cell 1).trans rfl
    have y2 : wr.cell? ⟨w.heap.size, 2, none⟩ = some (.int .i64 x.id.n) := (hXr.cell 2).trans rfl
    have y3 : wr.cell? ⟨w.heap.size, 3, none⟩ = some (.int .i64 x.attr.kind) := (hXr.cell 3).trans rfl
    have y4 : wr.cell? ⟨w.heap.size, 4, none⟩ = some (.string x.attr.text) := (hXr.cell 4).trans rfl
    have y5 : wr.cell? ⟨w.heap.size, 5, none⟩ = some (.int .i64 x.attr.n) := (hXr.cell 5).trans rfl
    have y6 : wr.cell? ⟨w.heap.size, 6, none⟩ = some (.int .i64 x.value.kind) := (hXr.cell 6).trans rfl
    have y7 : wr.cell? ⟨w.heap.size, 7, none⟩ = some (.string x.value.text) := (hXr.cell 7).trans rfl
    have y8 : wr.cell? ⟨w.heap.size, 8, none⟩ = some (.int .i64 x.value.n) := (hXr.cell 8).trans rfl
    have y9 : wr.cell? ⟨w.heap.size, 9, none⟩ = some (.bool x.acc) := (hXr.cell 9).trans rfl
    have y10 : wr.cell? ⟨w.heap.size, 10, none⟩ = some (.bool x.goal) := (hXr.cell 10).trans rfl
    have y11 : wr.cell? ⟨w.heap.size, 11, none⟩ = some (.int .i64 x.tag) := (hXr.cell 11).trans rfl
    have hxl := hXr.lt
    clear hall hB hXr
    by_cases h0 : i = 0
    · have g1 : decide ((0 : Int) < (i : Int)) = false := by simp; omega
      have g2 : decide (0 < i) = false := by simp; omega
      have hput := found_down (x := x) HSO.out hi HALL.out (fun h => absurd h (by omega))
      have HPUT := Lib.hid hput
      clear h0 hput
      go_wp2_with fail
      refine wp_region_E (fun w9 => Below wr.heap.size wr w9) [(0, 0), (1, 0), (2, 0), (3, 1), (4, 0), (5, 0), (6, 0), (7, 0), (8, 1), (9, 2), (10, 0)] (by kernel_rfl) (by kernel_rfl) (fun KK hKK => ?_)
      simp only [beside, List.filterMap_cons, List.filterMap_nil, List.getElem?_toArray, List.getElem?_cons_zero, List.getElem?_cons_succ, Option.map_some]
      repeat (first | (refine wpX_w ?_ (Or.inl ⟨by rfl, fun w9 => ?_⟩) ?_; rotate_left 1; go_simp; with_reducible rfl; simp only [Act.put, List.setIfInBounds_toArray, List.set_cons_zero, List.set_cons_succ]) | (refine wpX_l ?_ (((Below.refl _ _).drew)) (Or.inl ⟨by rfl, fun w9 hw9 => ?_⟩) ?_; rotate_left 1; obtain ⟨hc9, hf9⟩ := bcell hw9; go_simp; with_reducible rfl; simp only [Act.put, List.setIfInBounds_toArray, List.set_cons_zero, List.set_cons_succ]) | (refine wpX_w undef (Or.inr ⟨by rfl, rfl⟩) ?_; simp only [Act.put, List.setIfInBounds_toArray, List.set_cons_zero, List.set_cons_succ]) | (refine wpX_l undef (((Below.refl _ _).drew)) (Or.inr ⟨by rfl, rfl⟩) ?_; simp only [Act.put, List.setIfInBounds_toArray, List.set_cons_zero, List.set_cons_succ]))
      refine wpX_e (by kernel_rfl) (fun K9 hK9 => ?_)
      go_simp
      refine hK9 _ _ ?_
      clear hK9 K9
      repeat (first | (refine wpX_w ?_ (Or.inl ⟨by rfl, fun w9 => ?_⟩) ?_; rotate_left 1; go_simp; with_reducible rfl; simp only [Act.put, List.setIfInBounds_toArray, List.set_cons_zero, List.set_cons_succ]) | (refine wpX_l ?_ (((Below.refl _ _).drew)) (Or.inl ⟨by rfl, fun w9 hw9 => ?_⟩) ?_; rotate_left 1; obtain ⟨hc9, hf9⟩ := bcell hw9; go_simp; with_reducible rfl; simp only [Act.put, List.setIfInBounds_toArray, List.set_cons_zero, List.set_cons_succ]) | (refine wpX_w undef (Or.inr ⟨by rfl, rfl⟩) ?_; simp only [Act.put, List.setIfInBounds_toArray, List.set_cons_zero, List.set_cons_succ]) | (refine wpX_l undef (((Below.refl _ _).drew)) (Or.inr ⟨by rfl, rfl⟩) ?_; simp only [Act.put, List.setIfInBounds_toArray, List.set_cons_zero, List.set_cons_succ]))
      refine wpX_nil ?_
      simp only [OnlyN_normal]
      refine hKK _ _ ?_
      clear hKK KK
      go_wp2_with fail
      refine wp_region_E (fun w9 => Below wr.heap.size wr w9) [(0, 0), (1, 0), (2, 0), (3, 0), (4, 0), (5, 0), (6, 0), (7, 1), (8, 1), (9, 2), (10, 0)] (by kernel_rfl) (by kernel_rfl) (fun KK hKK => ?_)
      simp only [beside, List.filterMap_cons, List.filterMap_nil, List.getElem?_toArray, List.getElem?_cons_zero, List.getElem?_cons_succ, Option.map_some]
      repeat (first | (refine wpX_w ?_ (Or.inl ⟨by rfl, fun w9 => ?_⟩) ?_; rotate_left 1; go_simp; with_reducible rfl; simp only [Act.put, List.setIfInBounds_toArray, List.set_cons_zero, List.set_cons_succ]) | (refine wpX_l ?_ (((Below.refl _ _).drew.drew)) (Or.inl ⟨by rfl, fun w9 hw9 => ?_⟩) ?_; rotate_left 1; obtain ⟨hc9, hf9⟩ := bcell hw9; go_simp; with_reducible rfl; simp only [Act.put, List.setIfInBounds_toArray, List.set_cons_zero, List.set_cons_succ]) | (refine wpX_w undef (Or.inr ⟨by rfl, rfl⟩) ?_; simp only [Act.put, List.setIfInBounds_toArray, List.set_cons_zero, List.set_cons_succ]) | (refine wpX_l undef (((Below.refl _ _).drew.drew)) (Or.inr ⟨by rfl, rfl⟩) ?_; simp only [Act.put, List.setIfInBounds_toArray, List.set_cons_zero, List.set_cons_succ]))
      refine wpX_e (by kernel_rfl) (fun K9 hK9 => ?_)
      go_simp
      refine hK9 _ _ ?_
      clear hK9 K9
      repeat (first | (refine wpX_w ?_ (Or.inl ⟨by rfl, fun w9 => ?_⟩) ?_; rotate_left 1; go_simp; with_reducible rfl; simp only [Act.put, List.setIfInBounds_toArray, List.set_cons_zero, List.set_cons_succ]) | (refine wpX_l ?_ (((Below.refl _ _).drew.drew)) (Or.inl ⟨by rfl, fun w9 hw9 => ?_⟩) ?_; rotate_left 1; obtain ⟨hc9, hf9⟩ := bcell hw9; go_simp; with_reducible rfl; simp only [Act.put, List.setIfInBounds_toArray, List.set_cons_zero, List.set_cons_succ]) | (refine wpX_w undef (Or.inr ⟨by rfl, rfl⟩) ?_; simp only [Act.put, List.setIfInBounds_toArray, List.set_cons_zero, List.set_cons_succ]) | (refine wpX_l undef (((Below.refl _ _).drew.drew)) (Or.inr ⟨by rfl, rfl⟩) ?_; simp only [Act.put, List.setIfInBounds_toArray, List.set_cons_zero, List.set_cons_succ]))
      refine wpX_nil ?_
      simp only [OnlyN_normal]
      refine hKK _ _ ?_
      clear hKK KK
      have HBw1 := Lib.hid (HBw.out.drew.drew)
      have hXr1 := HXr.out.drew.drew
      clear y0 y1 y2 y3 y4 y5 y6 y7 y8 y9 y10 y11 g1 g2
      obtain ⟨W1, hW1⟩ : ∃ W1, W1 = wr.drew.drew := ⟨_, rfl⟩
      have hBW : Below w.heap.size w W1 := by rw [hW1]; exact HBw1.out
      have x0 : W1.cell? ⟨w.heap.size, 0, none⟩ = some (.int .i64 x.id.kind) := by rw [hW1]; exact (hXr1.cell 0).trans rfl
      have x1 : W1.cell? ⟨w.heap.size, 1, none⟩ = some (.string x.id.text) := by rw [hW1]; exact (hXr1.cell 1).trans rfl
      have x2 : W1.cell? ⟨w.heap.size, 2, none⟩ = some (.int .i64 x.id.n) := by rw [hW1]; exact (hXr1.cell 2).trans rfl
      have x3 : W1.cell? ⟨w.heap.size, 3, none⟩ = some (.int .i64 x.attr.kind) := by rw [hW1]; exact (hXr1.cell 3).trans rfl
      have x4 : W1.cell? ⟨w.heap.size, 4, none⟩ = some (.string x.attr.text) := by rw [hW1]; exact (hXr1.cell 4).trans rfl
      have x5 : W1.cell? ⟨w.heap.size, 5, none⟩ = some (.int .i64 x.attr.n) := by rw [hW1]; exact (hXr1.cell 5).trans rfl
      have x6 : W1.cell? ⟨w.heap.size, 6, none⟩ = some (.int .i64 x.value.kind) := by rw [hW1]; exact (hXr1.cell 6).trans rfl
      have x7 : W1.cell? ⟨w.heap.size, 7, none⟩ = some (.string x.value.text) := by rw [hW1]; exact (hXr1.cell 7).trans rfl
      have x8 : W1.cell? ⟨w.heap.size, 8, none⟩ = some (.int .i64 x.value.n) := by rw [hW1]; exact (hXr1.cell 8).trans rfl
      have x9 : W1.cell? ⟨w.heap.size, 9, none⟩ = some (.bool x.acc) := by rw [hW1]; exact (hXr1.cell 9).trans rfl
      have x10 : W1.cell? ⟨w.heap.size, 10, none⟩ = some (.bool x.goal) := by rw [hW1]; exact (hXr1.cell 10).trans rfl
      have x11 : W1.cell? ⟨w.heap.size, 11, none⟩ = some (.int .i64 x.tag) := by rw [hW1]; exact (hXr1.cell 11).trans rfl
      have hxl : w.heap.size < W1.heap.size := by rw [hW1]; exact hXr1.lt
      have hA : i < l.length → (if c = i then A else A.map (·.add (i * 12))) = (if c = i then A else A.map (·.add (i * 12))) := fun _ => rfl
      rw [← hW1]
      clear hW1
      have hn1 : 0 < i → ∃ ad, A = some ad ∧ ∀ j u, ((l.take i).flatMap Elem.cells)[j]? = some u → W1.cell? (ad.add j) = some u := fun h => ((HRD.out.new_ hBW).prefix_ i).news Elem.cells_length (by omega) (by simp; omega)
      have hl1 : ((l.take i).flatMap Elem.cells).length = i * 12 := by rw [flat_length Elem.cells_length, List.length_take, Nat.min_eq_left hi]
      have hl3 : ((l.drop i).flatMap Elem.cells).length = (l.length - i) * 12 := by rw [flat_length Elem.cells_length, List.length_drop]
      have HBW := Lib.hid hBW
      have HN1 := Lib.hid hn1
      have HL1 := Lib.hid hl1
      have HL3 := Lib.hid hl3
      have HA45 := Lib.hid hA
      clear hBW hn1 hl1 hl3 hA
      go_wp2_with (first
        | (at_builtin; refine wpList_append_src W1 rfl (.const (.slice none 0 0)) (.tmp 36) 68 rfl 72 i0 _ 12 112 Try.underlying68 hi0 hz0 hz1 hz2 rfl (by omega) (.slice none 0 0) 0 [] rfl (owns_nil W1 0 _ _) A i c ((l.take i).flatMap Elem.cells) rfl HL1.out HN1.out (Elem.oneAll _) (by unfold maxLen; omega) (by omega) ?_; intro v1 w2 hown1 hg1 hnil1 hat1;
            rw [Nat.zero_add, List.nil_append] at hown1;
            have z0 := hg1.cell x0 (by simp [Value.ownBlock]);
            have z1 := hg1.cell x1 (by simp [Value.ownBlock]);
            have z2 := hg1.cell x2 (by simp [Value.ownBlock]);
            have z3 := hg1.cell x3 (by simp [Value.ownBlock]);
            have z4 := hg1.cell x4 (by simp [Value.ownBlock]);
            have z5 := hg1.cell x5 (by simp [Value.ownBlock]);
            have z6 := hg1.cell x6 (by simp [Value.ownBlock]);
            have z7 := hg1.cell x7 (by simp [Value.ownBlock]);
            have z8 := hg1.cell x8 (by simp [Value.ownBlock]);
            have z9 := hg1.cell x9 (by simp [Value.ownBlock]);
            have z10 := hg1.cell x10 (by simp [Value.ownBlock]);
            have z11 := hg1.cell x11 (by simp [Value.ownBlock]);
            have HB2 := Lib.hid (HBW.out.grown hg1 (by have := HBW.out.size; omega) (fun k hk => by simp [Value.ownBlock] at hk));
            have HG1 := Lib.hid hg1;
            have HO1 := Lib.hid hown1;
            have HAT1 := Lib.hid hat1;
            clear hg1 hown1 hat1 hnil1 x0 x1 x2 x3 x4 x5 x6 x7 x8 x9 x10 x11)
        | (at_builtin; refine wpList_append_src (w2.alloc (.cells #[.int .i64 x.id.kind, .string x.id.text, .int .i64 x.id.n, .int .i64 x.attr.kind, .string x.attr.text, .int .i64 x.attr.n, .int .i64 x.value.kind, .string x.value.text, .int .i64 x.value.n, .bool x.acc, .bool x.goal, .int .i64 x.tag] 72)) rfl (.tmp 38) (.tmp 40) 68 rfl 72 i0 _ 12 112 Try.underlying68 hi0 hz0 hz1 hz2 rfl (by omega) v1 i ((l.take i).flatMap Elem.cells) rfl (ownsRow_new HO1.out ((Below.refl _ _).alloc (Nat.le_refl _) _)) (some ⟨w2.heap.size, 0, none⟩) 1 1 (Elem.cells x) rfl rfl (fun _ => ⟨_, rfl, World.news_of_block (heap_alloc_new _ _)⟩) (Elem.one x) (by unfold maxLen; omega) (by omega) ?_; intro v2 w3 hown2 hg2 hnil2 hat2;
            have hv1 := fresh_own (B := w.heap.size) HAT1.out (fun k hk => by simp [Value.ownBlock] at hk) HBW.out.size;
            have HB3 := Lib.hid ((HB2.out.alloc HB2.out.size (.cells #[.int .i64 x.id.kind, .string x.id.text, .int .i64 x.id.n, .int .i64 x.attr.kind, .string x.attr.text, .int .i64 x.attr.n, .int .i64 x.value.kind, .string x.value.text, .int .i64 x.value.n, .bool x.acc, .bool x.goal, .int .i64 x.tag] 72)).grown hg2 (by have := HB2.out.size; simp; omega) hv1);
            have hv2 := fresh_own (B := w.heap.size) hat2 hv1 (by have := HB2.out.size; simp; omega);
            have HV2 := Lib.hid hv2;
            have HO2 := Lib.hid hown2;
            clear hg2 hown2 hat2 hnil2 hv1 hv2 z0 z1 z2 z3 z4 z5 z6 z7 z8 z9 z10 z11)
        | (at_builtin; refine wpList_append_src w3 rfl (.tmp 42) (.tmp 45) 68 rfl 72 i0 _ 12 112 Try.underlying68 hi0 hz0 hz1 hz2 rfl (by omega) v2 (i + 1) ((l.take i).flatMap Elem.cells ++ Elem.cells x) rfl HO2.out (if c = i then A else A.map (·.add (i * 12))) (l.length - i) (c - i) ((l.drop i).flatMap Elem.cells) rfl HL3.out (suffix_newsE (HRD.out.new_ HB3.out) hi HA45.out) (Elem.oneAll _) (by unfold maxLen; omega) (by omega) ?_; intro v3 w4 hown3 hg3 hnil3 hat3;
            have HB4 := Lib.hid (HB3.out.grown hg3 (by have := HB3.out.size; omega) HV2.out);
            have HV3 := Lib.hid (fresh_own (B := w.heap.size) hat3 HV2.out HB3.out.size);
            have HO3 := Lib.hid hown3;
            clear hg3 hown3 hat3 hnil3))
      all_goals
        go_ret
        obtain ⟨A', c', hv, hr, ha⟩ := rput_endE (w := w) HPUT.out hi HO3.out HV3.out
        exact ⟨A', c', by rw [← hv]; rfl, hr, .inr ha, HB4.out⟩

    · obtain ⟨j, hij⟩ : ∃ j, i = j + 1 := ⟨i - 1, by omega⟩
      have hjl : j < l.length := by omega
      have g1 : decide ((0 : Int) < (i : Int)) = true := by simp; omega
      have g2 : decide (0 < i) = true := by simp; omega
      have v1 : IntKind.i64.wrap ((i : Int) - 1) = (j : Int) := by rw [show (i : Int) - 1 = (j : Int) by omega]; exact IntWalk.i64_in _ (by omega)
      have b1 : (0 : Int) ≤ (j : Int) := by omega
      have b2 : (j : Int) < (l.length : Int) := by omega
      obtain ⟨y, hy⟩ : ∃ y, y = l[j] := ⟨_, rfl⟩
      obtain ⟨g, off, rfl, hg, q0, q1, q2, q3, q4, q5, q6, q7, q8, q9, q10, q11⟩ := elem_at (HRD.out.new_ HBw.out) hjl
      rw [← hy] at q0 q1 q2 q3 q4 q5 q6 q7 q8 q9 q10 q11
      have HY := Lib.hid hy
      have HIJ := Lib.hid hij
      clear hy h0 hij
      go_wp2_with fail
      refine wp_region_E (fun w9 => Below wr.heap.size wr w9) [(0, 0), (1, 0), (2, 0), (3, 1), (4, 0), (5, 0), (6, 0), (7, 0), (8, 1), (9, 2), (10, 0)] (by kernel_rfl) (by kernel_rfl) (fun KK hKK => ?_)
      simp only [beside, List.filterMap_cons, List.filterMap_nil, List.getElem?_toArray, List.getElem?_cons_zero, List.getElem?_cons_succ, Option.map_some]
      repeat (first | (refine wpX_w ?_ (Or.inl ⟨by rfl, fun w9 => ?_⟩) ?_; rotate_left 1; go_simp; with_reducible rfl; simp only [Act.put, List.setIfInBounds_toArray, List.set_cons_zero, List.set_cons_succ]) | (refine wpX_l ?_ (((Below.refl _ _).drew)) (Or.inl ⟨by rfl, fun w9 hw9 => ?_⟩) ?_; rotate_left 1; obtain ⟨hc9, hf9⟩ := bcell hw9; go_simp; with_reducible rfl; simp only [Act.put, List.setIfInBounds_toArray, List.set_cons_zero, List.set_cons_succ]) | (refine wpX_w undef (Or.inr ⟨by rfl, rfl⟩) ?_; simp only [Act.put, List.setIfInBounds_toArray, List.set_cons_zero, List.set_cons_succ]) | (refine wpX_l undef (((Below.refl _ _).drew)) (Or.inr ⟨by rfl, rfl⟩) ?_; simp only [Act.put, List.setIfInBounds_toArray, List.set_cons_zero, List.set_cons_succ]))
      refine wpX_e (by kernel_rfl) (fun K9 hK9 => ?_)
      go_simp
      refine (beforeE_is x y _).mono ?_
      rintro e w1 ⟨rfl, hb1⟩
      have HB1 := Lib.hid ((Below.refl wr.heap.size wr).drew.trans (hb1.mono (by simp)))
      have hzb1 := HB1.out.size
      clear hb1
      refine hK9 _ _ ?_
      clear hK9 K9
      repeat (first | (refine wpX_w ?_ (Or.inl ⟨by rfl, fun w9 => ?_⟩) ?_; rotate_left 1; go_simp; with_reducible rfl; simp only [Act.put, List.setIfInBounds_toArray, List.set_cons_zero, List.set_cons_succ]) | (refine wpX_l ?_ (((Below.refl _ _).drew)) (Or.inl ⟨by rfl, fun w9 hw9 => ?_⟩) ?_; rotate_left 1; obtain ⟨hc9, hf9⟩ := bcell hw9; go_simp; with_reducible rfl; simp only [Act.put, List.setIfInBounds_toArray, List.set_cons_zero, List.set_cons_succ]) | (refine wpX_w undef (Or.inr ⟨by rfl, rfl⟩) ?_; simp only [Act.put, List.setIfInBounds_toArray, List.set_cons_zero, List.set_cons_succ]) | (refine wpX_l undef (((Below.refl _ _).drew)) (Or.inr ⟨by rfl, rfl⟩) ?_; simp only [Act.put, List.setIfInBounds_toArray, List.set_cons_zero, List.set_cons_succ]))
      refine wpX_nil ?_
      simp only [OnlyN_normal]
      refine hKK _ _ ?_
      clear hKK KK
      by_cases hc : cmpElem x y < 0
      · have HC := Lib.hid hc
        clear y0 y1 y2 y3 y4 y5 y6 y7 y8 y9 y10 y11 q0 q1 q2 q3 q4 q5 q6 q7 q8 q9 q10 q11
        go_wp2_with fail
        go_roundw
        case rel =>
          refine ⟨j, rfl, by omega, fun k h hk => ?_, HB.out.trans (HB1.out.mono hzr)⟩
          rcases Nat.lt_or_ge j k with h3 | h3
          · exact HALL.out k h (by have := HIJ.out; omega)
          · obtain rfl : k = j := by omega
            rw [← HY.out]
            exact (tc_elem.symm _ _).1 HC.out
        case measure => have := HIJ.out; simp [intOf] <;> omega
      · have HC := Lib.hid hc
        have hXr1 := HXr.out.new_ HB1.out
        clear y0 y1 y2 y3 y4 y5 y6 y7 y8 y9 y10 y11 q0 q1 q2 q3 q4 q5 q6 q7 q8 q9 q10 q11
        obtain ⟨g', off', e, hg', q0, q1, q2, q3, q4, q5, q6, q7, q8, q9, q10, q11⟩ := elem_at (HRD.out.new_ (HBw.out.trans (HB1.out.mono (by omega)))) hjl
        cases e
        rw [← HY.out] at q0 q1 q2 q3 q4 q5 q6 q7 q8 q9 q10 q11
        have y0 : w1.cell? ⟨w.heap.size, 0, none⟩ = some (.int .i64 x.id.kind) := (hXr1.cell 0).trans rfl
        have y1 : w1.cell? ⟨w.heap.size, 1, none⟩ = some (.string x.id.text) := (hXr1.cell 1).trans rfl
        have y2 : w1.cell? ⟨w.heap.size, 2, none⟩ = some (.int .i64 x.id.n) := (hXr1.cell 2).trans rfl
        have y3 : w1.cell? ⟨w.heap.size, 3, none⟩ = some (.int .i64 x.attr.kind) := (hXr1.cell 3).trans rfl
        have y4 : w1.cell? ⟨w.heap.size, 4, none⟩ = some (.string x.attr.text) := (hXr1.cell 4).trans rfl
        have y5 : w1.cell? ⟨w.heap.size, 5, none⟩ = some (.int .i64 x.attr.n) := (hXr1.cell 5).trans rfl
        have y6 : w1.cell? ⟨w.heap.size, 6, none⟩ = some (.int .i64 x.value.kind) := (hXr1.cell 6).trans rfl
        have y7 : w1.cell? ⟨w.heap.size, 7, none⟩ = some (.string x.value.text) := (hXr1.cell 7).trans rfl
        have y8 : w1.cell? ⟨w.heap.size, 8, none⟩ = some (.int .i64 x.value.n) := (hXr1.cell 8).trans rfl
        have y9 : w1.cell? ⟨w.heap.size, 9, none⟩ = some (.bool x.acc) := (hXr1.cell 9).trans rfl
        have y10 : w1.cell? ⟨w.heap.size, 10, none⟩ = some (.bool x.goal) := (hXr1.cell 10).trans rfl
        have y11 : w1.cell? ⟨w.heap.size, 11, none⟩ = some (.int .i64 x.tag) := (hXr1.cell 11).trans rfl
        have hxl1 := hXr1.lt
        have HXr1 := Lib.hid hXr1
        clear hXr1
        go_wp2_with fail
        refine wp_region_E (fun w9 => Below w1.heap.size w1 w9) [(0, 0), (1, 0), (2, 0), (3, 0), (4, 0), (5, 0), (6, 0), (7, 1), (8, 1), (9, 2), (10, 0)] (by kernel_rfl) (by kernel_rfl) (fun KK hKK => ?_)
        simp only [beside, List.filterMap_cons, List.filterMap_nil, List.getElem?_toArray, List.getElem?_cons_zero, List.getElem?_cons_succ, Option.map_some]
        repeat (first | (refine wpX_w ?_ (Or.inl ⟨by rfl, fun w9 => ?_⟩) ?_; rotate_left 1; go_simp; with_reducible rfl; simp only [Act.put, List.setIfInBounds_toArray, List.set_cons_zero, List.set_cons_succ]) | (refine wpX_l ?_ (((Below.refl _ _).drew)) (Or.inl ⟨by rfl, fun w9 hw9 => ?_⟩) ?_; rotate_left 1; obtain ⟨hc9, hf9⟩ := bcell hw9; go_simp; with_reducible rfl; simp only [Act.put, List.setIfInBounds_toArray, List.set_cons_zero, List.set_cons_succ]) | (refine wpX_w undef (Or.inr ⟨by rfl, rfl⟩) ?_; simp only [Act.put, List.setIfInBounds_toArray, List.set_cons_zero, List.set_cons_succ]) | (refine wpX_l undef (((Below.refl _ _).drew)) (Or.inr ⟨by rfl, rfl⟩) ?_; simp only [Act.put, List.setIfInBounds_toArray, List.set_cons_zero, List.set_cons_succ]))
        refine wpX_e (by kernel_rfl) (fun K9 hK9 => ?_)
        go_simp
        refine (one_is y x _).mono ?_
        rintro e w2 ⟨rfl, hb2⟩
        have HB2 := Lib.hid (HB1.out.trans ((Below.refl w1.heap.size w1).drew.trans (hb2.mono (by simp)) |>.mono hzb1))
        have hzb2 := HB2.out.size
        clear hb2
        refine hK9 _ _ ?_
        clear hK9 K9
        repeat (first | (refine wpX_w ?_ (Or.inl ⟨by rfl, fun w9 => ?_⟩) ?_; rotate_left 1; go_simp; with_reducible rfl; simp only [Act.put, List.setIfInBounds_toArray, List.set_cons_zero, List.set_cons_succ]) | (refine wpX_l ?_ (((Below.refl _ _).drew)) (Or.inl ⟨by rfl, fun w9 hw9 => ?_⟩) ?_; rotate_left 1; obtain ⟨hc9, hf9⟩ := bcell hw9; go_simp; with_reducible rfl; simp only [Act.put, List.setIfInBounds_toArray, List.set_cons_zero, List.set_cons_succ]) | (refine wpX_w undef (Or.inr ⟨by rfl, rfl⟩) ?_; simp only [Act.put, List.setIfInBounds_toArray, List.set_cons_zero, List.set_cons_succ]) | (refine wpX_l undef (((Below.refl _ _).drew)) (Or.inr ⟨by rfl, rfl⟩) ?_; simp only [Act.put, List.setIfInBounds_toArray, List.set_cons_zero, List.set_cons_succ]))
        refine wpX_nil ?_
        simp only [OnlyN_normal]
        refine hKK _ _ ?_
        clear hKK KK
        have HBw2 := Lib.hid (HBw.out.trans (HB2.out.mono (by omega)))
        have hXr2 := HXr.out.new_ HB2.out
        clear y0 y1 y2 y3 y4 y5 y6 y7 y8 y9 y10 y11 q0 q1 q2 q3 q4 q5 q6 q7 q8 q9 q10 q11
        cases ho : oneE y x
        · have HPUT := Lib.hid (found_down (x := x) HSO.out hi HALL.out (fun h => by
            have e : (l[i - 1]'(by omega)) = y := by rw [HY.out]; congr 1; have := HIJ.out; omega
            rw [e]
            have h1 := HC.out
            have h2 : cmpElem y x ≠ 0 := of_decide_eq_false ho
            have h4 : ¬ 0 < cmpElem y x := fun h => by have := (tc_elem.symm x y).2 h; omega
            omega))
          obtain ⟨A, hAA⟩ : ∃ A, A = (some ⟨g, off, none⟩ : Option Addr) := ⟨_, rfl⟩
          rw [← hAA] at HRD ⊢
          clear ho hAA
          obtain ⟨W1, hW1⟩ : ∃ W1, W1 = w2 := ⟨_, rfl⟩
          have hBW : Below w.heap.size w W1 := by rw [hW1]; exact HBw2.out
          have x0 : W1.cell? ⟨w.heap.size, 0, none⟩ = some (.int .i64 x.id.kind) := by rw [hW1]; exact (hXr2.cell 0).trans rfl
          have x1 : W1.cell? ⟨w.heap.size, 1, none⟩ = some (.string x.id.text) := by rw [hW1]; exact (hXr2.cell 1).trans rfl
          have x2 : W1.cell? ⟨w.heap.size, 2, none⟩ = some (.int .i64 x.id.n) := by rw [hW1]; exact (hXr2.cell 2).trans rfl
          have x3 : W1.cell? ⟨w.heap.size, 3, none⟩ = some (.int .i64 x.attr.kind) := by rw [hW1]; exact (hXr2.cell 3).trans rfl
          have x4 : W1.cell? ⟨w.heap.size, 4, none⟩ = some (.string x.attr.text) := by rw [hW1]; exact (hXr2.cell 4).trans rfl
          have x5 : W1.cell? ⟨w.heap.size, 5, none⟩ = some (.int .i64 x.attr.n) := by rw [hW1]; exact (hXr2.cell 5).trans rfl
          have x6 : W1.cell? ⟨w.heap.size, 6, none⟩ = some (.int .i64 x.value.kind) := by rw [hW1]; exact (hXr2.cell 6).trans rfl
          have x7 : W1.cell? ⟨w.heap.size, 7, none⟩ = some (.string x.value.text) := by rw [hW1]; exact (hXr2.cell 7).trans rfl
          have x8 : W1.cell? ⟨w.heap.size, 8, none⟩ = some (.int .i64 x.value.n) := by rw [hW1]; exact (hXr2.cell 8).trans rfl
          have x9 : W1.cell? ⟨w.heap.size, 9, none⟩ = some (.bool x.acc) := by rw [hW1]; exact (hXr2.cell 9).trans rfl
          have x10 : W1.cell? ⟨w.heap.size, 10, none⟩ = some (.bool x.goal) := by rw [hW1]; exact (hXr2.cell 10).trans rfl
          have x11 : W1.cell? ⟨w.heap.size, 11, none⟩ = some (.int .i64 x.tag) := by rw [hW1]; exact (hXr2.cell 11).trans rfl
          have hxl : w.heap.size < W1.heap.size := by rw [hW1]; exact hXr2.lt
          have hA : i < l.length → (if c = i then A else A.map (·.add (i * 12))) = (if c = i then A else A.map (·.add (i * 12))) := fun _ => rfl
          rw [← hW1]
          clear hW1
          have hn1 : 0 < i → ∃ ad, A = some ad ∧ ∀ j u, ((l.take i).flatMap Elem.cells)[j]? = some u → W1.cell? (ad.add j) = some u := fun h => ((HRD.out.new_ hBW).prefix_ i).news Elem.cells_length (by omega) (by simp; omega)
          have hl1 : ((l.take i).flatMap Elem.cells).length = i * 12 := by rw [flat_length Elem.cells_length, List.length_take, Nat.min_eq_left hi]
          have hl3 : ((l.drop i).flatMap Elem.cells).length = (l.length - i) * 12 := by rw [flat_length Elem.cells_length, List.length_drop]
          have HBW := Lib.hid hBW
          have HN1 := Lib.hid hn1
          have HL1 := Lib.hid hl1
          have HL3 := Lib.hid hl3
          have HA45 := Lib.hid hA
          clear hBW hn1 hl1 hl3 hA
          go_wp2_with (first
            | (at_builtin; refine wpList_append_src W1 rfl (.const (.slice none 0 0)) (.tmp 36) 68 rfl 72 i0 _ 12 112 Try.underlying68 hi0 hz0 hz1 hz2 rfl (by omega) (.slice none 0 0) 0 [] rfl (owns_nil W1 0 _ _) A i c ((l.take i).flatMap Elem.cells) rfl HL1.out HN1.out (Elem.oneAll _) (by unfold maxLen; omega) (by omega) ?_; intro v1 w2 hown1 hg1 hnil1 hat1;
                rw [Nat.zero_add, List.nil_append] at hown1;
                have z0 := hg1.cell x0 (by simp [Value.ownBlock]);
                have z1 := hg1.cell x1 (by simp [Value.ownBlock]);
                have z2 := hg1.cell x2 (by simp [Value.ownBlock]);
                have z3 := hg1.cell x3 (by simp [Value.ownBlock]);
                have z4 := hg1.cell x4 (by simp [Value.ownBlock]);
                have z5 := hg1.cell x5 (by simp [Value.ownBlock]);
                have z6 := hg1.cell x6 (by simp [Value.ownBlock]);
                have z7 := hg1.cell x7 (by simp [Value.ownBlock]);
                have z8 := hg1.cell x8 (by simp [Value.ownBlock]);
                have z9 := hg1.cell x9 (by simp [Value.ownBlock]);
                have z10 := hg1.cell x10 (by simp [Value.ownBlock]);
                have z11 := hg1.cell x11 (by simp [Value.ownBlock]);
                have HB2 := Lib.hid (HBW.out.grown hg1 (by have := HBW.out.size; omega) (fun k hk => by simp [Value.ownBlock] at hk));
                have HG1 := Lib.hid hg1;
                have HO1 := Lib.hid hown1;
                have HAT1 := Lib.hid hat1;
                clear hg1 hown1 hat1 hnil1 x0 x1 x2 x3 x4 x5 x6 x7 x8 x9 x10 x11)
            | (at_builtin; refine wpList_append_src (w2.alloc (.cells #[.int .i64 x.id.kind, .string x.id.text, .int .i64 x.id.n, .int .i64 x.attr.kind, .string x.attr.text, .int .i64 x.attr.n, .int .i64 x.value.kind, .string x.value.text, .int .i64 x.value.n, .bool x.acc, .bool x.goal, .int .i64 x.tag] 72)) rfl (.tmp 38) (.tmp 40) 68 rfl 72 i0 _ 12 112 Try.underlying68 hi0 hz0 hz1 hz2 rfl (by omega) v1 i ((l.take i).flatMap Elem.cells) rfl (ownsRow_new HO1.out ((Below.refl _ _).alloc (Nat.le_refl _) _)) (some ⟨w2.heap.size, 0, none⟩) 1 1 (Elem.cells x) rfl rfl (fun _ => ⟨_, rfl, World.news_of_block (heap_alloc_new _ _)⟩) (Elem.one x) (by unfold maxLen; omega) (by omega) ?_; intro v2 w3 hown2 hg2 hnil2 hat2;
                have hv1 := fresh_own (B := w.heap.size) HAT1.out (fun k hk => by simp [Value.ownBlock] at hk) HBW.out.size;
                have HB3 := Lib.hid ((HB2.out.alloc HB2.out.size (.cells #[.int .i64 x.id.kind, .string x.id.text, .int .i64 x.id.n, .int .i64 x.attr.kind, .string x.attr.text, .int .i64 x.attr.n, .int .i64 x.value.kind, .string x.value.text, .int .i64 x.value.n, .bool x.acc, .bool x.goal, .int .i64 x.tag] 72)).grown hg2 (by have := HB2.out.size; simp; omega) hv1);
                have hv2 := fresh_own (B := w.heap.size) hat2 hv1 (by have := HB2.out.size; simp; omega);
                have HV2 := Lib.hid hv2;
                have HO2 := Lib.hid hown2;
                clear hg2 hown2 hat2 hnil2 hv1 hv2 z0 z1 z2 z3 z4 z5 z6 z7 z8 z9 z10 z11)
            | (at_builtin; refine wpList_append_src w3 rfl (.tmp 42) (.tmp 45) 68 rfl 72 i0 _ 12 112 Try.underlying68 hi0 hz0 hz1 hz2 rfl (by omega) v2 (i + 1) ((l.take i).flatMap Elem.cells ++ Elem.cells x) rfl HO2.out (if c = i then A else A.map (·.add (i * 12))) (l.length - i) (c - i) ((l.drop i).flatMap Elem.cells) rfl HL3.out (suffix_newsE (HRD.out.new_ HB3.out) hi HA45.out) (Elem.oneAll _) (by unfold maxLen; omega) (by omega) ?_; intro v3 w4 hown3 hg3 hnil3 hat3;
                have HB4 := Lib.hid (HB3.out.grown hg3 (by have := HB3.out.size; omega) HV2.out);
                have HV3 := Lib.hid (fresh_own (B := w.heap.size) hat3 HV2.out HB3.out.size);
                have HO3 := Lib.hid hown3;
                clear hg3 hown3 hat3 hnil3))
          all_goals
            go_ret
            obtain ⟨A', c', hv, hr, ha⟩ := rput_endE (w := w) HPUT.out hi HO3.out HV3.out
            exact ⟨A', c', by rw [← hv]; rfl, hr, .inr ha, HB4.out⟩

        · have HO := Lib.hid (of_decide_eq_true ho)
          go_wp2_with fail
          go_ret
          have e : has cmpElem l x = true := has_iff.2 ⟨y, by rw [HY.out]; exact List.getElem_mem _, HO.out⟩
          rw [put_has e]
          exact ⟨_, c, rfl, HRD.out.new_ HBw2.out, .inl rfl, HBw2.out⟩
end Go.Proofs.Ythhhhjllpejpgaa
