/-
  The walk of the document's Put: a list in order, with one more.
-/
import Derived.Test.YthhhhjllpejpgaaRefBefore
import Derived.Test.YthhhhjllpejpgaaOpen
namespace Go.Proofs.Ythhhhjllpejpgaa
open Go.RowKit
attribute [local go_sem] eql_sym neq_sym

theorem RowRd.suffix {α : Type} {w : World} {size c : Nat} {cells : α → List Value} {A : Option Addr} {l : List α} (h : RowRd w size cells A c l) (i : Nat) (hi : i ≤ l.length) :
    RowRd w size cells (if c = i then A else A.map (·.add (i * size))) (c - i) (l.drop i) := by
  refine ⟨by simp; have := h.1; omega, by have := h.2.1; omega, fun h0 => ?_⟩
  rw [List.length_drop] at h0
  obtain ⟨b, off, rfl, hb, hc⟩ := h.2.2 (by omega)
  have h1 := h.1
  rw [if_neg (by omega)]
  refine ⟨b, off + i * size, by simp [Go.WideShapes.add_plain], hb, fun k hk j u hu => ?_⟩
  rw [List.length_drop] at hk
  have := hc (i + k) (by omega) j u (by rw [← hu]; simp)
  rw [Nat.add_mul] at this
  rw [← this]
  congr 2
  omega
theorem fresh_own {B n : Nat} {v v' : Value} (h : v'.ownBlock = v.ownBlock ∨ v'.ownBlock = some n) (hv : ∀ k, v.ownBlock = some k → B ≤ k) (hn : B ≤ n) : ∀ k, v'.ownBlock = some k → B ≤ k := by
  intro k hk
  rcases h with h | h
  · rw [h] at hk; exact hv k hk
  · rw [h] at hk; injection hk with hk; omega
theorem suffix_news {w : World} {A A' : Option Addr} {c i : Nat} {l : List Sym} (h : RowRd w 3 Sym.cells A c l) (hi : i ≤ l.length) (hA : i < l.length → A' = (if c = i then A else A.map (·.add (i * 3)))) :
    0 < l.length - i → ∃ ad, A' = some ad ∧ ∀ j u, ((l.drop i).flatMap Sym.cells)[j]? = some u → w.cell? (ad.add j) = some u := by
  intro h0
  rw [hA (by omega)]
  exact (h.suffix i hi).news Sym.cells_length (by omega) (by simp; omega)
theorem rput_end {w w4 : World} {l : List Sym} {x : Sym} {i : Nat} {v : Value} (hp : put cmpSym l x = l.take i ++ x :: l.drop i) (hi : i ≤ l.length)
    (ho : w4.ownsRow 0 27 3 v (i + 1 + (l.length - i)) ((l.take i).flatMap Sym.cells ++ Sym.cells x ++ (l.drop i).flatMap Sym.cells)) (hv : ∀ k, v.ownBlock = some k → w.heap.size ≤ k) :
    ∃ A' c', v = .slice A' (put cmpSym l x).length c' ∧ RowRd w4 3 Sym.cells A' c' (put cmpSym l x) ∧ AIn A' (fun k => w.heap.size ≤ k ∧ k < w4.heap.size) := by
  have e1 : i + 1 + (l.length - i) = (put cmpSym l x).length := by rw [hp]; simp; omega
  have e2 : (l.take i).flatMap Sym.cells ++ Sym.cells x ++ (l.drop i).flatMap Sym.cells = (put cmpSym l x).flatMap Sym.cells := by rw [hp]; simp
  rw [e1, e2] at ho
  obtain ⟨A', c', rfl, _⟩ := own_form2 ho
  refine ⟨A', c', rfl, ownsRow_rd Sym.cells_length ho, fun a ha => ?_⟩
  subst ha
  refine ⟨hv a.block rfl, ?_⟩
  rcases ownsRow_form ho with ⟨hv, _⟩ | ⟨g, cap, hv, _, _, hr, _⟩
  · cases hv
  · injection hv with hv; injection hv with hv; subst hv; exact hr.lt
/-- What the search finds, in a sorted list. -/
theorem found_at {l : List Sym} {x : Sym} {i : Nat} (hs : Srt cmpSym l) (hi : i ≤ l.length) (h1 : ∀ k, (h : k < l.length) → k < i → cmpSym l[k] x < 0) (h2 : ∀ (h : i < l.length), ¬ cmpSym l[i] x < 0) (h3 : ∀ (h : i < l.length), l[i] ≠ x) :
    has cmpSym l x = false ∧ put cmpSym l x = l.take i ++ x :: l.drop i := by
  have h4 : ∀ k, (h : k < l.length) → i ≤ k → 0 < cmpSym l[k] x := by
    intro k h hk
    have e0 : 0 < cmpSym (l[i]'(by omega)) x := by
      have e1 := h2 (by omega)
      have e2 : cmpSym (l[i]'(by omega)) x ≠ 0 := fun e => h3 (by omega) (cmpSym_eq.1 e)
      omega
    rcases Nat.lt_or_ge i k with hlt | hge
    · exact (tc_sym.symm _ _).1 (tc_sym.lt_trans ((tc_sym.symm _ _).2 e0) (hs.lt hlt h))
    · obtain rfl : k = i := by omega
      exact e0
  have h5 := (at_none h1 h4).2.2
  have h6 := rank_none hi h1 h4
  refine ⟨h5, ?_⟩
  rw [put_eq tc_sym hs h5, h6]
set_option maxRecDepth 100000 in
set_option maxHeartbeats 4000000 in
theorem rput_is (A : Option Addr) (c : Nat) (l : List Sym) (x : Sym) (w : World) (hrd : RowRd w 3 Sym.cells A c l) (hs : Srt cmpSym l) (hl : (l.length : Int) ≤ 100000000) :
    Calls Try.prog 18 #[.slice A l.length c, .agg #[.int .i64 x.kind, .string x.text, .int .i64 x.n]] w fun e w' => ∃ A' c', e = .returned (.slice A' (put cmpSym l x).length c') ∧ RowRd w' 3 Sym.cells A' c' (put cmpSym l x) ∧ (A' = A ∨ AIn A' (fun k => w.heap.size ≤ k ∧ k < w'.heap.size)) ∧ Below w.heap.size w w' := by
  obtain ⟨i0, hi0, hz0, hz1, hz2⟩ := info_parts info_Sym
  have HRD := Lib.hid hrd
  have HSO := Lib.hid hs
  have hlc := hrd.cap
  have hlcc := hrd.1
  clear hrd hs
  go_enter Try.func18, Try.ntmps18
  go_wp2_with fail
  obtain ⟨W0, hW0⟩ : ∃ W0, W0 = w.alloc (Obj.cells #[Value.int IntKind.i64 x.kind, Value.string x.text, Value.int IntKind.i64 x.n] 27) := ⟨_, rfl⟩
  have hB0 : Below w.heap.size w W0 := by rw [hW0]; exact (Below.refl _ _).alloc (Nat.le_refl _) _
  have hX0 : Blk W0 w.heap.size 27 #[.int .i64 x.kind, .string x.text, .int .i64 x.n] := by rw [hW0]; exact Blk.new _ _ _
  rw [← hW0]
  clear hW0
  have HB0 := Lib.hid hB0
  have HX0 := Lib.hid hX0
  clear hB0 hX0
  go_loopw [5] (fun s wr => ∃ i : Nat, s = .int .i64 i ∧ i ≤ l.length ∧ (∀ k, (h : k < l.length) → k < i → cmpSym l[k] x < 0) ∧ Below W0.heap.size W0 wr) (fun s wr => l.length - (intOf s).toNat)
  case atStart => exact ⟨0, rfl, Nat.zero_le _, fun k _ h => absurd h (by omega), Below.refl _ _⟩
  case round =>
    obtain ⟨i, rfl, hi, hall, hB⟩ := hrel
    have HALL := Lib.hid hall
    clear hall
    have tail : ∀ (wr : World), Below W0.heap.size W0 wr → True := fun _ _ => trivial
    by_cases hlt : i < l.length
    · have g1 : decide ((i : Int) < (l.length : Int)) = true := by simpa using hlt
      have hBw : Below w.heap.size w wr := HB0.out.trans (hB.mono HB0.out.size)
      obtain ⟨y, hy⟩ : ∃ y, y = l[i] := ⟨_, rfl⟩
      obtain ⟨g, off, rfl, hg, q0, q1, q2⟩ := sym_at (HRD.out.new_ hBw) hlt
      rw [← hy] at q0 q1 q2
      have hxr := HX0.out.new_ hB
      have hxl := hxr.lt
      have y0 := hxr.cell 0
      have y1 := hxr.cell 1
      have y2 := hxr.cell 2
      simp only [List.getElem?_toArray, List.getElem?_cons_zero, List.getElem?_cons_succ] at y0 y1 y2
      have HXR := Lib.hid hxr
      have HB := Lib.hid hB
      have HBw := Lib.hid hBw
      have HY := Lib.hid hy
      clear hB hBw hy hxr
      have b1 : (0 : Int) ≤ (i : Int) := by omega
      have b2 : (i : Int) < (l.length : Int) := by omega

      go_wp2_with fail
      go_region_held3 (fun w' => w'.cell? ⟨g, off + i * 3, none⟩ = some (.int .i64 y.kind) ∧ w'.cell? ⟨g, off + i * 3 + 1, none⟩ = some (.string y.text) ∧ w'.cell? ⟨g, off + i * 3 + 2, none⟩ = some (.int .i64 y.n) ∧ w'.cell? ⟨w.heap.size, 0, none⟩ = some (.int .i64 x.kind) ∧ w'.cell? ⟨w.heap.size, 1, none⟩ = some (.string x.text) ∧ w'.cell? ⟨w.heap.size, 2, none⟩ = some (.int .i64 x.n))
        (first | go_keep | (refine ⟨?_, ?_, ?_, ?_, ?_, ?_⟩ <;> exact (hb1.cell (by simpa using by assumption)).trans (by simp [*])))
        ((go_at_call 57; refine (before_is y x _).mono ?_; rintro e w1 ⟨rfl, hb1⟩))
      rename_i hHeld
      have HB1 := Lib.hid (Below.trans (HB.out.drew) (hb1.mono HB.out.size))
      have HBw1 := Lib.hid (Below.trans (HBw.out.drew) (hb1.mono HBw.out.size))
      clear hb1 q0 q1 q2 y0 y1 y2
      by_cases hc : cmpSym y x < 0
      · go_wp2_with fail
        go_roundw
        case rel =>
          refine ⟨i + 1, by go_num, by omega, fun k h hk => ?_, HB1.out⟩
          rcases Nat.lt_or_ge k i with h3 | h3
          · exact HALL.out k h h3
          · obtain rfl : k = i := by omega
            rw [← HY.out]; exact hc
        case measure => simp [intOf] <;> omega
      · have hXR1 := HX0.out.new_ HB1.out
        have y0 := hXR1.cell 0
        have y1 := hXR1.cell 1
        have y2 := hXR1.cell 2
        simp only [List.getElem?_toArray, List.getElem?_cons_zero, List.getElem?_cons_succ] at y0 y1 y2
        obtain ⟨q0, q1, q2, _⟩ := hHeld
        have hbe := eql_sym y x
        have HXR1 := Lib.hid hXR1
        clear hXR1
        by_cases he : y = x
        · have t2 : decide (y = x) = true := by simpa using he
          rw [t2] at hbe
          have HE := Lib.hid he
          clear he
          go_wp2_with fail
          go_quiet (fail)
          clear q0 q1 q2 y0 y1 y2
          go_wp2_with fail
          go_ret
          have e : has cmpSym l x = true := has_iff.2 ⟨y, by rw [HY.out]; exact List.getElem_mem _, cmpSym_eq.2 HE.out⟩
          rw [put_has e]
          exact ⟨_, c, rfl, HRD.out.new_ (Below.drewN' HBw1.out nq), .inl rfl, Below.drewN' HBw1.out nq⟩
        · have t2 : decide (y = x) = false := by simpa using he
          rw [t2] at hbe
          have hput := (found_at (x := x) HSO.out hi HALL.out (fun _ => by rw [← HY.out]; exact hc) (fun _ => by rw [← HY.out]; exact he)).2
          have HPUT := Lib.hid hput
          clear he hput
          go_wp2_with fail
          go_quiet (fail)
          clear q0 q1 q2
          have hxl1 : w.heap.size < w1.heap.size := Nat.lt_of_lt_of_le (HX0.out.lt) HB1.out.size
          obtain ⟨W1, hW1⟩ : ∃ W1, W1 = w1.drewN nq := ⟨_, rfl⟩
          have hBW : Below w.heap.size w W1 := by rw [hW1]; exact Below.drewN' HBw1.out nq
          have x0 : W1.cell? ⟨w.heap.size, 0, none⟩ = some (.int .i64 x.kind) := by rw [hW1]; exact y0
          have x1 : W1.cell? ⟨w.heap.size, 1, none⟩ = some (.string x.text) := by rw [hW1]; exact y1
          have x2 : W1.cell? ⟨w.heap.size, 2, none⟩ = some (.int .i64 x.n) := by rw [hW1]; exact y2
          have hxl : w.heap.size < W1.heap.size := by rw [hW1]; exact hxl1
          have hA : i < l.length → some (⟨g, off + i * 3, none⟩ : Addr) = (if c = i then some (⟨g, off, none⟩ : Addr) else (some (⟨g, off, none⟩ : Addr)).map (·.add (i * 3))) := fun _ => by rw [if_neg (by omega)]; simp [Go.WideShapes.add_plain]
          rw [← hW1]
          clear hW1 y0 y1 y2
          have hn1 : 0 < i → ∃ ad, (some (⟨g, off, none⟩ : Addr)) = some ad ∧ ∀ j u, ((l.take i).flatMap Sym.cells)[j]? = some u → W1.cell? (ad.add j) = some u := fun h => ((HRD.out.new_ hBW).prefix_ i).news Sym.cells_length (by omega) (by simp; omega)
          have hl1 : ((l.take i).flatMap Sym.cells).length = i * 3 := by rw [flat_length Sym.cells_length, List.length_take, Nat.min_eq_left hi]
          have hl3 : ((l.drop i).flatMap Sym.cells).length = (l.length - i) * 3 := by rw [flat_length Sym.cells_length, List.length_drop]
          have HBW := Lib.hid hBW
          have HN1 := Lib.hid hn1
          have HL1 := Lib.hid hl1
          have HL3 := Lib.hid hl3
          have HA45 := Lib.hid hA
          clear hBW hn1 hl1 hl3 hA
          go_wp2_with (first
            | (at_builtin; refine wpList_append_src W1 rfl (.const (.slice none 0 0)) (.tmp 36) 22 rfl 27 i0 _ 3 32 Try.underlying22 hi0 hz0 hz1 hz2 rfl (by omega) (.slice none 0 0) 0 [] rfl (owns_nil W1 0 _ _) (some (⟨g, off, none⟩ : Addr)) i c ((l.take i).flatMap Sym.cells) rfl HL1.out HN1.out (Sym.oneAll _) (by unfold maxLen; omega) (by omega) ?_; intro v1 w2 hown1 hg1 hnil1 hat1;
                rw [Nat.zero_add, List.nil_append] at hown1;
                have z0 := hg1.cell x0 (by simp [Value.ownBlock]);
                have z1 := hg1.cell x1 (by simp [Value.ownBlock]);
                have z2 := hg1.cell x2 (by simp [Value.ownBlock]);
                have HB2 := Lib.hid (HBW.out.grown hg1 (by have := HBW.out.size; omega) (fun k hk => by simp [Value.ownBlock] at hk));
                have HG1 := Lib.hid hg1;
                have HO1 := Lib.hid hown1;
                have HAT1 := Lib.hid hat1;
                clear hg1 hown1 hat1 hnil1 x0 x1 x2)
            | (at_builtin; refine wpList_append_src (w2.alloc (.cells #[.int .i64 x.kind, .string x.text, .int .i64 x.n] 27)) rfl (.tmp 38) (.tmp 40) 22 rfl 27 i0 _ 3 32 Try.underlying22 hi0 hz0 hz1 hz2 rfl (by omega) v1 i ((l.take i).flatMap Sym.cells) rfl (ownsRow_new HO1.out ((Below.refl _ _).alloc (Nat.le_refl _) _)) (some ⟨w2.heap.size, 0, none⟩) 1 1 (Sym.cells x) rfl rfl (fun _ => ⟨_, rfl, World.news_of_block (heap_alloc_new _ _)⟩) (Sym.one x) (by unfold maxLen; omega) (by omega) ?_; intro v2 w3 hown2 hg2 hnil2 hat2;
                have hv1 := fresh_own (B := w.heap.size) HAT1.out (fun k hk => by simp [Value.ownBlock] at hk) HBW.out.size;
                have HB3 := Lib.hid ((HB2.out.alloc HB2.out.size (.cells #[.int .i64 x.kind, .string x.text, .int .i64 x.n] 27)).grown hg2 (by have := HB2.out.size; simp; omega) hv1);
                have hv2 := fresh_own (B := w.heap.size) hat2 hv1 (by have := HB2.out.size; simp; omega);
                have HV2 := Lib.hid hv2;
                have HO2 := Lib.hid hown2;
                clear hg2 hown2 hat2 hnil2 hv1 hv2 z0 z1 z2)
            | (at_builtin; refine wpList_append_src w3 rfl (.tmp 42) (.tmp 45) 22 rfl 27 i0 _ 3 32 Try.underlying22 hi0 hz0 hz1 hz2 rfl (by omega) v2 (i + 1) ((l.take i).flatMap Sym.cells ++ Sym.cells x) rfl HO2.out (some (⟨g, off + i * 3, none⟩ : Addr)) (l.length - i) (c - i) ((l.drop i).flatMap Sym.cells) rfl HL3.out (suffix_news (HRD.out.new_ HB3.out) hi HA45.out) (Sym.oneAll _) (by unfold maxLen; omega) (by omega) ?_; intro v3 w4 hown3 hg3 hnil3 hat3;
                have HB4 := Lib.hid (HB3.out.grown hg3 (by have := HB3.out.size; omega) HV2.out);
                have HV3 := Lib.hid (fresh_own (B := w.heap.size) hat3 HV2.out HB3.out.size);
                have HO3 := Lib.hid hown3;
                clear hg3 hown3 hat3 hnil3))
          all_goals
            go_ret
            obtain ⟨A', c', hv, hr, ha⟩ := rput_end (w := w) HPUT.out hi HO3.out HV3.out
            exact ⟨A', c', by rw [← hv]; rfl, hr, .inr ha, HB4.out⟩
    · have g1 : decide ((i : Int) < (l.length : Int)) = false := by simpa using hlt
      have hput := (found_at (x := x) HSO.out hi HALL.out (fun h => absurd h hlt) (fun h => absurd h hlt)).2
      have HPUT := Lib.hid hput
      clear hput
      have hBw : Below w.heap.size w wr := HB0.out.trans (hB.mono HB0.out.size)
      have hxr := HX0.out.new_ hB
      have hxl1 := hxr.lt
      have y0 := hxr.cell 0
      have y1 := hxr.cell 1
      have y2 := hxr.cell 2
      simp only [List.getElem?_toArray, List.getElem?_cons_zero, List.getElem?_cons_succ] at y0 y1 y2
      have HBw1 := Lib.hid hBw
      clear hB hBw hxr
      go_wp2_with fail
      go_quiet (fail)
      obtain ⟨w1, hw1⟩ : ∃ w1, w1 = wr.drewN nq := ⟨_, rfl⟩
      have HBw2 : Hid (Below w.heap.size w w1) := by rw [hw1]; exact Below.drewN' HBw1.out nq
      have z0 : w1.cell? ⟨w.heap.size, 0, none⟩ = some (.int .i64 x.kind) := by rw [hw1]; exact y0
      have z1 : w1.cell? ⟨w.heap.size, 1, none⟩ = some (.string x.text) := by rw [hw1]; exact y1
      have z2 : w1.cell? ⟨w.heap.size, 2, none⟩ = some (.int .i64 x.n) := by rw [hw1]; exact y2
      have hxl2 : w.heap.size < w1.heap.size := by rw [hw1]; exact hxl1
      rw [← hw1]
      clear hw1 y0 y1 y2 HBw1 hxl1
      go_wp2_with fail
      go_quiet (fail)
      obtain ⟨W1, hW1⟩ : ∃ W1, W1 = w1.drewN nq := ⟨_, rfl⟩
      have hBW : Below w.heap.size w W1 := by rw [hW1]; exact Below.drewN' HBw2.out nq
      have x0 : W1.cell? ⟨w.heap.size, 0, none⟩ = some (.int .i64 x.kind) := by rw [hW1]; exact z0
      have x1 : W1.cell? ⟨w.heap.size, 1, none⟩ = some (.string x.text) := by rw [hW1]; exact z1
      have x2 : W1.cell? ⟨w.heap.size, 2, none⟩ = some (.int .i64 x.n) := by rw [hW1]; exact z2
      have hxl : w.heap.size < W1.heap.size := by rw [hW1]; exact hxl2
      have hA : i < l.length → (if c = i then A else A.map (·.add (i * 3))) = (if c = i then A else A.map (·.add (i * 3))) := fun _ => rfl
      rw [← hW1]
      clear hW1 z0 z1 z2 g1
      have hlti : ¬ i < l.length := hlt
      have hn1 : 0 < i → ∃ ad, A = some ad ∧ ∀ j u, ((l.take i).flatMap Sym.cells)[j]? = some u → W1.cell? (ad.add j) = some u := fun h => ((HRD.out.new_ hBW).prefix_ i).news Sym.cells_length (by omega) (by simp; omega)
      have hl1 : ((l.take i).flatMap Sym.cells).length = i * 3 := by rw [flat_length Sym.cells_length, List.length_take, Nat.min_eq_left hi]
      have hl3 : ((l.drop i).flatMap Sym.cells).length = (l.length - i) * 3 := by rw [flat_length Sym.cells_length, List.length_drop]
      have HBW := Lib.hid hBW
      have HN1 := Lib.hid hn1
      have HL1 := Lib.hid hl1
      have HL3 := Lib.hid hl3
      have HA45 := Lib.hid hA
      clear hBW hn1 hl1 hl3 hA
      go_wp2_with (first
        | (at_builtin; refine wpList_append_src W1 rfl (.const (.slice none 0 0)) (.tmp 36) 22 rfl 27 i0 _ 3 32 Try.underlying22 hi0 hz0 hz1 hz2 rfl (by omega) (.slice none 0 0) 0 [] rfl (owns_nil W1 0 _ _) A i c ((l.take i).flatMap Sym.cells) rfl HL1.out HN1.out (Sym.oneAll _) (by unfold maxLen; omega) (by omega) ?_; intro v1 w2 hown1 hg1 hnil1 hat1;
            rw [Nat.zero_add, List.nil_append] at hown1;
            have z0 := hg1.cell x0 (by simp [Value.ownBlock]);
            have z1 := hg1.cell x1 (by simp [Value.ownBlock]);
            have z2 := hg1.cell x2 (by simp [Value.ownBlock]);
            have HB2 := Lib.hid (HBW.out.grown hg1 (by have := HBW.out.size; omega) (fun k hk => by simp [Value.ownBlock] at hk));
            have HG1 := Lib.hid hg1;
            have HO1 := Lib.hid hown1;
            have HAT1 := Lib.hid hat1;
            clear hg1 hown1 hat1 hnil1 x0 x1 x2)
        | (at_builtin; refine wpList_append_src (w2.alloc (.cells #[.int .i64 x.kind, .string x.text, .int .i64 x.n] 27)) rfl (.tmp 38) (.tmp 40) 22 rfl 27 i0 _ 3 32 Try.underlying22 hi0 hz0 hz1 hz2 rfl (by omega) v1 i ((l.take i).flatMap Sym.cells) rfl (ownsRow_new HO1.out ((Below.refl _ _).alloc (Nat.le_refl _) _)) (some ⟨w2.heap.size, 0, none⟩) 1 1 (Sym.cells x) rfl rfl (fun _ => ⟨_, rfl, World.news_of_block (heap_alloc_new _ _)⟩) (Sym.one x) (by unfold maxLen; omega) (by omega) ?_; intro v2 w3 hown2 hg2 hnil2 hat2;
            have hv1 := fresh_own (B := w.heap.size) HAT1.out (fun k hk => by simp [Value.ownBlock] at hk) HBW.out.size;
            have HB3 := Lib.hid ((HB2.out.alloc HB2.out.size (.cells #[.int .i64 x.kind, .string x.text, .int .i64 x.n] 27)).grown hg2 (by have := HB2.out.size; simp; omega) hv1);
            have hv2 := fresh_own (B := w.heap.size) hat2 hv1 (by have := HB2.out.size; simp; omega);
            have HV2 := Lib.hid hv2;
            have HO2 := Lib.hid hown2;
            clear hg2 hown2 hat2 hnil2 hv1 hv2 z0 z1 z2)
        | (at_builtin; refine wpList_append_src w3 rfl (.tmp 42) (.tmp 45) 22 rfl 27 i0 _ 3 32 Try.underlying22 hi0 hz0 hz1 hz2 rfl (by omega) v2 (i + 1) ((l.take i).flatMap Sym.cells ++ Sym.cells x) rfl HO2.out (if c = i then A else A.map (·.add (i * 3))) (l.length - i) (c - i) ((l.drop i).flatMap Sym.cells) rfl HL3.out (suffix_news (HRD.out.new_ HB3.out) hi HA45.out) (Sym.oneAll _) (by unfold maxLen; omega) (by omega) ?_; intro v3 w4 hown3 hg3 hnil3 hat3;
            have HB4 := Lib.hid (HB3.out.grown hg3 (by have := HB3.out.size; omega) HV2.out);
            have HV3 := Lib.hid (fresh_own (B := w.heap.size) hat3 HV2.out HB3.out.size);
            have HO3 := Lib.hid hown3;
            clear hg3 hown3 hat3 hnil3))
      all_goals
        go_ret
        obtain ⟨A', c', hv, hr, ha⟩ := rput_end (w := w) HPUT.out hi HO3.out HV3.out
        exact ⟨A', c', by rw [← hv]; rfl, hr, .inr ha, HB4.out⟩
end Go.Proofs.Ythhhhjllpejpgaa
