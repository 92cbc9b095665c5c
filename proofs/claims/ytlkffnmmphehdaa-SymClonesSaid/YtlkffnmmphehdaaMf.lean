/-
  Texts put together: RefPut, RTabPut, RTabFresh, SymLists, TabPlain, TabPutL, TabClone, RefHas.
-/
import Derived.Test.YtlkffnmmphehdaaMe
import Derived.Test.YtlkffnmmphehdaaMc

namespace Go.Proofs.Ytlkffnmmphehdaa
open Go.RowKit
attribute [local go_sem] eql_sym neq_sym

theorem RowRd.suffix {α : Type} {w : World} {size c : Nat} {cells : α → List Value} {A : Option Addr} {l : List α} (h : RowRd w size cells A c l) (i : Nat) (hi : i ≤ l.length) :
    RowRd w size cells (if c = i then A else A.map (·.add (i * size))) (c - i) (l.drop i) := by
  refine ⟨by simp; have := h.1; omega, by have := h.2.1; omega, fun h0 => ?_⟩
  rw [List.length_drop] at h0
  obtain ⟨b, off, rfl, hb, hc⟩ := h.2.2 (by omega)
  have h1 := h.1
  rw [if_neg (by omega)]
  refine ⟨b, off + i * size, by simp [Go.WideShapes.add_plain], hb, fun k hk j u hu => ?_⟩
  rw [List.length_drop] at hk
  have := hc (i + k) (by omega) j u (by rw [← hu]; simp)
  rw [Nat.add_mul] at this
  rw [← this]
  congr 2
  omega
theorem fresh_own {B n : Nat} {v v' : Value} (h : v'.ownBlock = v.ownBlock ∨ v'.ownBlock = some n) (hv : ∀ k, v.ownBlock = some k → B ≤ k) (hn : B ≤ n) : ∀ k, v'.ownBlock = some k → B ≤ k := by
  intro k hk
  rcases h with h | h
  · rw [h] at hk; exact hv k hk
  · rw [h] at hk; injection hk with hk; omega
theorem suffix_news {w : World} {A A' : Option Addr} {c i : Nat} {l : List Sym} (h : RowRd w 3 Sym.cells A c l) (hi : i ≤ l.length) (hA : i < l.length → A' = (if c = i then A else A.map (·.add (i * 3)))) :
    0 < l.length - i → ∃ ad, A' = some ad ∧ ∀ j u, ((l.drop i).flatMap Sym.cells)[j]? = some u → w.cell? (ad.add j) = some u := by
  intro h0
  rw [hA (by omega)]
  exact (h.suffix i hi).news Sym.cells_length (by omega) (by simp; omega)
theorem rput_end {w w4 : World} {l : List Sym} {x : Sym} {i : Nat} {v : Value} (hp : put cmpSym l x = l.take i ++ x :: l.drop i) (hi : i ≤ l.length)
    (ho : w4.ownsRow 0 23 3 v (i + 1 + (l.length - i)) ((l.take i).flatMap Sym.cells ++ Sym.cells x ++ (l.drop i).flatMap Sym.cells)) (hv : ∀ k, v.ownBlock = some k → w.heap.size ≤ k) :
    ∃ A' c', v = .slice A' (put cmpSym l x).length c' ∧ RowRd w4 3 Sym.cells A' c' (put cmpSym l x) ∧ AIn A' (fun k => w.heap.size ≤ k ∧ k < w4.heap.size) := by
  have e1 : i + 1 + (l.length - i) = (put cmpSym l x).length := by rw [hp]; simp; omega
  have e2 : (l.take i).flatMap Sym.cells ++ Sym.cells x ++ (l.drop i).flatMap Sym.cells = (put cmpSym l x).flatMap Sym.cells := by rw [hp]; simp
  rw [e1, e2] at ho
  obtain ⟨A', c', rfl, _⟩ := own_form2 ho
  refine ⟨A', c', rfl, ownsRow_rd Sym.cells_length ho, fun a ha => ?_⟩
  subst ha
  refine ⟨hv a.block rfl, ?_⟩
  rcases ownsRow_form ho with ⟨hv, _⟩ | ⟨g, cap, hv, _, _, hr, _⟩
  · cases hv
  · injection hv with hv; injection hv with hv; subst hv; exact hr.lt
/-- What the search finds, in a sorted list. -/
theorem found_at {l : List Sym} {x : Sym} {i : Nat} (hs : Srt cmpSym l) (hi : i ≤ l.length) (h1 : ∀ k, (h : k < l.length) → k < i → cmpSym l[k] x < 0) (h2 : ∀ (h : i < l.length), ¬ cmpSym l[i] x < 0) (h3 : ∀ (h : i < l.length), l[i] ≠ x) :
    has cmpSym l x = false ∧ put cmpSym l x = l.take i ++ x :: l.drop i := by
  have h4 : ∀ k, (h : k < l.length) → i ≤ k → 0 < cmpSym l[k] x := by
    intro k h hk
    have e0 : 0 < cmpSym (l[i]'(by omega)) x := by
      have e1 := h2 (by omega)
      have e2 : cmpSym (l[i]'(by omega)) x ≠ 0 := fun e => h3 (by omega) (cmpSym_eq.1 e)
      omega
    rcases Nat.lt_or_ge i k with hlt | hge
    · exact (tc_sym.symm _ _).1 (tc_sym.lt_trans ((tc_sym.symm _ _).2 e0) (hs.lt hlt h))
    · obtain rfl : k = i := by omega
      exact e0
  have h5 := (at_none h1 h4).2.2
  have h6 := rank_none hi h1 h4
  refine ⟨h5, ?_⟩
  rw [put_eq tc_sym hs h5, h6]
set_option maxRecDepth 100000 in
set_option maxHeartbeats 4000000 in
theorem rput_is (A : Option Addr) (c : Nat) (l : List Sym) (x : Sym) (w : World) (hrd : RowRd w 3 Sym.cells A c l) (hs : Srt cmpSym l) (hl : (l.length : Int) ≤ 100000000) :
    Calls Try.prog 54 #[.slice A l.length c, .agg #[.int .i64 x.kind, .string x.text, .int .i64 x.n]] w fun e w' => ∃ A' c', e = .returned (.slice A' (put cmpSym l x).length c') ∧ RowRd w' 3 Sym.cells A' c' (put cmpSym l x) ∧ (A' = A ∨ AIn A' (fun k => w.heap.size ≤ k ∧ k < w'.heap.size)) ∧ Below w.heap.size w w' := by
  obtain ⟨i0, hi0, hz0, hz1, hz2⟩ := info_parts info_Sym
  have HRD := Lib.hid hrd
  have HSO := Lib.hid hs
  have hlc := hrd.cap
  have hlcc := hrd.1
  clear hrd hs
  go_enter Try.func54, Try.ntmps54
  go_wp2_with fail
  obtain ⟨W0, hW0⟩ : ∃ W0, W0 = w.alloc (Obj.cells #[Value.int IntKind.i64 x.kind, Value.string x.text, Value.int IntKind.i64 x.n] 23) := ⟨_, rfl⟩
  have hB0 : Below w.heap.size w W0 := by rw [hW0]; exact (Below.refl _ _).alloc (Nat.le_refl _) _
  have hX0 : Blk W0 w.heap.size 23 #[.int .i64 x.kind, .string x.text, .int .i64 x.n] := by rw [hW0]; exact Blk.new _ _ _
  rw [← hW0]
  clear hW0
  have HB0 := Lib.hid hB0
  have HX0 := Lib.hid hX0
  clear hB0 hX0
  go_loopw [5] (fun s wr => ∃ i : Nat, s = .int .i64 i ∧ i ≤ l.length ∧ (∀ k, (h : k < l.length) → k < i → cmpSym l[k] x < 0) ∧ Below W0.heap.size W0 wr) (fun s wr => l.length - (intOf s).toNat)
  case atStart => exact ⟨0, rfl, Nat.zero_le _, fun k _ h => absurd h (by omega), Below.refl _ _⟩
  case round =>
    obtain ⟨i, rfl, hi, hall, hB⟩ := hrel
    have HALL := Lib.hid hall
    clear hall
    have tail : ∀ (wr : World), Below W0.heap.size W0 wr → True := fun _ _ => trivial
    by_cases hlt : i < l.length
    · have g1 : decide ((i : Int) < (l.length : Int)) = true := by simpa using hlt
      have hBw : Below w.heap.size w wr := HB0.out.trans (hB.mono HB0.out.size)
      obtain ⟨y, hy⟩ : ∃ y, y = l[i] := ⟨_, rfl⟩
      obtain ⟨g, off, rfl, hg, q0, q1, q2⟩ := sym_at (HRD.out.new_ hBw) hlt
      rw [← hy] at q0 q1 q2
      have hxr := HX0.out.new_ hB
      have hxl := hxr.lt
      have y0 := hxr.cell 0
      have y1 := hxr.cell 1
      have y2 := hxr.cell 2
      simp only [List.getElem?_toArray, List.getElem?_cons_zero, List.getElem?_cons_succ] at y0 y1 y2
      have HXR := Lib.hid hxr
      have HB := Lib.hid hB
      have HBw := Lib.hid hBw
      have HY := Lib.hid hy
      clear hB hBw hy hxr
      have b1 : (0 : Int) ≤ (i : Int) := by omega
      have b2 : (i : Int) < (l.length : Int) := by omega

      go_wp2_with fail
      go_region_held3 (fun w' => w'.cell? ⟨g, off + i * 3, none⟩ = some (.int .i64 y.kind) ∧ w'.cell? ⟨g, off + i * 3 + 1, none⟩ = some (.string y.text) ∧ w'.cell? ⟨g, off + i * 3 + 2, none⟩ = some (.int .i64 y.n) ∧ w'.cell? ⟨w.heap.size, 0, none⟩ = some (.int .i64 x.kind) ∧ w'.cell? ⟨w.heap.size, 1, none⟩ = some (.string x.text) ∧ w'.cell? ⟨w.heap.size, 2, none⟩ = some (.int .i64 x.n))
        (first | go_keep | (refine ⟨?_, ?_, ?_, ?_, ?_, ?_⟩ <;> exact (hb1.cell (by simpa using by assumption)).trans (by simp [*])))
        ((go_at_call 20; refine (before_is y x _).mono ?_; rintro e w1 ⟨rfl, hb1⟩))
      rename_i hHeld
      have HB1 := Lib.hid (Below.trans (HB.out.drew) (hb1.mono HB.out.size))
      have HBw1 := Lib.hid (Below.trans (HBw.out.drew) (hb1.mono HBw.out.size))
      clear hb1 q0 q1 q2 y0 y1 y2
      by_cases hc : cmpSym y x < 0
      · go_wp2_with fail
        go_roundw
        case rel =>
          refine ⟨i + 1, by go_num, by omega, fun k h hk => ?_, HB1.out⟩
          rcases Nat.lt_or_ge k i with h3 | h3
          · exact HALL.out k h h3
          · obtain rfl : k = i := by omega
            rw [← HY.out]; exact hc
        case measure => simp [intOf] <;> omega
      · have hXR1 := HX0.out.new_ HB1.out
        have y0 := hXR1.cell 0
        have y1 := hXR1.cell 1
        have y2 := hXR1.cell 2
        simp only [List.getElem?_toArray, List.getElem?_cons_zero, List.getElem?_cons_succ] at y0 y1 y2
        obtain ⟨q0, q1, q2, _⟩ := hHeld
        have hbe := eql_sym y x
        have HXR1 := Lib.hid hXR1
        clear hXR1
        by_cases he : y = x
        · have t2 : decide (y = x) = true := by simpa using he
          rw [t2] at hbe
          have HE := Lib.hid he
          clear he
          go_wp2_with fail
          go_quiet (fail)
          clear q0 q1 q2 y0 y1 y2
          go_wp2_with fail
          go_ret
          have e : has cmpSym l x = true := has_iff.2 ⟨y, by rw [HY.out]; exact List.getElem_mem _, cmpSym_eq.2 HE.out⟩
          rw [put_has e]
          exact ⟨_, c, rfl, HRD.out.new_ (Below.drewN' HBw1.out nq), .inl rfl, Below.drewN' HBw1.out nq⟩
        · have t2 : decide (y = x) = false := by simpa using he
          rw [t2] at hbe
          have hput := (found_at (x := x) HSO.out hi HALL.out (fun _ => by rw [← HY.out]; exact hc) (fun _ => by rw [← HY.out]; exact he)).2
          have HPUT := Lib.hid hput
          clear he hput
          go_wp2_with fail
          go_quiet (fail)
          clear q0 q1 q2
          have hxl1 : w.heap.size < w1.heap.size := Nat.lt_of_lt_of_le (HX0.out.lt) HB1.out.size
          obtain ⟨W1, hW1⟩ : ∃ W1, W1 = w1.drewN nq := ⟨_, rfl⟩
          have hBW : Below w.heap.size w W1 := by rw [hW1]; exact Below.drewN' HBw1.out nq
          have x0 : W1.cell? ⟨w.heap.size, 0, none⟩ = some (.int .i64 x.kind) := by rw [hW1]; exact y0
          have x1 : W1.cell? ⟨w.heap.size, 1, none⟩ = some (.string x.text) := by rw [hW1]; exact y1
          have x2 : W1.cell? ⟨w.heap.size, 2, none⟩ = some (.int .i64 x.n) := by rw [hW1]; exact y2
          have hxl : w.heap.size < W1.heap.size := by rw [hW1]; exact hxl1
          have hA : i < l.length → some (⟨g, off + i * 3, none⟩ : Addr) = (if c = i then some (⟨g, off, none⟩ : Addr) else (some (⟨g, off, none⟩ : Addr)).map (·.add (i * 3))) := fun _ => by rw [if_neg (by omega)]; simp [Go.WideShapes.add_plain]
          rw [← hW1]
          clear hW1 y0 y1 y2
          have hn1 : 0 < i → ∃ ad, (some (⟨g, off, none⟩ : Addr)) = some ad ∧ ∀ j u, ((l.take i).flatMap Sym.cells)[j]? = some u → W1.cell? (ad.add j) = some u := fun h => ((HRD.out.new_ hBW).prefix_ i).news Sym.cells_length (by omega) (by simp; omega)
          have hl1 : ((l.take i).flatMap Sym.cells).length = i * 3 := by rw [flat_length Sym.cells_length, List.length_take, Nat.min_eq_left hi]
          have hl3 : ((l.drop i).flatMap Sym.cells).length = (l.length - i) * 3 := by rw [flat_length Sym.cells_length, List.length_drop]
          have HBW := Lib.hid hBW
          have HN1 := Lib.hid hn1
          have HL1 := Lib.hid hl1
          have HL3 := Lib.hid hl3
          have HA45 := Lib.hid hA
          clear hBW hn1 hl1 hl3 hA
          go_wp2_with (first
            | (at_builtin; refine wpList_append_src W1 rfl (.const (.slice none 0 0)) (.tmp 36) 39 rfl 23 i0 _ 3 32 Try.underlying39 hi0 hz0 hz1 hz2 rfl (by omega) (.slice none 0 0) 0 [] rfl (owns_nil W1 0 _ _) (some (⟨g, off, none⟩ : Addr)) i c ((l.take i).flatMap Sym.cells) rfl HL1.out HN1.out (Sym.oneAll _) (by unfold maxLen; omega) (by omega) ?_; intro v1 w2 hown1 hg1 hnil1 hat1;
                rw [Nat.zero_add, List.nil_append] at hown1;
                have z0 := hg1.cell x0 (by simp [Value.ownBlock]);
                have z1 := hg1.cell x1 (by simp [Value.ownBlock]);
                have z2 := hg1.cell x2 (by simp [Value.ownBlock]);
                have HB2 := Lib.hid (HBW.out.grown hg1 (by have := HBW.out.size; omega) (fun k hk => by simp [Value.ownBlock] at hk));
                have HG1 := Lib.hid hg1;
                have HO1 := Lib.hid hown1;
                have HAT1 := Lib.hid hat1;
                clear hg1 hown1 hat1 hnil1 x0 x1 x2)
            | (at_builtin; refine wpList_append_src (w2.alloc (.cells #[.int .i64 x.kind, .string x.text, .int .i64 x.n] 23)) rfl (.tmp 38) (.tmp 40) 39 rfl 23 i0 _ 3 32 Try.underlying39 hi0 hz0 hz1 hz2 rfl (by omega) v1 i ((l.take i).flatMap Sym.cells) rfl (ownsRow_new HO1.out ((Below.refl _ _).alloc (Nat.le_refl _) _)) (some ⟨w2.heap.size, 0, none⟩) 1 1 (Sym.cells x) rfl rfl (fun _ => ⟨_, rfl, World.news_of_block (heap_alloc_new _ _)⟩) (Sym.one x) (by unfold maxLen; omega) (by omega) ?_; intro v2 w3 hown2 hg2 hnil2 hat2;
                have hv1 := fresh_own (B := w.heap.size) HAT1.out (fun k hk => by simp [Value.ownBlock] at hk) HBW.out.size;
                have HB3 := Lib.hid ((HB2.out.alloc HB2.out.size (.cells #[.int .i64 x.kind, .string x.text, .int .i64 x.n] 23)).grown hg2 (by have := HB2.out.size; simp; omega) hv1);
                have hv2 := fresh_own (B := w.heap.size) hat2 hv1 (by have := HB2.out.size; simp; omega);
                have HV2 := Lib.hid hv2;
                have HO2 := Lib.hid hown2;
                clear hg2 hown2 hat2 hnil2 hv1 hv2 z0 z1 z2)
            | (at_builtin; refine wpList_append_src w3 rfl (.tmp 42) (.tmp 45) 39 rfl 23 i0 _ 3 32 Try.underlying39 hi0 hz0 hz1 hz2 rfl (by omega) v2 (i + 1) ((l.take i).flatMap Sym.cells ++ Sym.cells x) rfl HO2.out (some (⟨g, off + i * 3, none⟩ : Addr)) (l.length - i) (c - i) ((l.drop i).flatMap Sym.cells) rfl HL3.out (suffix_news (HRD.out.new_ HB3.out) hi HA45.out) (Sym.oneAll _) (by unfold maxLen; omega) (by omega) ?_; intro v3 w4 hown3 hg3 hnil3 hat3;
                have HB4 := Lib.hid (HB3.out.grown hg3 (by have := HB3.out.size; omega) HV2.out);
                have HV3 := Lib.hid (fresh_own (B := w.heap.size) hat3 HV2.out HB3.out.size);
                have HO3 := Lib.hid hown3;
                clear hg3 hown3 hat3 hnil3))
          all_goals
            go_ret
            obtain ⟨A', c', hv, hr, ha⟩ := rput_end (w := w) HPUT.out hi HO3.out HV3.out
            exact ⟨A', c', by rw [← hv]; rfl, hr, .inr ha, HB4.out⟩
    · have g1 : decide ((i : Int) < (l.length : Int)) = false := by simpa using hlt
      have hput := (found_at (x := x) HSO.out hi HALL.out (fun h => absurd h hlt) (fun h => absurd h hlt)).2
      have HPUT := Lib.hid hput
      clear hput
      have hBw : Below w.heap.size w wr := HB0.out.trans (hB.mono HB0.out.size)
      have hxr := HX0.out.new_ hB
      have hxl1 := hxr.lt
      have y0 := hxr.cell 0
      have y1 := hxr.cell 1
      have y2 := hxr.cell 2
      simp only [List.getElem?_toArray, List.getElem?_cons_zero, List.getElem?_cons_succ] at y0 y1 y2
      have HBw1 := Lib.hid hBw
      clear hB hBw hxr
      go_wp2_with fail
      go_quiet (fail)
      obtain ⟨w1, hw1⟩ : ∃ w1, w1 = wr.drewN nq := ⟨_, rfl⟩
      have HBw2 : Hid (Below w.heap.size w w1) := by rw [hw1]; exact Below.drewN' HBw1.out nq
      have z0 : w1.cell? ⟨w.heap.size, 0, none⟩ = some (.int .i64 x.kind) := by rw [hw1]; exact y0
      have z1 : w1.cell? ⟨w.heap.size, 1, none⟩ = some (.string x.text) := by rw [hw1]; exact y1
      have z2 : w1.cell? ⟨w.heap.size, 2, none⟩ = some (.int .i64 x.n) := by rw [hw1]; exact y2
      have hxl2 : w.heap.size < w1.heap.size := by rw [hw1]; exact hxl1
      rw [← hw1]
      clear hw1 y0 y1 y2 HBw1 hxl1
      go_wp2_with fail
      go_quiet (fail)
      obtain ⟨W1, hW1⟩ : ∃ W1, W1 = w1.drewN nq := ⟨_, rfl⟩
      have hBW : Below w.heap.size w W1 := by rw [hW1]; exact Below.drewN' HBw2.out nq
      have x0 : W1.cell? ⟨w.heap.size, 0, none⟩ = some (.int .i64 x.kind) := by rw [hW1]; exact z0
      have x1 : W1.cell? ⟨w.heap.size, 1, none⟩ = some (.string x.text) := by rw [hW1]; exact z1
      have x2 : W1.cell? ⟨w.heap.size, 2, none⟩ = some (.int .i64 x.n) := by rw [hW1]; exact z2
      have hxl : w.heap.size < W1.heap.size := by rw [hW1]; exact hxl2
      have hA : i < l.length → (if c = i then A else A.map (·.add (i * 3))) = (if c = i then A else A.map (·.add (i * 3))) := fun _ => rfl
      rw [← hW1]
      clear hW1 z0 z1 z2 g1
      have hlti : ¬ i < l.length := hlt
      have hn1 : 0 < i → ∃ ad, A = some ad ∧ ∀ j u, ((l.take i).flatMap Sym.cells)[j]? = some u → W1.cell? (ad.add j) = some u := fun h => ((HRD.out.new_ hBW).prefix_ i).news Sym.cells_length (by omega) (by simp; omega)
      have hl1 : ((l.take i).flatMap Sym.cells).length = i * 3 := by rw [flat_length Sym.cells_length, List.length_take, Nat.min_eq_left hi]
      have hl3 : ((l.drop i).flatMap Sym.cells).length = (l.length - i) * 3 := by rw [flat_length Sym.cells_length, List.length_drop]
      have HBW := Lib.hid hBW
      have HN1 := Lib.hid hn1
      have HL1 := Lib.hid hl1
      have HL3 := Lib.hid hl3
      have HA45 := Lib.hid hA
      clear hBW hn1 hl1 hl3 hA
      go_wp2_with (first
        | (at_builtin; refine wpList_append_src W1 rfl (.const (.slice none 0 0)) (.tmp 36) 39 rfl 23 i0 _ 3 32 Try.underlying39 hi0 hz0 hz1 hz2 rfl (by omega) (.slice none 0 0) 0 [] rfl (owns_nil W1 0 _ _) A i c ((l.take i).flatMap Sym.cells) rfl HL1.out HN1.out (Sym.oneAll _) (by unfold maxLen; omega) (by omega) ?_; intro v1 w2 hown1 hg1 hnil1 hat1;
            rw [Nat.zero_add, List.nil_append] at hown1;
            have z0 := hg1.cell x0 (by simp [Value.ownBlock]);
            have z1 := hg1.cell x1 (by simp [Value.ownBlock]);
            have z2 := hg1.cell x2 (by simp [Value.ownBlock]);
            have HB2 := Lib.hid (HBW.out.grown hg1 (by have := HBW.out.size; omega) (fun k hk => by simp [Value.ownBlock] at hk));
            have HG1 := Lib.hid hg1;
            have HO1 := Lib.hid hown1;
            have HAT1 := Lib.hid hat1;
            clear hg1 hown1 hat1 hnil1 x0 x1 x2)
        | (at_builtin; refine wpList_append_src (w2.alloc (.cells #[.int .i64 x.kind, .string x.text, .int .i64 x.n] 23)) rfl (.tmp 38) (.tmp 40) 39 rfl 23 i0 _ 3 32 Try.underlying39 hi0 hz0 hz1 hz2 rfl (by omega) v1 i ((l.take i).flatMap Sym.cells) rfl (ownsRow_new HO1.out ((Below.refl _ _).alloc (Nat.le_refl _) _)) (some ⟨w2.heap.size, 0, none⟩) 1 1 (Sym.cells x) rfl rfl (fun _ => ⟨_, rfl, World.news_of_block (heap_alloc_new _ _)⟩) (Sym.one x) (by unfold maxLen; omega) (by omega) ?_; intro v2 w3 hown2 hg2 hnil2 hat2;
            have hv1 := fresh_own (B := w.heap.size) HAT1.out (fun k hk => by simp [Value.ownBlock] at hk) HBW.out.size;
            have HB3 := Lib.hid ((HB2.out.alloc HB2.out.size (.cells #[.int .i64 x.kind, .string x.text, .int .i64 x.n] 23)).grown hg2 (by have := HB2.out.size; simp; omega) hv1);
            have hv2 := fresh_own (B := w.heap.size) hat2 hv1 (by have := HB2.out.size; simp; omega);
            have HV2 := Lib.hid hv2;
            have HO2 := Lib.hid hown2;
            clear hg2 hown2 hat2 hnil2 hv1 hv2 z0 z1 z2)
        | (at_builtin; refine wpList_append_src w3 rfl (.tmp 42) (.tmp 45) 39 rfl 23 i0 _ 3 32 Try.underlying39 hi0 hz0 hz1 hz2 rfl (by omega) v2 (i + 1) ((l.take i).flatMap Sym.cells ++ Sym.cells x) rfl HO2.out (if c = i then A else A.map (·.add (i * 3))) (l.length - i) (c - i) ((l.drop i).flatMap Sym.cells) rfl HL3.out (suffix_news (HRD.out.new_ HB3.out) hi HA45.out) (Sym.oneAll _) (by unfold maxLen; omega) (by omega) ?_; intro v3 w4 hown3 hg3 hnil3 hat3;
            have HB4 := Lib.hid (HB3.out.grown hg3 (by have := HB3.out.size; omega) HV2.out);
            have HV3 := Lib.hid (fresh_own (B := w.heap.size) hat3 HV2.out HB3.out.size);
            have HO3 := Lib.hid hown3;
            clear hg3 hown3 hat3 hnil3))
      all_goals
        go_ret
        obtain ⟨A', c', hv, hr, ha⟩ := rput_end (w := w) HPUT.out hi HO3.out HV3.out
        exact ⟨A', c', by rw [← hv]; rfl, hr, .inr ha, HB4.out⟩
end Go.Proofs.Ytlkffnmmphehdaa

namespace Go.Proofs.Ytlkffnmmphehdaa
open Go.RowKit
theorem rtput_bad_at {L : List Sym} {i : Nat} (hi : i < L.length) (h : validB L[i] = false) : L.all validB = false := by
  rw [List.all_eq_false]
  exact ⟨L[i], List.getElem_mem hi, by rw [h]; simp⟩
/-- What the document's Put leaves. -/
def RPut (w : World) (k : Nat) (room : Int) (l L : List Sym) (A : Option Addr) (e : Ending) (w' : World) : Prop :=
  if L.all validB = true then
    if room < ((puts cmpSym l L).length : Int) then e = .returned (.int .i64 20) ∧ Below w.heap.size w w'
    else e = .returned (.int .i64 0) ∧ (∃ A' cap', RTabA w' k room (puts cmpSym l L) A' cap' ∧ From A w.heap.size A') ∧ Fr (· = k) w w'
  else e = .returned (.int .i64 9) ∧ Below w.heap.size w w'
set_option maxRecDepth 100000 in
set_option maxHeartbeats 8000000 in
theorem rtput_is (k : Nat) (room : Int) (l L : List Sym) (A2 : Option Addr) (c2 : Nat) (A : Option Addr) (cap : Nat) (w : World) (hR : RTabA w k room l A cap) (hL : RowRd w 3 Sym.cells A2 c2 L) (hs : Srt cmpSym l) (hll : (l.length : Int) ≤ 1000000) (hLL : (L.length : Int) ≤ 1000000) :
    Calls Try.prog 24 #[.pointer (some ⟨k, 0, none⟩), .slice A2 L.length c2] w (RPut w k room l L A) := by
  obtain ⟨hB, hrd, hAk⟩ := hR
  have HB := Lib.hid hB
  have HAK := Lib.hid hAk
  have HRD := Lib.hid hrd
  have HL := Lib.hid hL
  have HSO := Lib.hid hs
  clear hB hrd hL hs hAk
  go_enter Try.func24, Try.ntmps24
  go_wp2_with fail
  go_loopw [5] (fun s wr => ∃ i : Nat, s = .int .i64 i ∧ i ≤ L.length ∧ (∀ j, (h : j < L.length) → j < i → validB L[j] = true) ∧ Below w.heap.size w wr) (fun s wr => L.length - (intOf s).toNat)
  case atStart => exact ⟨0, rfl, Nat.zero_le _, fun j _ h => absurd h (by omega), Below.refl _ _⟩
  case round =>
    obtain ⟨i, rfl, hi, hall, hBl⟩ := hrel
    have HALL := Lib.hid hall
    have HBl := Lib.hid hBl
    clear hall hBl
    by_cases hlt : i < L.length
    · obtain ⟨y, hy⟩ : ∃ y, y = L[i] := ⟨_, rfl⟩
      obtain ⟨g, off, rfl, hg, q0, q1, q2⟩ := sym_at (HL.out.new_ HBl.out) hlt
      rw [← hy] at q0 q1 q2
      have HY := Lib.hid hy
      have b1 : (0 : Int) ≤ (i : Int) := by omega
      have b2 : (i : Int) < (L.length : Int) := by omega
      clear hy
      go_wp2_with fail
      refine (rvalid_is y _).mono ?_
      rintro e w1 ⟨rfl, hb1⟩
      have HB1 := Lib.hid (HBl.out.trans (hb1.mono HBl.out.size))
      clear hb1 q0 q1 q2
      cases hv : validB y
      · have HE := Lib.hid (rtput_bad_at hlt (by rw [← HY.out]; exact hv))
        go_wp2_with fail
        go_ret
        unfold RPut
        rw [HE.out]
        exact ⟨rfl, HB1.out⟩
      · have HV := Lib.hid hv
        go_wp2_with fail
        go_roundw
        case rel => exact ⟨i + 1, by go_num, by omega, fun j h hj => by
            rcases Nat.lt_or_ge j i with h3 | h3
            · exact HALL.out j h h3
            · obtain rfl : j = i := by omega
              rw [← HY.out]; exact HV.out, HB1.out⟩
        case measure => simp [intOf] <;> omega
    · have hie : i = L.length := by omega
      subst hie
      have HE := Lib.hid (show L.all validB = true from List.all_eq_true.2 (fun x hx => by
        obtain ⟨j, hj, rfl⟩ := List.getElem_of_mem hx
        exact HALL.out j hj hj))
      obtain ⟨w3, hw3⟩ : ∃ w3, w3 = wr := ⟨_, rfl⟩
      rw [← hw3] at HBl ⊢
      have hBk := HB.out.new_ HBl.out
      have s1 : w3.cell? ⟨k, 1, none⟩ = some (.slice A l.length cap) := (hBk.cell 1).trans rfl
      have hkl := hBk.lt
      have HBk := Lib.hid hBk
      have hz3 := HBl.out.size
      clear hw3 hBk
      go_wp2_with fail
      clear s1
      go_loopw [6, 7] (fun v s W => ∃ (i : Nat) (A' : Option Addr) (c' : Nat), s = .int .i64 i ∧ i ≤ L.length ∧ v = .slice A' (puts cmpSym l (L.take i)).length c' ∧ RowRd W 3 Sym.cells A' c' (puts cmpSym l (L.take i)) ∧ (AIn A' (fun j => j ≠ k ∧ j < W.heap.size) ∧ From A w.heap.size A') ∧ Below w3.heap.size w3 W) (fun v s W => L.length - (intOf s).toNat)
      case atStart => exact ⟨0, A, cap, rfl, Nat.zero_le _, rfl, HRD.out.new_ HBl.out, ⟨HAK.out.mono (fun j hj => ⟨hj.1, by have := hj.2; have := HBl.out.size; omega⟩), From.refl _ _⟩, Below.refl _ _⟩
      case round =>
        obtain ⟨i, A', c', rfl, hi, rfl, hr, ⟨hA4, hfr4⟩, hB4⟩ := hrel
        have HFR4 := Lib.hid hfr4
        clear hfr4
        have HR4 := Lib.hid hr
        have HA4 := Lib.hid hA4
        have HB4 := Lib.hid hB4
        have HB34 := Lib.hid (HBl.out.trans (hB4.mono hz3))
        have hz4 := hB4.size
        clear hr hB4 hA4
        by_cases hlt : i < L.length
        · obtain ⟨y, hy⟩ : ∃ y, y = L[i] := ⟨_, rfl⟩
          obtain ⟨g, off, rfl, hg, q0, q1, q2⟩ := sym_at (HL.out.new_ HB34.out) hlt
          rw [← hy] at q0 q1 q2
          have HY := Lib.hid hy
          have b1 : (0 : Int) ≤ (i : Int) := by omega
          have b2 : (i : Int) < (L.length : Int) := by omega
          have hlen : (((puts cmpSym l (L.take i)).length : Nat) : Int) ≤ 100000000 := by
            have := length_puts_le tc_sym (L.take i) HSO.out
            simp at this; omega
          obtain ⟨X, hX⟩ : ∃ X, X = puts cmpSym l (L.take i) := ⟨_, rfl⟩
          have HXS := Lib.hid (show Srt cmpSym X by rw [hX]; exact Srt.puts tc_sym _ HSO.out)
          have HXN := Lib.hid (show puts cmpSym l (L.take (i + 1)) = put cmpSym X y by rw [List.take_add_one, List.getElem?_eq_getElem hlt, ← hy, hX]; simp only [Option.toList_some, puts_snoc])
          rw [← hX] at hlen HR4 ⊢
          clear hy hX
          go_wp2_with fail
          refine (rput_is A' c' X y _ HR4.out HXS.out hlen).mono ?_
          rintro e w5 ⟨A5, c5, rfl, hr5, hA5, hb5⟩
          have HR5 := Lib.hid hr5
          have HB5 := Lib.hid (HB4.out.trans (hb5.mono hz4))
          have HFR5 := Lib.hid (HFR4.out.step (by have := HBl.out.size; omega) hA5)
          have HA5 := Lib.hid (show AIn A5 (fun j => j ≠ k ∧ j < w5.heap.size) by
            rcases hA5 with rfl | h
            · exact HA4.out.mono (fun j hj => ⟨hj.1, by have := hj.2; have := hb5.size; omega⟩)
            · exact h.mono (fun j hj => by have := hb5.size; omega))
          clear hr5 hb5 hA5 q0 q1 q2 hlen
          go_wp2_with fail
          go_roundw
          case rel => exact ⟨i + 1, A5, c5, by go_num, by omega, by rw [HXN.out], by rw [HXN.out]; exact HR5.out, ⟨HA5.out, HFR5.out⟩, HB5.out⟩
          case measure => simp [intOf] <;> omega
        · have hie : i = L.length := by omega
          subst hie
          have hR5 := HR4.out
          rw [List.take_length] at hR5 ⊢
          obtain ⟨X, hX⟩ : ∃ X, X = puts cmpSym l L := ⟨_, rfl⟩
          rw [← hX] at hR5 ⊢
          have HX := Lib.hid hX
          have HR5 := Lib.hid hR5
          have hBk4 := HBk.out.new_ HB4.out
          have s0 : wr.cell? ⟨k, 0, none⟩ = some (.int .i64 room) := (hBk4.cell 0).trans rfl
          have s1 : wr.cell? ⟨k, 1, none⟩ = some (.slice A l.length cap) := (hBk4.cell 1).trans rfl
          have f1 := hBk4.frozen 1
          have hkl4 := hBk4.lt
          have HBk4 := Lib.hid hBk4
          clear hX hR5 hBk4
          by_cases hfull : room < (X.length : Int)
          · have t1 : decide (room < (X.length : Int)) = true := by simpa using hfull
            have HFu := Lib.hid hfull
            clear hfull
            go_wp2_with fail
            go_ret
            unfold RPut
            rw [HE.out, ← HX.out, if_pos rfl, if_pos HFu.out]
            exact ⟨rfl, HB34.out⟩
          · have t1 : decide (room < (X.length : Int)) = false := by simpa using hfull
            have HFu := Lib.hid hfull
            clear hfull
            go_wp2_with fail
            go_ret
            unfold RPut
            rw [HE.out, ← HX.out, if_pos rfl, if_neg (by have := HFu.out; omega)]
            have hFs : Fr (· = k) wr (wr.setCell ⟨k, 1, none⟩ (.slice A' X.length c')) := (Fr.refl (· = k) wr).setCell (p := ⟨k, 1, none⟩) (.inl rfl) _
            exact ⟨rfl, ⟨A', c', ⟨HBk4.out.set_ 1 _, HR5.out.fr hFs (HA4.out.mono (fun j hj => hj.1)), HA4.out.mono (fun j hj => ⟨hj.1, by simpa using hj.2⟩)⟩, HFR4.out⟩, (Fr.of_new HB34.out).trans hFs⟩
end Go.Proofs.Ytlkffnmmphehdaa

namespace Go.Proofs.Ytlkffnmmphehdaa
open Go.RowKit
theorem RTabA.below_ {w w' : World} {k : Nat} {room : Int} {l : List Sym} {A : Option Addr} {cap : Nat} (h : RTabA w k room l A cap) (hb : Below w.heap.size w w') : RTabA w' k room l A cap := by
  obtain ⟨h1, h2, h3⟩ := h
  exact ⟨h1.new_ hb, h2.new_ hb, h3.mono (fun j hj => ⟨hj.1, by have := hj.2; have := hb.size; omega⟩)⟩

set_option maxRecDepth 100000 in
set_option maxHeartbeats 4000000 in
theorem rfresh_arg (k : Nat) (room : Int) (l : List Sym) (c : UInt8) (A0 : Option Addr) (cap0 : Nat) (w : World) (hR : RTabA w k room l A0 cap0) (hbd : ∀ s ∈ l, s.kind = 1 → s.n ≤ 1048576) (hll : (l.length : Int) ≤ 1000000) (hn : nextL l c = 0) :
    Calls Try.prog 26 #[.pointer (some ⟨k, 0, none⟩), .int .u8 (c.toNat : Int)] w fun e w' => e = .returned (.tuple #[.agg #[.int .i64 0, .string ⟨#[]⟩, .int .i64 0], .int .i64 1]) ∧ Below w.heap.size w w' := by
  have t1 : (nextL l c == 0) = true := by simp [hn]
  clear hn
  have HR := Lib.hid hR
  have HBD := Lib.hid hbd
  clear hR hbd
  go_enter Try.func26, Try.ntmps26
  go_wp2_with fail
  have hR0 := HR.out.below_ ((Below.refl w.heap.size w).alloc (Nat.le_refl _) (Obj.cells #[Value.int IntKind.i64 0, Value.string ⟨#[]⟩, Value.int IntKind.i64 0] 23))
  refine (rnext_is k room l c _ ⟨_, _, hR0⟩ HBD.out hll).mono ?_
  rintro e w1 ⟨rfl, hb1⟩
  clear hR0
  have hZ : Blk w1 w.heap.size 23 #[.int .i64 0, .string ⟨#[]⟩, .int .i64 0] := (Blk.new _ _ _).new_ hb1
  have hB1 : Below w.heap.size w w1 := ((Below.refl w.heap.size w).alloc (Nat.le_refl _) _).trans (hb1.mono (by simp))
  have HB1 := Lib.hid hB1
  have HZ := Lib.hid hZ
  have z0 : w1.cell? ⟨w.heap.size, 0, none⟩ = some (.int .i64 0) := (hZ.cell 0).trans rfl
  have z1 : w1.cell? ⟨w.heap.size, 1, none⟩ = some (.string ⟨#[]⟩) := (hZ.cell 1).trans rfl
  have z2 : w1.cell? ⟨w.heap.size, 2, none⟩ = some (.int .i64 0) := (hZ.cell 2).trans rfl
  have f0 := hZ.frozen 0
  have f1 := hZ.frozen 1
  have f2 := hZ.frozen 2
  have hzl := hZ.lt
  clear hb1 hZ hB1
  go_wp2_with fail
  exact bodyPost_ret (v := .tuple #[.agg #[.int .i64 0, .string ⟨#[]⟩, .int .i64 0], .int .i64 1]) (by simp [results, Try.results26, go_sem, z0, z1, z2]) rfl ⟨rfl, by (repeat (first | exact Below.refl _ _ | exact HB1.out | exact Below.drewN' HB1.out _ | (refine Below.drew ?_) | (refine Below.alloc ?_ (by simp <;> omega) _) | (refine Below.setCell ?_ (by simp <;> omega) _)))⟩

set_option maxRecDepth 100000 in
set_option maxHeartbeats 4000000 in
theorem rfresh_full (k : Nat) (room : Int) (l : List Sym) (c : UInt8) (A0 : Option Addr) (cap0 : Nat) (w : World) (hR : RTabA w k room l A0 cap0) (hbd : ∀ s ∈ l, s.kind = 1 → s.n ≤ 1048576) (hll : (l.length : Int) ≤ 1000000) (hn : nextL l c ≠ 0) (hf : room ≤ l.length) :
    Calls Try.prog 26 #[.pointer (some ⟨k, 0, none⟩), .int .u8 (c.toNat : Int)] w fun e w' => e = .returned (.tuple #[.agg #[.int .i64 0, .string ⟨#[]⟩, .int .i64 0], .int .i64 20]) ∧ Below w.heap.size w w' := by
  have t1 : (nextL l c == 0) = false := by simp [hn]
  have t2 : decide (room ≤ (l.length : Int)) = true := by simpa using hf
  clear hn hf
  have HR := Lib.hid hR
  have HBD := Lib.hid hbd
  clear hR hbd
  go_enter Try.func26, Try.ntmps26
  go_wp2_with fail
  have hR0 := HR.out.below_ ((Below.refl w.heap.size w).alloc (Nat.le_refl _) (Obj.cells #[Value.int IntKind.i64 0, Value.string ⟨#[]⟩, Value.int IntKind.i64 0] 23))
  refine (rnext_is k room l c _ ⟨_, _, hR0⟩ HBD.out hll).mono ?_
  rintro e w1 ⟨rfl, hb1⟩
  clear hR0
  have hZ : Blk w1 w.heap.size 23 #[.int .i64 0, .string ⟨#[]⟩, .int .i64 0] := (Blk.new _ _ _).new_ hb1
  have hB1 : Below w.heap.size w w1 := ((Below.refl w.heap.size w).alloc (Nat.le_refl _) _).trans (hb1.mono (by simp))
  have HB1 := Lib.hid hB1
  have HZ := Lib.hid hZ
  have z0 : w1.cell? ⟨w.heap.size, 0, none⟩ = some (.int .i64 0) := (hZ.cell 0).trans rfl
  have z1 : w1.cell? ⟨w.heap.size, 1, none⟩ = some (.string ⟨#[]⟩) := (hZ.cell 1).trans rfl
  have z2 : w1.cell? ⟨w.heap.size, 2, none⟩ = some (.int .i64 0) := (hZ.cell 2).trans rfl
  have f0 := hZ.frozen 0
  have f1 := hZ.frozen 1
  have f2 := hZ.frozen 2
  have hzl := hZ.lt
  clear hb1 hZ hB1
  obtain ⟨hBk, _, _⟩ := HR.out.below_ HB1.out
  have s0 : w1.cell? ⟨k, 0, none⟩ = some (.int .i64 room) := (hBk.cell 0).trans rfl
  have s1 : w1.cell? ⟨k, 1, none⟩ = some (.slice A0 l.length cap0) := (hBk.cell 1).trans rfl
  have hkl := hBk.lt
  clear hBk
  go_wp2_with fail
  go_quiet (fail)
  go_wp2_with fail
  exact bodyPost_ret (v := .tuple #[.agg #[.int .i64 0, .string ⟨#[]⟩, .int .i64 0], .int .i64 20]) (by simp [results, Try.results26, go_sem, z0, z1, z2]) rfl ⟨rfl, by (repeat (first | exact Below.refl _ _ | exact HB1.out | exact Below.drewN' HB1.out _ | (refine Below.drew ?_) | (refine Below.alloc ?_ (by simp <;> omega) _) | (refine Below.setCell ?_ (by simp <;> omega) _)))⟩

set_option maxRecDepth 100000 in
set_option maxHeartbeats 4000000 in
theorem rfresh_far (k : Nat) (room : Int) (l : List Sym) (c : UInt8) (A0 : Option Addr) (cap0 : Nat) (w : World) (hR : RTabA w k room l A0 cap0) (hbd : ∀ s ∈ l, s.kind = 1 → s.n ≤ 1048576) (hll : (l.length : Int) ≤ 1000000) (hn : nextL l c ≠ 0) (hf : ¬ room ≤ l.length) (hg : 1048576 < nextL l c) :
    Calls Try.prog 26 #[.pointer (some ⟨k, 0, none⟩), .int .u8 (c.toNat : Int)] w fun e w' => e = .returned (.tuple #[.agg #[.int .i64 0, .string ⟨#[]⟩, .int .i64 0], .int .i64 20]) ∧ Below w.heap.size w w' := by
  have t1 : (nextL l c == 0) = false := by simp [hn]
  have t2 : decide (room ≤ (l.length : Int)) = false := by simpa using hf
  have t3 : decide ((1048576 : Int) < nextL l c) = true := by simpa using hg
  clear hn hf
  have HR := Lib.hid hR
  have HBD := Lib.hid hbd
  clear hR hbd
  go_enter Try.func26, Try.ntmps26
  go_wp2_with fail
  have hR0 := HR.out.below_ ((Below.refl w.heap.size w).alloc (Nat.le_refl _) (Obj.cells #[Value.int IntKind.i64 0, Value.string ⟨#[]⟩, Value.int IntKind.i64 0] 23))
  refine (rnext_is k room l c _ ⟨_, _, hR0⟩ HBD.out hll).mono ?_
  rintro e w1 ⟨rfl, hb1⟩
  clear hR0
  have hZ : Blk w1 w.heap.size 23 #[.int .i64 0, .string ⟨#[]⟩, .int .i64 0] := (Blk.new _ _ _).new_ hb1
  have hB1 : Below w.heap.size w w1 := ((Below.refl w.heap.size w).alloc (Nat.le_refl _) _).trans (hb1.mono (by simp))
  have HB1 := Lib.hid hB1
  have HZ := Lib.hid hZ
  have z0 : w1.cell? ⟨w.heap.size, 0, none⟩ = some (.int .i64 0) := (hZ.cell 0).trans rfl
  have z1 : w1.cell? ⟨w.heap.size, 1, none⟩ = some (.string ⟨#[]⟩) := (hZ.cell 1).trans rfl
  have z2 : w1.cell? ⟨w.heap.size, 2, none⟩ = some (.int .i64 0) := (hZ.cell 2).trans rfl
  have f0 := hZ.frozen 0
  have f1 := hZ.frozen 1
  have f2 := hZ.frozen 2
  have hzl := hZ.lt
  clear hb1 hZ hB1
  obtain ⟨hBk, _, _⟩ := HR.out.below_ HB1.out
  have s0 : w1.cell? ⟨k, 0, none⟩ = some (.int .i64 room) := (hBk.cell 0).trans rfl
  have s1 : w1.cell? ⟨k, 1, none⟩ = some (.slice A0 l.length cap0) := (hBk.cell 1).trans rfl
  have hkl := hBk.lt
  clear hBk
  go_wp2_with fail
  go_quiet (fail)
  go_wp2_with fail
  exact bodyPost_ret (v := .tuple #[.agg #[.int .i64 0, .string ⟨#[]⟩, .int .i64 0], .int .i64 20]) (by simp [results, Try.results26, go_sem, z0, z1, z2]) rfl ⟨rfl, by (repeat (first | exact Below.refl _ _ | exact HB1.out | exact Below.drewN' HB1.out _ | (refine Below.drew ?_) | (refine Below.alloc ?_ (by simp <;> omega) _) | (refine Below.setCell ?_ (by simp <;> omega) _)))⟩

set_option maxRecDepth 100000 in
set_option maxHeartbeats 4000000 in
theorem rfresh_new (k : Nat) (room : Int) (l : List Sym) (c : UInt8) (A0 : Option Addr) (cap0 : Nat) (w : World) (hR : RTabA w k room l A0 cap0) (hbd : ∀ s ∈ l, s.kind = 1 → s.n ≤ 1048576) (hll : (l.length : Int) ≤ 1000000) (hs : Srt cmpSym l) (hn : nextL l c ≠ 0) (hf : ¬ room ≤ l.length) (hg : nextL l c ≤ 1048576) :
    Calls Try.prog 26 #[.pointer (some ⟨k, 0, none⟩), .int .u8 (c.toNat : Int)] w fun e w' => e = .returned (.tuple #[.agg #[.int .i64 1, .string (letB c), .int .i64 (nextL l c)], .int .i64 0]) ∧ (∃ A' cap', RTabA w' k room (put cmpSym l ⟨1, letB c, nextL l c⟩) A' cap' ∧ From A0 w.heap.size A') ∧ Fr (· = k) w w' := by
  have t1 : (nextL l c == 0) = false := by simp [hn]
  have t2 : decide (room ≤ (l.length : Int)) = false := by simpa using hf
  have t3 : decide ((1048576 : Int) < nextL l c) = false := by simpa using hg
  have HSO := Lib.hid hs
  clear hn hf hg hs
  have HR := Lib.hid hR
  have HBD := Lib.hid hbd
  clear hR hbd
  go_enter Try.func26, Try.ntmps26
  go_wp2_with fail
  have hR0 := HR.out.below_ ((Below.refl w.heap.size w).alloc (Nat.le_refl _) (Obj.cells #[Value.int IntKind.i64 0, Value.string ⟨#[]⟩, Value.int IntKind.i64 0] 23))
  refine (rnext_is k room l c _ ⟨_, _, hR0⟩ HBD.out hll).mono ?_
  rintro e w1 ⟨rfl, hb1⟩
  clear hR0
  have hZ : Blk w1 w.heap.size 23 #[.int .i64 0, .string ⟨#[]⟩, .int .i64 0] := (Blk.new _ _ _).new_ hb1
  have hB1 : Below w.heap.size w w1 := ((Below.refl w.heap.size w).alloc (Nat.le_refl _) _).trans (hb1.mono (by simp))
  have HB1 := Lib.hid hB1
  have HZ := Lib.hid hZ
  have z0 : w1.cell? ⟨w.heap.size, 0, none⟩ = some (.int .i64 0) := (hZ.cell 0).trans rfl
  have z1 : w1.cell? ⟨w.heap.size, 1, none⟩ = some (.string ⟨#[]⟩) := (hZ.cell 1).trans rfl
  have z2 : w1.cell? ⟨w.heap.size, 2, none⟩ = some (.int .i64 0) := (hZ.cell 2).trans rfl
  have f0 := hZ.frozen 0
  have f1 := hZ.frozen 1
  have f2 := hZ.frozen 2
  have hzl := hZ.lt
  clear hb1 hZ hB1
  obtain ⟨hBk, _, _⟩ := HR.out.below_ HB1.out
  have s0 : w1.cell? ⟨k, 0, none⟩ = some (.int .i64 room) := (hBk.cell 0).trans rfl
  have s1 : w1.cell? ⟨k, 1, none⟩ = some (.slice A0 l.length cap0) := (hBk.cell 1).trans rfl
  have hkl := hBk.lt
  clear hBk
  go_wp2_with fail
  go_quiet (fail)
  have hcv := convL c ((w1.drewN nq).alloc (Obj.cells #[Value.int IntKind.u8 (c.toNat : Int)] 5)) w1.heap.size (((Blk.new (w1.drewN nq) 5 #[.int .u8 (c.toNat : Int)]).cell 0).trans rfl)
  go_wp2_with fail
  clear hcv s0 s1
  obtain ⟨X, hX⟩ : ∃ X, X = (((w1.drewN nq).alloc (Obj.cells #[Value.int IntKind.u8 (c.toNat : Int)] 5)).alloc (Obj.cells #[Value.int IntKind.i64 1, Value.string (letB c), Value.int IntKind.i64 (nextL l c)] 23)) := ⟨_, rfl⟩
  have hBX : Below w1.heap.size w1 X := by rw [hX]; exact ((Below.drewN' (Below.refl _ _) nq).alloc (by simp) _).alloc (by simp) _
  have hC : Blk X (w1.heap.size + 1) 23 #[.int .i64 1, .string (letB c), .int .i64 (nextL l c)] := by
    rw [hX]
    have := Blk.new ((w1.drewN nq).alloc (Obj.cells #[Value.int IntKind.u8 (c.toNat : Int)] 5)) 23 #[.int .i64 1, .string (letB c), .int .i64 (nextL l c)]
    simpa using this
  rw [← hX]
  clear hX
  have hBX2 := HB1.out.trans (hBX.mono HB1.out.size)
  obtain ⟨A, hAA⟩ : ∃ A, A = A0 := ⟨_, rfl⟩
  obtain ⟨cap, hcc⟩ : ∃ cap, cap = cap0 := ⟨_, rfl⟩
  obtain ⟨hBk0, hrd0, hAk⟩ := HR.out
  rw [← hAA, ← hcc] at hBk0 hrd0
  rw [← hAA] at hAk
  have HAA := Lib.hid hAA
  clear hAA hcc
  have HBk0 := Lib.hid hBk0.lt
  have HAKW := Lib.hid (show AIn A (· ≠ w.heap.size) from hAk.mono (fun j hj => by have := hj.2; omega))
  have hBk := hBk0.new_ hBX2
  have hrd := hrd0.new_ hBX2
  clear hBk0 hrd0
  have s1 : X.cell? ⟨k, 1, none⟩ = some (.slice A l.length cap) := (hBk.cell 1).trans rfl
  have hkl := hBk.lt
  have y0 : X.cell? ⟨w1.heap.size + 1, 0, none⟩ = some (.int .i64 1) := (hC.cell 0).trans rfl
  have y1 : X.cell? ⟨w1.heap.size + 1, 1, none⟩ = some (.string (letB c)) := (hC.cell 1).trans rfl
  have y2 : X.cell? ⟨w1.heap.size + 1, 2, none⟩ = some (.int .i64 (nextL l c)) := (hC.cell 2).trans rfl
  have hcl := hC.lt
  have HBk := Lib.hid hBk
  have HRD := Lib.hid hrd
  have HAK := Lib.hid hAk
  have HBX2 := Lib.hid hBX2
  have HC := Lib.hid hC
  have hzx := hBX.size
  have HBX := Lib.hid hBX
  clear hBk hrd hAk hBX2 hC hBX
  refine wp_region_E (fun w9 => Below X.heap.size X w9) [(0, 0), (1, 0), (2, 0), (3, 0), (4, 1), (5, 1), (6, 2), (7, 0), (8, 0), (9, 2)] (by kernel_rfl) (by kernel_rfl) (fun KK hKK => ?_)
  simp only [beside, List.filterMap_cons, List.filterMap_nil, List.getElem?_toArray, List.getElem?_cons_zero, List.getElem?_cons_succ, Option.map_some]
  repeat (first | (refine wpX_w ?_ (Or.inl ⟨by rfl, fun w9 => ?_⟩) ?_; rotate_left 1; go_simp; with_reducible rfl; simp only [Act.put, List.setIfInBounds_toArray, List.set_cons_zero, List.set_cons_succ]) | (refine wpX_l ?_ (((Below.refl _ _).drew)) (Or.inl ⟨by rfl, fun w9 hw9 => ?_⟩) ?_; rotate_left 1; obtain ⟨hc9, hf9⟩ := bcell hw9; go_simp; with_reducible rfl; simp only [Act.put, List.setIfInBounds_toArray, List.set_cons_zero, List.set_cons_succ]) | (refine wpX_w undef (Or.inr ⟨by rfl, rfl⟩) ?_; simp only [Act.put, List.setIfInBounds_toArray, List.set_cons_zero, List.set_cons_succ]) | (refine wpX_l undef (((Below.refl _ _).drew)) (Or.inr ⟨by rfl, rfl⟩) ?_; simp only [Act.put, List.setIfInBounds_toArray, List.set_cons_zero, List.set_cons_succ]))
  refine wpX_e (by kernel_rfl) (fun K9 hK9 => ?_)
  go_simp
  refine (rput_is A cap l ⟨1, letB c, nextL l c⟩ _ (HRD.out.new_ ((Below.refl _ _).drew)) HSO.out (by omega)).mono ?_
  rintro e w8 ⟨A8, c8, rfl, hr8, hA8, hb8⟩
  have hb8' : Below X.heap.size X w8 := (Below.refl X.heap.size X).drew.trans (hb8.mono (by simp))
  have hBk8 := HBk.out.new_ hb8'
  have HFR8 := Lib.hid ((From.refl A w.heap.size).step (by have := HBX2.out.size; simp; omega) hA8)
  have HA8 := Lib.hid (show AIn A8 (fun j => j ≠ k ∧ j < w8.heap.size) by
    rcases hA8 with rfl | h
    · exact HAK.out.mono (fun j hj => ⟨hj.1, by have := hj.2; have := HBX2.out.size; have := hb8.size; simp at *; omega⟩)
    · exact h.mono (fun j hj => by have := hj.1; have := hj.2; simp at *; omega))
  have HA82 := Lib.hid (show AIn A8 (· ≠ w.heap.size) by
    rcases hA8 with rfl | h
    · exact HAKW.out
    · exact h.mono (fun j hj => by have := hj.1; have := HB1.out.size; simp at *; omega))
  have HR8 := Lib.hid hr8
  have HBk8 := Lib.hid hBk8
  have hZ8 := (HZ.out.new_ HBX.out).new_ hb8'
  have hC8 := HC.out.new_ hb8'
  have u0 : w8.cell? ⟨w.heap.size, 0, none⟩ = some (.int .i64 0) := (hZ8.cell 0).trans rfl
  have u1 : w8.cell? ⟨w.heap.size, 1, none⟩ = some (.string ⟨#[]⟩) := (hZ8.cell 1).trans rfl
  have u2 : w8.cell? ⟨w.heap.size, 2, none⟩ = some (.int .i64 0) := (hZ8.cell 2).trans rfl
  have g0 := hZ8.frozen 0
  have g1 := hZ8.frozen 1
  have g2 := hZ8.frozen 2
  have v0 : w8.cell? ⟨w1.heap.size + 1, 0, none⟩ = some (.int .i64 1) := (hC8.cell 0).trans rfl
  have v1 : w8.cell? ⟨w1.heap.size + 1, 1, none⟩ = some (.string (letB c)) := (hC8.cell 1).trans rfl
  have v2 : w8.cell? ⟨w1.heap.size + 1, 2, none⟩ = some (.int .i64 (nextL l c)) := (hC8.cell 2).trans rfl
  have q1 : w8.cell? ⟨k, 1, none⟩ = some (.slice A l.length cap) := (hBk8.cell 1).trans rfl
  have g3 := hBk8.frozen 1
  have hzl8 := hZ8.lt
  have hcl8 := hC8.lt
  have hkl8 := hBk8.lt
  have hnk : w.heap.size ≠ k := (by have := HBk0.out; omega)
  have hnk2 : w1.heap.size + 1 ≠ k := (by have := HBk0.out; have := HB1.out.size; omega)
  have hnk3 : w1.heap.size + 1 ≠ w.heap.size := (by have := HB1.out.size; omega)
  have HB8 := Lib.hid (HBX2.out.trans (hb8'.mono (by have := HBX2.out.size; omega)))
  clear hb8 hb8' hA8 hr8 hBk8 hZ8 hC8 s1 y0 y1 y2
  refine hK9 _ _ ?_
  clear hK9 K9
  repeat (first | (refine wpX_w ?_ (Or.inl ⟨by rfl, fun w9 => ?_⟩) ?_; rotate_left 1; go_simp; with_reducible rfl; simp only [Act.put, List.setIfInBounds_toArray, List.set_cons_zero, List.set_cons_succ]) | (refine wpX_l ?_ (((Below.refl _ _).drew)) (Or.inl ⟨by rfl, fun w9 hw9 => ?_⟩) ?_; rotate_left 1; obtain ⟨hc9, hf9⟩ := bcell hw9; go_simp; with_reducible rfl; simp only [Act.put, List.setIfInBounds_toArray, List.set_cons_zero, List.set_cons_succ]) | (refine wpX_w undef (Or.inr ⟨by rfl, rfl⟩) ?_; simp only [Act.put, List.setIfInBounds_toArray, List.set_cons_zero, List.set_cons_succ]) | (refine wpX_l undef (((Below.refl _ _).drew)) (Or.inr ⟨by rfl, rfl⟩) ?_; simp only [Act.put, List.setIfInBounds_toArray, List.set_cons_zero, List.set_cons_succ]))
  refine wpX_e (by kernel_rfl) (fun K9 hK9 => ?_)
  go_simp
  refine hK9 _ _ ?_
  clear hK9 K9
  refine wpX_nil ?_
  simp only [OnlyN_normal]
  refine hKK _ _ ?_
  clear hKK KK
  go_wp2_with fail
  refine bodyPost_ret (v := .tuple #[.agg #[.int .i64 1, .string (letB c), .int .i64 (nextL l c)], .int .i64 0]) (by simp [results, Try.results26, go_sem, u0, u1, u2]) rfl ⟨rfl, ⟨A8, c8, ⟨?_, ?_, ?_⟩, ?_⟩, ?_⟩
  · exact (((HBk8.out.set_ 1 _).far (p := ⟨w.heap.size, 0, none⟩) (by dsimp only; omega) _).far (p := ⟨w.heap.size, 1, none⟩) (by dsimp only; omega) _).far (p := ⟨w.heap.size, 2, none⟩) (by dsimp only; omega) _
  · refine HR8.out.fr (M := fun j => j = k ∨ j = w.heap.size) ((((Fr.refl _ w8).setCell (p := ⟨k, 1, none⟩) (.inl (.inl rfl)) _).setCell (p := ⟨w.heap.size, 0, none⟩) (.inl (.inr rfl)) _).setCell (p := ⟨w.heap.size, 1, none⟩) (.inl (.inr rfl)) _ |>.setCell (p := ⟨w.heap.size, 2, none⟩) (.inl (.inr rfl)) _) ?_
    intro a ha hm
    rcases hm with hm | hm
    · exact (HA8.out a ha).1 hm
    · exact HA82.out a ha hm
  · exact HA8.out.mono (fun j hj => ⟨hj.1, by simpa using hj.2⟩)
  · rw [← HAA.out]; exact HFR8.out
  · exact (((((Fr.of_new (M := (· = k)) HB8.out)).setCell (p := ⟨k, 1, none⟩) (.inl rfl) _).setCell (p := ⟨w.heap.size, 0, none⟩) (.inr (Nat.le_refl _)) _).setCell (p := ⟨w.heap.size, 1, none⟩) (.inr (Nat.le_refl _)) _).setCell (p := ⟨w.heap.size, 2, none⟩) (.inr (Nat.le_refl _)) _
end Go.Proofs.Ytlkffnmmphehdaa

namespace Go.Proofs.Ytlkffnmmphehdaa
open Go.RowKit
theorem srt_ext {α : Type} {cmp : α → α → Int} (t : TC cmp) (h0 : ∀ x, ¬ cmp x x < 0) : ∀ {l m : List α}, Srt cmp l → Srt cmp m → (∀ x, x ∈ l ↔ x ∈ m) → l = m
  | [], [], _, _, _ => rfl
  | [], b :: m, _, _, h => absurd ((h b).2 (by simp)) (by simp)
  | a :: l, [], _, _, h => absurd ((h a).1 (by simp)) (by simp)
  | a :: l, b :: m, hl, hm, h => by
    unfold Srt at hl hm
    rw [List.pairwise_cons] at hl hm
    have e : a = b := by
      rcases List.mem_cons.1 ((h a).1 (by simp)) with e | e
      · exact e
      · rcases List.mem_cons.1 ((h b).2 (by simp)) with e2 | e2
        · exact e2.symm
        · have h1 := hm.1 a e
          have h2 := hl.1 b e2
          have h3 := (t.symm _ _).1 h1
          omega
    subst e
    rw [srt_ext t h0 hl.2 hm.2 (fun x => ?_)]
    constructor
    · intro hx
      rcases List.mem_cons.1 ((h x).1 (by simp [hx])) with e | e
      · subst e; exact absurd (hl.1 x hx) (h0 x)
      · exact e
    · intro hx
      rcases List.mem_cons.1 ((h x).2 (by simp [hx])) with e | e
      · subst e; exact absurd (hm.1 x hx) (h0 x)
      · exact e
theorem sym_ext {l m : List Sym} (hl : Srt cmpSym l) (hm : Srt cmpSym m) (h : ∀ x, x ∈ l ↔ x ∈ m) : l = m :=
  srt_ext tc_sym (fun x => by have := (cmpSym_eq (a := x) (b := x)).2 rfl; omega) hl hm h
theorem mem_put_iff {l : List Sym} {x y : Sym} : y ∈ put cmpSym l x ↔ y ∈ l ∨ y = x := by
  unfold put
  split
  · rename_i h
    obtain ⟨z, hz, e⟩ := has_iff.1 h
    have := cmpSym_eq.1 e
    subst this
    constructor
    · exact .inl
    · rintro (h | rfl)
      · exact h
      · exact hz
  · rename_i h
    have hn := has_false.1 (by simpa using h)
    simp only [List.mem_append, List.mem_cons, mem_below, mem_above]
    constructor
    · rintro (h | h | h)
      · exact .inl h.1
      · exact .inr h
      · exact .inl h.1
    · rintro (h | h)
      · have := hn y h
        rcases Int.lt_trichotomy (cmpSym y x) 0 with h1 | h1 | h1
        · exact .inl ⟨h, h1⟩
        · exact absurd h1 this
        · exact .inr (.inr ⟨h, h1⟩)
      · exact .inr (.inl h)
theorem mem_puts_iff : ∀ (xs : List Sym) {l : List Sym} {y : Sym}, y ∈ puts cmpSym l xs ↔ y ∈ l ∨ y ∈ xs
  | [], _, _ => by simp [puts]
  | x :: xs, l, y => by
    rw [show puts cmpSym l (x :: xs) = puts cmpSym (put cmpSym l x) xs from rfl, mem_puts_iff xs, mem_put_iff]
    simp [or_assoc]
theorem has_mem {l : List Sym} {x : Sym} : has cmpSym l x = true ↔ x ∈ l := by
  rw [has_iff]
  constructor
  · rintro ⟨z, hz, e⟩
    rw [← cmpSym_eq.1 e]; exact hz
  · exact fun h => ⟨x, h, cmpSym_eq.2 rfl⟩
theorem same_refl (l : List Sym) : l.length = l.length ∧ ∀ k, (h : k < l.length) → (h' : k < l.length) → cmpSym l[k] l[k] = 0 := ⟨rfl, fun _ _ _ => cmpSym_eq.2 rfl⟩
theorem same_of {l m : List Sym} (e : l = m) : l.length = m.length ∧ ∀ k, (h : k < l.length) → (h' : k < m.length) → cmpSym l[k] m[k] = 0 := by subst e; exact same_refl l
theorem made_open {D : Nat → Prop} {w : World} {S : Nat → Option (List Sym)} {σ : Nat → St} {l : List Sym} {e : Ending} {w' : World} (h : MadeSym D w S σ l e w') :
    ∃ k, e = .returned (.pointer (some ⟨k, 0, none⟩)) ∧ ∃ S' σ', SymSets D w' S' σ' ∧ S' k = some l ∧ (∀ b l, S b = some l → S' b = some l) ∧ (∀ b l, S b = some l → b ≠ k) ∧ Fr (fun k => ¬ D k) w w' := by
  obtain ⟨k, he, _, hn, σ', hs, hF⟩ := h
  exact ⟨k, he, _, σ', hs, upd_same _ _ _, fun b l hb => by rw [upd_ne _ _ (hn b l hb)]; exact hb, hn, hF⟩
end Go.Proofs.Ytlkffnmmphehdaa

namespace Go.Proofs.Ytlkffnmmphehdaa
theorem maxFold_le (c : UInt8) (k : Int) : ∀ (l : List Sym) (a : Int), l.foldl (fun n s => if s.kind = 1 ∧ s.text = letB c then max n s.n else n) a ≤ k ↔ a ≤ k ∧ ∀ s ∈ l, s.kind = 1 ∧ s.text = letB c → s.n ≤ k
  | [], a => by simp
  | s :: l, a => by
    rw [List.foldl_cons, maxFold_le c k l]
    by_cases h : s.kind = 1 ∧ s.text = letB c
    · rw [if_pos h]
      constructor
      · rintro ⟨h1, h2⟩
        refine ⟨by omega, fun x hx hc => ?_⟩
        rcases List.mem_cons.1 hx with rfl | hx
        · omega
        · exact h2 x hx hc
      · rintro ⟨h1, h2⟩
        exact ⟨by have := h2 s (by simp) h; omega, fun x hx hc => h2 x (by simp [hx]) hc⟩
    · rw [if_neg h]
      constructor
      · rintro ⟨h1, h2⟩
        refine ⟨h1, fun x hx hc => ?_⟩
        rcases List.mem_cons.1 hx with rfl | hx
        · exact absurd hc h
        · exact h2 x hx hc
      · rintro ⟨h1, h2⟩
        exact ⟨h1, fun x hx hc => h2 x (by simp [hx]) hc⟩
theorem maxL_le {l : List Sym} {c : UInt8} {k : Int} : maxL l c ≤ k ↔ 0 ≤ k ∧ ∀ s ∈ l, s.kind = 1 ∧ s.text = letB c → s.n ≤ k := maxFold_le c k l 0
theorem maxL_congr {l l' : List Sym} (c : UInt8) (h : ∀ x, x ∈ l ↔ x ∈ l') : maxL l c = maxL l' c := by
  have h1 : maxL l c ≤ maxL l' c := maxL_le.2 (by have := maxL_le.1 (Int.le_refl (maxL l' c)); exact ⟨this.1, fun s hs => this.2 s ((h s).1 hs)⟩)
  have h2 : maxL l' c ≤ maxL l c := maxL_le.2 (by have := maxL_le.1 (Int.le_refl (maxL l c)); exact ⟨this.1, fun s hs => this.2 s ((h s).2 hs)⟩)
  omega
theorem maxL_put (l : List Sym) (s : Sym) (c : UInt8) : maxL (put cmpSym l s) c = if s.kind = 1 ∧ s.text = letB c then max (maxL l c) s.n else maxL l c := by
  rw [← maxL_snoc]
  exact maxL_congr c (fun x => by rw [mem_put_iff]; simp)
theorem maxL_nonneg (l : List Sym) (c : UInt8) : 0 ≤ maxL l c := (maxL_le.1 (Int.le_refl _)).1
theorem mem_mput {m : List Page} {p y : Page} : y ∈ mput m p ↔ (y ∈ m ∧ y.key ≠ p.key) ∨ y = p := by
  have hn : has cmpPage (drop cmpPage m p) p = false := by
    rw [has_false]
    intro y hy
    exact (mem_drop.1 hy).2
  unfold mput put
  rw [if_neg (by rw [hn]; simp)]
  simp only [List.mem_append, List.mem_cons, mem_below, mem_above, mem_drop]
  have e : ∀ y : Page, cmpPage y p ≠ 0 ↔ y.key ≠ p.key := fun y => by rw [ne_eq, cmpPage_eq]
  constructor
  · rintro (⟨⟨h1, h2⟩, _⟩ | h | ⟨⟨h1, h2⟩, _⟩)
    · exact .inl ⟨h1, (e y).1 h2⟩
    · exact .inr h
    · exact .inl ⟨h1, (e y).1 h2⟩
  · rintro (⟨h1, h2⟩ | h)
    · have h3 := (e y).2 h2
      by_cases hlt : cmpPage y p < 0
      · exact .inl ⟨⟨h1, h3⟩, hlt⟩
      · exact .inr (.inr ⟨⟨h1, h3⟩, by omega⟩)
    · exact .inr (.inl h)
theorem srt_mput {m : List Page} (hs : Srt cmpPage m) (p : Page) : Srt cmpPage (mput m p) := (hs.drop p).put tc_page p
theorem mget_of_not {m : List Page} {c : UInt8} (h : ∀ y ∈ m, y.key ≠ c) : mget m c = none := by
  refine mget_none ?_
  rw [has_false]
  intro y hy e
  exact h y hy (cmpPage_eq.1 e)
theorem mget_iff {m : List Page} (hs : Srt cmpPage m) {c : UInt8} {v : Int} : mget m c = some v ↔ ⟨c, v⟩ ∈ m := by
  constructor
  · intro h
    unfold mget at h
    cases hf : m.find? fun p => p.key == c with
    | none => rw [hf] at h; simp at h
    | some y =>
      rw [hf] at h
      simp only [Option.map_some, Option.some.injEq] at h
      have h1 := List.mem_of_find?_eq_some hf
      have h2 := List.find?_some hf
      simp only [beq_iff_eq] at h2
      have : (⟨c, v⟩ : Page) = y := by cases y; simp_all
      rw [this]; exact h1
  · intro h; exact mget_some hs h rfl
theorem mget_mput {m : List Page} (hs : Srt cmpPage m) (p : Page) (c : UInt8) : mget (mput m p) c = if p.key = c then some p.v else mget m c := by
  by_cases h : p.key = c
  · rw [if_pos h]
    exact mget_some (srt_mput hs p) (mem_mput.2 (.inr rfl)) h
  · rw [if_neg h]
    cases hm : mget m c with
    | some v => exact (mget_iff (srt_mput hs p)).2 (mem_mput.2 (.inl ⟨(mget_iff hs).1 hm, fun e => h e.symm⟩))
    | none =>
      refine mget_of_not (fun y hy e => ?_)
      rcases mem_mput.1 hy with ⟨h1, _⟩ | rfl
      · have : mget m c = some y.v := mget_some hs h1 e
        rw [hm] at this; cases this
      · exact h e
theorem page_len {m : List Page} (hs : Srt cmpPage m) : (m.length : Int) ≤ 256 := by
  have h : ∀ i, (hi : i < m.length) → (i : Int) ≤ m[i].kk := by
    intro i
    induction i with
    | zero => intro hi; exact (Page.kk_bd _).1
    | succ i ih =>
      intro hi
      have h1 := ih (by omega)
      have h2 : cmpPage (m[i]'(by omega)) m[i + 1] < 0 := hs.lt (Nat.lt_succ_self i) hi
      unfold cmpPage at h2
      omega
  rcases Nat.eq_zero_or_pos m.length with h0 | h0
  · omega
  · have h1 := h (m.length - 1) (by omega)
    have h2 := (Page.kk_bd (m[m.length - 1]'(by omega))).2
    omega
/-- The map of next numbers fits the list. -/
def TI (l : List Sym) (m : List Page) : Prop := Srt cmpPage m ∧ ∀ c, greatB c = true → nextB m c = maxL l c + 1
theorem TI.nil : TI [] [] := ⟨Srt.nil, fun c hc => by unfold nextB mget maxL; rw [if_pos hc]; rfl⟩
theorem TI.next {l : List Sym} {m : List Page} (h : TI l m) (c : UInt8) : nextB m c = nextL l c := by
  unfold nextL
  cases hg : greatB c
  · unfold nextB; simp [hg]
  · rw [if_pos rfl]; exact h.2 c hg
theorem letB_inj {c d : UInt8} (h : letB c = letB d) : c = d := by
  have : idc (letB c) = idc (letB d) := by rw [h]
  exact this
theorem letB_of {t : ByteArray} (h : t.size = 1) : t = letB (idc t) := by
  rw [idc_eq (by omega)]
  obtain ⟨a⟩ := t
  have hs : a.size = 1 := h
  unfold letB
  congr 1
  apply Array.ext
  · simpa using hs
  · intro i h1 h2
    have hi : i = 0 := by omega
    subst hi
    rfl
theorem hasNot {l : List Sym} {x : Sym} : has cmpSym l x = false ↔ x ∉ l := by
  rw [← has_mem]; simp
theorem TI.put {l : List Sym} {m : List Page} (h : TI l m) {s : Sym} (hv : validB s = true) : TI (put cmpSym l s) (tputM m s) := by
  by_cases hk : s.kind = 1
  · obtain ⟨k, t, n⟩ := s
    dsimp only at hk
    subst hk
    obtain ⟨h1, h2, h3, h4⟩ := validB_id hv
    have ht := letB_of h1
    have hg : greatB (idc t) = true := by
      rw [idc_eq (by omega)]
      have := h2
      rwa [headB_eq (by omega)] at this
    have hnx := h.2 (idc t) hg
    unfold tputM
    dsimp only
    by_cases hc : nextB m (idc t) ≤ n
    · rw [if_pos ⟨rfl, hc⟩]
      refine ⟨srt_mput h.1 _, fun c hcg => ?_⟩
      have hc2 := h.2 c hcg
      rw [maxL_put]
      unfold nextB at hc2 ⊢
      rw [if_pos hcg] at hc2 ⊢
      rw [mget_mput h.1]
      dsimp only
      by_cases e : idc t = c
      · subst e
        rw [if_pos rfl, if_pos ⟨rfl, ht⟩]
        simp only [Option.getD_some]
        omega
      · rw [if_neg e, if_neg (fun hh => e (letB_inj (ht.symm.trans hh.2)))]
        exact hc2
    · rw [if_neg (fun hh => hc hh.2)]
      refine ⟨h.1, fun c hcg => ?_⟩
      rw [maxL_put, h.2 c hcg]
      by_cases e : idc t = c
      · subst e
        rw [if_pos ⟨rfl, ht⟩]
        dsimp only
        omega
      · rw [if_neg (fun hh => e (letB_inj (ht.symm.trans hh.2)))]
  · unfold tputM
    rw [if_neg (fun hh => hk hh.1)]
    refine ⟨h.1, fun c hcg => ?_⟩
    rw [maxL_put, if_neg (fun hh => hk hh.1)]
    exact h.2 c hcg
theorem TI.puts {m : List Page} : ∀ (xs : List Sym) {l : List Sym} {m : List Page}, TI l m → (∀ s ∈ xs, validB s = true) → TI (puts cmpSym l xs) (xs.foldl tputM m)
  | [], _, _, h, _ => h
  | x :: xs, _, _, h, hv => TI.puts (m := m) xs (h.put (hv x (by simp))) (fun s hs => hv s (by simp [hs]))
/-- Those of a list that are new. -/
def frsh (l L : List Sym) : List Sym := puts cmpSym [] (L.filter fun s => !has cmpSym l s)
theorem frsh_nil (l : List Sym) : frsh l [] = [] := rfl
theorem mem_frsh {l L : List Sym} {x : Sym} : x ∈ frsh l L ↔ x ∈ L ∧ x ∉ l := by
  unfold frsh
  rw [mem_puts_iff]
  simp [hasNot]
theorem frsh_srt (l L : List Sym) : Srt cmpSym (frsh l L) := Srt.puts tc_sym _ Srt.nil
theorem frsh_snoc (l L : List Sym) (x : Sym) : frsh l (L ++ [x]) = if has cmpSym l x = true then frsh l L else put cmpSym (frsh l L) x := by
  unfold frsh
  rw [List.filter_append]
  by_cases h : has cmpSym l x = true
  · rw [if_pos h]; simp [h]
  · rw [if_neg h]
    have : has cmpSym l x = false := by simpa using h
    simp only [List.filter_cons, this, Bool.not_false, if_true, List.filter_nil]
    exact puts_snoc _ _ _
theorem puts_frsh {l : List Sym} (hs : Srt cmpSym l) (L : List Sym) : puts cmpSym l (frsh l L) = puts cmpSym l L := by
  refine sym_ext (Srt.puts tc_sym _ hs) (Srt.puts tc_sym _ hs) (fun x => ?_)
  rw [mem_puts_iff, mem_puts_iff, mem_frsh]
  by_cases h : x ∈ l <;> simp [h]
theorem length_frsh {l : List Sym} (hs : Srt cmpSym l) (L : List Sym) : (puts cmpSym l L).length = l.length + (frsh l L).length := by
  suffices h : ∀ R : List Sym, (puts cmpSym l R.reverse).length = l.length + (frsh l R.reverse).length by simpa using h L.reverse
  intro R
  induction R with
  | nil => simp [puts, frsh]
  | cons x R ih =>
    rw [List.reverse_cons, puts_snoc, frsh_snoc]
    have hs2 := Srt.puts tc_sym R.reverse hs
    cases h1 : has cmpSym (puts cmpSym l R.reverse) x
    · rw [length_put tc_sym hs2 h1]
      have h2 : x ∉ puts cmpSym l R.reverse := hasNot.1 h1
      rw [mem_puts_iff] at h2
      have h3 : has cmpSym l x = false := hasNot.2 (fun h => h2 (.inl h))
      rw [if_neg (by rw [h3]; simp), length_put tc_sym (frsh_srt _ _) (hasNot.2 (fun h => h2 (.inr (mem_frsh.1 h).1)))]
      omega
    · rw [put_has h1]
      have h2 : x ∈ puts cmpSym l R.reverse := has_mem.1 h1
      rw [mem_puts_iff] at h2
      by_cases h3 : x ∈ l
      · rw [if_pos (has_mem.2 h3)]; exact ih
      · rw [if_neg (by rw [has_mem]; exact h3), put_has (has_mem.2 (mem_frsh.2 ⟨h2.resolve_left h3, h3⟩))]; exact ih
theorem length_put_ge (l : List Sym) (hs : Srt cmpSym l) (x : Sym) : l.length ≤ (put cmpSym l x).length := by
  cases h : has cmpSym l x
  · rw [length_put tc_sym hs h]; omega
  · rw [put_has h]; exact Nat.le_refl _
theorem length_puts_ge : ∀ (xs : List Sym) (l : List Sym), Srt cmpSym l → l.length ≤ (puts cmpSym l xs).length
  | [], _, _ => Nat.le_refl _
  | x :: xs, l, hs => Nat.le_trans (length_put_ge l hs x) (length_puts_ge xs _ (hs.put tc_sym x))
theorem length_frsh_take (l L : List Sym) (i : Nat) : (frsh l (L.take i)).length ≤ (frsh l L).length := by
  have e : frsh l L = puts cmpSym (frsh l (L.take i)) ((L.drop i).filter fun s => !has cmpSym l s) := by
    unfold frsh puts
    rw [← List.foldl_append, ← List.filter_append, List.take_append_drop]
  rw [e]
  exact length_puts_ge _ _ (frsh_srt _ _)
end Go.Proofs.Ytlkffnmmphehdaa

namespace Go.Proofs.Ytlkffnmmphehdaa
open Go.RowKit Go.Shelf
attribute [local go_sem] Oper.semAt_some
section
variable {D : Nat → Prop} {w : World} {S : Nat → Option (List Sym)} {σ : Nat → St} {S2 : Nat → Option (List Page)} {σ2 : Nat → St}
/-- What a table's Put leaves. -/
def TPut (D : Nat → Prop) (w : World) (S : Nat → Option (List Sym)) (σ : Nat → St) (S2 : Nat → Option (List Page)) (σ2 : Nat → St) (T : TB) (l : List Sym) (m : List Page) (L : List Sym) (e : Ending) (w' : World) : Prop :=
  if L.all validB = true then
    if T.room < ((puts cmpSym l L).length : Int) then e = .returned (.int .i64 20) ∧ Below w.heap.size w w'
    else e = .returned (.int .i64 0) ∧ TabPut D w S σ S2 σ2 T (puts cmpSym l L) ((frsh l L).foldl tputM m) w'
  else e = .returned (.int .i64 9) ∧ Below w.heap.size w w'
theorem Sets.priv2 {α : Type} {tSet tE size : Nat} {cells : α → List Value} {cmp : α → α → Int} {w' : World} {S : Nat → Option (List α)} {B : Nat} (h : Sets tSet tE size cells cmp D w S σ) (hp : Priv B w w') : Sets tSet tE size cells cmp D w' S σ :=
  ⟨fun b l hb => (h.at_ b l hb).priv hp, h.srt, h.out, h.apart, fun k hk => Nat.lt_of_lt_of_le (h.low k hk) hp.size⟩
theorem Tabs.priv {w' : World} {B : Nat} (h : Tabs D w S σ S2 σ2) (hp : Priv B w w') : Tabs D w' S σ S2 σ2 := ⟨h.syms.priv2 hp, h.pages.priv2 hp⟩
theorem TabBlk.priv {w' : World} {B : Nat} {T : TB} (h : TabBlk w T) (hp : Priv B w w') : TabBlk w' T := ⟨h.1.priv hp, h.2.priv hp⟩
theorem KB.priv {w' w'' : World} {B : Nat} (h : KB w w') (hp : Priv B w' w'') : KB w w'' := fun g t cs h1 h2 h3 h4 hb => (h g t cs h1 h2 h3 h4 hb).priv hp
/-- Blocks that hold no cells are protected as well. -/
def NoCells (w : World) (k : Nat) : Prop := k < w.heap.size ∧ ¬ cellsAt w k
theorem Sets.quiet {α : Type} {tSet tE size : Nat} {cells : α → List Value} {cmp : α → α → Int} {S : Nat → Option (List α)} (h : Sets tSet tE size cells cmp D w S σ) : Sets tSet tE size cells cmp (fun k => D k ∨ NoCells w k) w S σ :=
  ⟨h.at_, h.srt, fun b l hb => ⟨fun hk => hk.elim (h.out b l hb).1 (fun hk => hk.2 (h.at_ b l hb).blk.at_), fun hs a ha hk => hk.elim ((h.out b l hb).2 hs a ha) (fun hk => hk.2 (owns_cells (h.at_ b l hb).row a.block (by rw [ha]; rfl)))⟩, h.apart, fun k hk => hk.elim (h.low k) (·.1)⟩
theorem Tabs.quiet (h : Tabs D w S σ S2 σ2) : Tabs (fun k => D k ∨ NoCells w k) w S σ S2 σ2 := ⟨h.syms.quiet, h.pages.quiet⟩
theorem keeps_quiet {w' : World} (h : Fr (fun k => ¬ (D k ∨ NoCells w k)) w w') (B : Nat) : KeepsFrom B w w' :=
  KeepsFrom.of_fr h (fun _ hk hl => Classical.byContradiction fun hc => hk (.inr ⟨hl, hc⟩)) B
theorem keepsFrom_same (B : Nat) (w : World) : KeepsFrom B w w := KeepsFrom.of_fr (Fr.refl (fun _ => False) w) (fun _ h => h.elim) B
theorem length_tputM (m : List Page) (s : Sym) : (tputM m s).length ≤ m.length + 1 := by
  unfold tputM
  split
  · unfold mput
    have h1 := length_drop_le (cmp := cmpPage) m ⟨idc s.text, s.n + 1⟩
    have h2 : has cmpPage (drop cmpPage m ⟨idc s.text, s.n + 1⟩) ⟨idc s.text, s.n + 1⟩ = false := by
      rw [has_false]; intro y hy; exact (mem_drop.1 hy).2
    unfold put
    rw [if_neg (by rw [h2]; simp)]
    have h3 : (below cmpPage (drop cmpPage m ⟨idc s.text, s.n + 1⟩) ⟨idc s.text, s.n + 1⟩).length + (above cmpPage (drop cmpPage m ⟨idc s.text, s.n + 1⟩) ⟨idc s.text, s.n + 1⟩).length ≤ (drop cmpPage m ⟨idc s.text, s.n + 1⟩).length := by
      generalize drop cmpPage m ⟨idc s.text, s.n + 1⟩ = X
      induction X with
      | nil => simp [below, above]
      | cons y X ih =>
        simp only [below, above, List.filter_cons] at ih ⊢
        split <;> split <;> simp_all <;> omega
    simp only [List.length_append, List.length_cons]
    omega
  · omega
theorem length_tputMs : ∀ (xs : List Sym) (m : List Page), (xs.foldl tputM m).length ≤ m.length + xs.length
  | [], _ => Nat.le_refl _
  | x :: xs, m => by
    have h1 := length_tputM m x
    have h2 := length_tputMs xs (tputM m x)
    simp only [List.foldl_cons, List.length_cons]
    omega
set_option maxRecDepth 100000 in
set_option maxHeartbeats 8000000 in
theorem tputl_is (T : TB) (l : List Sym) (m : List Page) (L : List Sym) (A2 : Option Addr) (c2 : Nat) (hT : Tabs D w S σ S2 σ2) (hB : TabBlk w T) (hb : S T.bs = some l) (hb2 : S2 T.bp = some m) (hL : RowRd w 3 Sym.cells A2 c2 L)
    (hr1 : 1 ≤ T.room) (hr2 : T.room ≤ 4096) (hlr : (l.length : Int) ≤ T.room) (hl2 : (m.length : Int) ≤ 256) (hLL : (L.length : Int) ≤ 10000) :
    Calls Try.prog 23 #[.pointer (some ⟨T.b, 0, none⟩), .slice A2 L.length c2] w (TPut D w S σ S2 σ2 T l m L) := by
  have HT := Lib.hid hT
  have HB := Lib.hid hB
  have HS := Lib.hid hb
  have HP := Lib.hid hb2
  have HL := Lib.hid hL
  have HSO := Lib.hid (hT.syms.srt T.bs l hb)
  clear hT hB hb hb2 hL
  refine (callsIn_wide (n := 0)).1 ?_
  refine callsIn_of_wp_marks Try.func23 rfl trivial ?_
  refine wpIn_wide.2 ?_
  simp only [Try.ntmps23, List.size_toArray, List.length_cons, List.length_nil, Nat.reduceAdd, Nat.reduceSub, Array.replicate_succ, Array.replicate_zero, List.push_toArray, List.append_toArray, List.nil_append, List.cons_append]
  go_wp2_with fail
  obtain ⟨W0, hW0⟩ : ∃ W0, W0 = w.alloc (.cells #[.pointer (some ⟨T.b, 0, none⟩)] 34) := ⟨_, rfl⟩
  have hb0 : Below w.heap.size w W0 := by rw [hW0]; exact (Below.refl _ _).alloc (Nat.le_refl _) _
  have hX0 : Blk W0 w.heap.size 34 #[.pointer (some ⟨T.b, 0, none⟩)] := by rw [hW0]; exact Blk.new _ _ _
  rw [← hW0]
  clear hW0
  have hz0 := hX0.lt
  have HB0 := Lib.hid hb0
  have HX0 := Lib.hid hX0
  clear hb0 hX0
  go_loopw [4, 15] (fun e s wr => ∃ i : Nat, e = .int .i64 0 ∧ s = .int .i64 i ∧ i ≤ L.length ∧ (∀ j, (h : j < L.length) → j < i → validB L[j] = true) ∧ Below W0.heap.size W0 wr) (fun e s wr => L.length - (intOf s).toNat)
  case atStart => exact ⟨0, rfl, rfl, Nat.zero_le _, fun j _ h => absurd h (by omega), Below.refl _ _⟩
  case round =>
    obtain ⟨i, rfl, rfl, hi, hall, hBl⟩ := hrel
    have HALL := Lib.hid hall
    have HBl := Lib.hid hBl
    have HX1 := Lib.hid (HX0.out.new_ hBl)
    have hz1 := hBl.size
    clear hall hBl
    by_cases hlt : i < L.length
    · obtain ⟨y, hy⟩ : ∃ y, y = L[i] := ⟨_, rfl⟩
      obtain ⟨g, off, rfl, hg, q0, q1, q2⟩ := sym_at (HL.out.new_ (HB0.out.trans (HBl.out.mono (by omega)))) hlt
      rw [← hy] at q0 q1 q2
      have HY := Lib.hid hy
      have b1 : (0 : Int) ≤ (i : Int) := by omega
      have b2 : (i : Int) < (L.length : Int) := by omega
      clear hy
      go_wp2_with fail
      refine (valid_is y _).mono ?_
      rintro e w1 ⟨rfl, hb1⟩
      have HB1 := Lib.hid ((HBl.out.alloc HBl.out.size _).trans (hb1.mono (by have := HBl.out.size; simp; omega)))
      clear hb1 q0 q1 q2
      cases hv : validB y
      · have HE := Lib.hid (rtput_bad_at hlt (by rw [← HY.out]; exact hv))
        go_wp2_with fail
        refine ⟨_, results_tmp rfl _ _ _, ?_⟩
        unfold TPut
        rw [HE.out]
        exact ⟨rfl, HB0.out.trans (HB1.out.mono (by omega))⟩
      · have HV := Lib.hid hv
        go_wp2_with fail
        go_roundw
        case rel => exact ⟨i + 1, rfl, by go_num, by omega, fun j h hj => by
            rcases Nat.lt_or_ge j i with h3 | h3
            · exact HALL.out j h h3
            · obtain rfl : j = i := by omega
              rw [← HY.out]; exact HV.out, HB1.out⟩
        case measure => simp [intOf] <;> omega
    · have hie : i = L.length := by omega
      subst hie
      have HE := Lib.hid (show L.all validB = true from List.all_eq_true.2 (fun x hx => by
        obtain ⟨j, hj, rfl⟩ := List.getElem_of_mem hx
        exact HALL.out j hj hj))
      obtain ⟨w1, hw1⟩ : ∃ w1, w1 = wr := ⟨_, rfl⟩
      rw [← hw1] at HBl HX1 hz1 ⊢
      clear hw1 HALL
      have HB01 := Lib.hid (HB0.out.trans (HBl.out.mono (by omega)))
      go_wp2_with fail
      refine (new_Sym none 0 [] w1 (RowRd.nil _ _ _) (by simp)).mono ?_
      rintro e w2 ⟨k, rfl, hk, sn, A, c, hS2, hA2, hB2⟩
      have HS2 := Lib.hid hS2
      have HA2 := Lib.hid hA2
      have HB2 := Lib.hid hB2
      clear hS2 hA2 hB2
      go_wp2_with fail
      go_loopw [4, 26] (fun e s W => ∃ (i : Nat) (sn : Bool) (A : Option Addr) (c : Nat), e = .int .i64 0 ∧ s = .int .i64 i ∧ i ≤ L.length ∧ SymSet W k sn A c (frsh l (L.take i)) ∧ AIn A (w1.heap.size ≤ ·) ∧ Below w1.heap.size w1 W ∧ ((frsh l (L.take i)).length : Int) ≤ T.room - l.length) (fun e s W => L.length - (intOf s).toNat)
      case atStart => exact ⟨0, sn, A, c, rfl, rfl, Nat.zero_le _, HS2.out, HA2.out, HB2.out, by simp only [List.take_zero, frsh_nil, List.length_nil]; omega⟩
      case round =>
        clear HS2 HA2 HB2
        obtain ⟨i, sn, A, c, rfl, rfl, hi, hSf, hAf, hBf, hroom⟩ := hrel
        have HSf := Lib.hid hSf
        have HAf := Lib.hid hAf
        have HBf := Lib.hid hBf
        have HXf := Lib.hid (HX1.out.new_ hBf)
        have HBw := Lib.hid (HB01.out.trans (hBf.mono (by have := HB01.out.size; omega)))
        have hzf := hBf.size
        have hz01 := HB01.out.size
        clear hSf hAf hBf
        by_cases hlt : i < L.length
        · obtain ⟨y, hy⟩ : ∃ y, y = L[i] := ⟨_, rfl⟩
          obtain ⟨g, off, rfl, hg, q0, q1, q2⟩ := sym_at (HL.out.new_ HBw.out) hlt
          rw [← hy] at q0 q1 q2
          have b1 : (0 : Int) ≤ (i : Int) := by omega
          have b2 : (i : Int) < (L.length : Int) := by omega
          have p0 : wr.cell? ⟨w.heap.size, 0, none⟩ = some (.pointer (some ⟨T.b, 0, none⟩)) := (HXf.out.cell 0).trans rfl
          have hxl := HXf.out.lt
          have HTK := Lib.hid (show L.take (i + 1) = L.take i ++ [y] by rw [List.take_add_one, List.getElem?_eq_getElem hlt, ← hy]; rfl)
          clear hy
          go_wp2_with fail
          obtain ⟨V, hV⟩ : ∃ V, V = wr.alloc (.cells #[.int .i64 y.kind, .string y.text, .int .i64 y.n] 23) := ⟨_, rfl⟩
          have hbV : Below wr.heap.size wr V := by rw [hV]; exact (Below.refl _ _).alloc (Nat.le_refl _) _
          have hYV : Blk V wr.heap.size 23 #[.int .i64 y.kind, .string y.text, .int .i64 y.n] := by rw [hV]; exact Blk.new _ _ _
          rw [← hV]
          clear hV
          have hbVw := HBw.out.trans (hbV.mono HBw.out.size)
          refine (tabhas_is T l y (HT.out.below hbVw) (HB.out.below hbVw) HS.out (by omega)).mono ?_
          rintro e V1 ⟨rfl, hb1⟩
          have hbV1 := hbVw.trans (hb1.mono hbVw.size)
          have hY1 := hYV.new_ hb1
          have hS1 := (HSf.out.new_ hbV).new_ hb1
          have hX1 := (HXf.out.new_ hbV).new_ hb1
          have hbf1 := (HBf.out.trans (hbV.mono HBf.out.size)).trans (hb1.mono (by have := hbV.size; omega))
          have HY1 := Lib.hid hY1
          have HS1 := Lib.hid hS1
          have HX1' := Lib.hid hX1
          have HBV1 := Lib.hid hbV1
          have HBF1 := Lib.hid hbf1
          have hzv1 := hbf1.size
          clear hbV hYV hbVw hb1 hbV1 hY1 hS1 hX1 hbf1 q0 q1 q2 p0
          have p0 : V1.cell? ⟨w.heap.size, 0, none⟩ = some (.pointer (some ⟨T.b, 0, none⟩)) := (HX1'.out.cell 0).trans rfl
          have y0 : V1.cell? ⟨wr.heap.size, 0, none⟩ = some (.int .i64 y.kind) := (HY1.out.cell 0).trans rfl
          have y1 : V1.cell? ⟨wr.heap.size, 1, none⟩ = some (.string y.text) := (HY1.out.cell 1).trans rfl
          have y2 : V1.cell? ⟨wr.heap.size, 2, none⟩ = some (.int .i64 y.n) := (HY1.out.cell 2).trans rfl
          have hyl1 := HY1.out.lt
          have hxl1 := HX1'.out.lt
          cases hh : has cmpSym l y
          · have HH := Lib.hid hh
            clear hh
            go_wp2_with fail
            refine (put_Sym k c sn A (frsh l (L.take i)) y V1 HS1.out (frsh_srt _ _) (by omega)).mono ?_
            rintro e V2 ⟨rfl, sn2, A2', c2', hS2, hF2, hM2⟩
            have hFF : put cmpSym (frsh l (L.take i)) y = frsh l (L.take (i + 1)) := by rw [HTK.out, frsh_snoc, if_neg (by rw [HH.out]; simp)]
            rw [hFF] at hS2
            have hb2 : Below w1.heap.size V1 V2 := hF2.below (by omega) (fun j hj hm => by
              rcases hm with rfl | ⟨_, a, ha, rfl⟩
              · omega
              · have := HAf.out a ha; omega)
            have HBF2 := Lib.hid (HBF1.out.trans hb2)
            have HA2 := Lib.hid (show AIn A2' (w1.heap.size ≤ ·) by
              rcases hM2 with ⟨_, rfl⟩ | ⟨_, g2, hg2, rfl⟩
              · exact HAf.out
              · intro a ha; cases ha; dsimp only; omega)
            have HS2 := Lib.hid hS2
            clear hS2 hF2 hM2 hb2 p0 y0 y1 y2 hFF
            have hbVV := HB01.out.trans (HBF2.out.mono hz01)
            have HBVV := Lib.hid hbVV
            have HTV := Lib.hid (HT.out.below hbVV)
            have hBV := HB.out.below hbVV
            have p0 : V2.cell? ⟨w.heap.size, 0, none⟩ = some (.pointer (some ⟨T.b, 0, none⟩)) := ((HX1.out.new_ HBF2.out).cell 0).trans rfl
            have s0 : V2.cell? ⟨T.b, 0, none⟩ = some (.int .i64 T.room) := (hBV.1.cell 0).trans rfl
            have s1 : V2.cell? ⟨T.b, 1, none⟩ = some (.pointer (some ⟨T.bs, 0, none⟩)) := (hBV.1.cell 1).trans rfl
            have hxV := (HX1.out.new_ HBF2.out).lt
            have hbV := hBV.1.lt
            have v1 : IntKind.i64.wrap (T.room - (l.length : Int)) = T.room - (l.length : Int) := IntWalk.i64_in _ (by omega)
            clear hbVV hBV
            by_cases hfull : T.room - (l.length : Int) < ((frsh l (L.take (i + 1))).length : Int)
            · have t1 : decide (T.room - (l.length : Int) < ((frsh l (L.take (i + 1))).length : Int)) = true := by simpa using hfull
              have HFU := Lib.hid hfull
              clear hfull
              go_wp2_with fail
              refine wp_region_E (fun w9 => Below V2.heap.size V2 w9) [(0, 0), (2, 1), (3, 0), (4, 0), (5, 1), (6, 1), (7, 0), (8, 0), (9, 1), (1, 2), (10, 2), (11, 0), (12, 0)] (by kernel_rfl) (by kernel_rfl) (fun KK hKK => ?_)
              simp only [beside, List.filterMap_cons, List.filterMap_nil, List.getElem?_toArray, List.getElem?_cons_zero, List.getElem?_cons_succ, Option.map_some]
              repeat (first | (refine wpX_w ?_ (Or.inl ⟨by rfl, fun w9 => ?_⟩) ?_; rotate_left 1; go_simp; with_reducible rfl; simp only [Act.put, List.setIfInBounds_toArray, List.set_cons_zero, List.set_cons_succ]) | (refine wpX_l ?_ (((Below.refl _ _).drew)) (Or.inl ⟨by rfl, fun w9 hw9 => ?_⟩) ?_; rotate_left 1; obtain ⟨hc9, hf9⟩ := bcell hw9; go_simp; with_reducible rfl; simp only [Act.put, List.setIfInBounds_toArray, List.set_cons_zero, List.set_cons_succ]) | (refine wpX_w undef (Or.inr ⟨by rfl, rfl⟩) ?_; simp only [Act.put, List.setIfInBounds_toArray, List.set_cons_zero, List.set_cons_succ]) | (refine wpX_l undef (((Below.refl _ _).drew)) (Or.inr ⟨by rfl, rfl⟩) ?_; simp only [Act.put, List.setIfInBounds_toArray, List.set_cons_zero, List.set_cons_succ]))
              refine wpX_es (fun K9 hK9 => ?_)
              go_simp
              refine (len_Sym k _ _ _ (frsh l (L.take (i + 1))) _ (HS2.out.new_ ((Below.refl _ _).drew))).mono ?_
              rintro e wx ⟨rfl, rfl⟩
              refine hK9 _ _ ((Below.refl _ _).drew) ?_
              clear hK9 K9
              refine wpX_es (fun K9 hK9 => ?_)
              go_simp
              refine (len_Sym T.bs _ _ _ l _ ((HTV.out.below ((Below.refl _ _).drew)).syms.at_ T.bs l HS.out)).mono ?_
              rintro e wx ⟨rfl, rfl⟩
              refine hK9 _ _ ((Below.refl _ _).drew) ?_
              clear hK9 K9
              repeat (first | (refine wpX_w ?_ (Or.inl ⟨by rfl, fun w9 => ?_⟩) ?_; rotate_left 1; go_simp; with_reducible rfl; simp only [Act.put, List.setIfInBounds_toArray, List.set_cons_zero, List.set_cons_succ]) | (refine wpX_l ?_ (((Below.refl _ _).drew)) (Or.inl ⟨by rfl, fun w9 hw9 => ?_⟩) ?_; rotate_left 1; obtain ⟨hc9, hf9⟩ := bcell hw9; go_simp; with_reducible rfl; simp only [Act.put, List.setIfInBounds_toArray, List.set_cons_zero, List.set_cons_succ]) | (refine wpX_w undef (Or.inr ⟨by rfl, rfl⟩) ?_; simp only [Act.put, List.setIfInBounds_toArray, List.set_cons_zero, List.set_cons_succ]) | (refine wpX_l undef (((Below.refl _ _).drew)) (Or.inr ⟨by rfl, rfl⟩) ?_; simp only [Act.put, List.setIfInBounds_toArray, List.set_cons_zero, List.set_cons_succ]))
              refine wpX_nil ?_
              simp only [OnlyN_normal]
              refine hKK _ _ ?_
              clear hKK KK
              go_wp2_with fail
              refine ⟨_, results_tmp rfl _ _ _, ?_⟩
              unfold TPut
              have h1 := length_frsh HSO.out L
              have h2 := length_frsh_take l L (i + 1)
              have h3 := HFU.out
              rw [HE.out, if_pos rfl, if_pos (by omega)]
              exact ⟨rfl, HBVV.out.drew⟩
            · have t1 : decide (T.room - (l.length : Int) < ((frsh l (L.take (i + 1))).length : Int)) = false := by simpa using hfull
              have HFU := Lib.hid hfull
              clear hfull
              go_wp2_with fail
              refine wp_region_E (fun w9 => Below V2.heap.size V2 w9) [(0, 0), (2, 1), (3, 0), (4, 0), (5, 1), (6, 1), (7, 0), (8, 0), (9, 1), (1, 2), (10, 2), (11, 0), (12, 0)] (by kernel_rfl) (by kernel_rfl) (fun KK hKK => ?_)
              simp only [beside, List.filterMap_cons, List.filterMap_nil, List.getElem?_toArray, List.getElem?_cons_zero, List.getElem?_cons_succ, Option.map_some]
              repeat (first | (refine wpX_w ?_ (Or.inl ⟨by rfl, fun w9 => ?_⟩) ?_; rotate_left 1; go_simp; with_reducible rfl; simp only [Act.put, List.setIfInBounds_toArray, List.set_cons_zero, List.set_cons_succ]) | (refine wpX_l ?_ (((Below.refl _ _).drew)) (Or.inl ⟨by rfl, fun w9 hw9 => ?_⟩) ?_; rotate_left 1; obtain ⟨hc9, hf9⟩ := bcell hw9; go_simp; with_reducible rfl; simp only [Act.put, List.setIfInBounds_toArray, List.set_cons_zero, List.set_cons_succ]) | (refine wpX_w undef (Or.inr ⟨by rfl, rfl⟩) ?_; simp only [Act.put, List.setIfInBounds_toArray, List.set_cons_zero, List.set_cons_succ]) | (refine wpX_l undef (((Below.refl _ _).drew)) (Or.inr ⟨by rfl, rfl⟩) ?_; simp only [Act.put, List.setIfInBounds_toArray, List.set_cons_zero, List.set_cons_succ]))
              refine wpX_es (fun K9 hK9 => ?_)
              go_simp
              refine (len_Sym k _ _ _ (frsh l (L.take (i + 1))) _ (HS2.out.new_ ((Below.refl _ _).drew))).mono ?_
              rintro e wx ⟨rfl, rfl⟩
              refine hK9 _ _ ((Below.refl _ _).drew) ?_
              clear hK9 K9
              refine wpX_es (fun K9 hK9 => ?_)
              go_simp
              refine (len_Sym T.bs _ _ _ l _ ((HTV.out.below ((Below.refl _ _).drew)).syms.at_ T.bs l HS.out)).mono ?_
              rintro e wx ⟨rfl, rfl⟩
              refine hK9 _ _ ((Below.refl _ _).drew) ?_
              clear hK9 K9
              repeat (first | (refine wpX_w ?_ (Or.inl ⟨by rfl, fun w9 => ?_⟩) ?_; rotate_left 1; go_simp; with_reducible rfl; simp only [Act.put, List.setIfInBounds_toArray, List.set_cons_zero, List.set_cons_succ]) | (refine wpX_l ?_ (((Below.refl _ _).drew)) (Or.inl ⟨by rfl, fun w9 hw9 => ?_⟩) ?_; rotate_left 1; obtain ⟨hc9, hf9⟩ := bcell hw9; go_simp; with_reducible rfl; simp only [Act.put, List.setIfInBounds_toArray, List.set_cons_zero, List.set_cons_succ]) | (refine wpX_w undef (Or.inr ⟨by rfl, rfl⟩) ?_; simp only [Act.put, List.setIfInBounds_toArray, List.set_cons_zero, List.set_cons_succ]) | (refine wpX_l undef (((Below.refl _ _).drew)) (Or.inr ⟨by rfl, rfl⟩) ?_; simp only [Act.put, List.setIfInBounds_toArray, List.set_cons_zero, List.set_cons_succ]))
              refine wpX_nil ?_
              simp only [OnlyN_normal]
              refine hKK _ _ ?_
              clear hKK KK
              go_wp2_with fail
              go_roundw
              case rel => exact ⟨i + 1, sn2, A2', c2', rfl, by go_num, by omega, HS2.out.new_ ((Below.refl _ _).drew), HA2.out, HBF2.out.drew, by have := HFU.out; omega⟩
              case measure => simp [intOf] <;> omega
          · have HH := Lib.hid hh
            clear hh p0 y0 y1 y2
            have HFF := Lib.hid (show frsh l (L.take i) = frsh l (L.take (i + 1)) by rw [HTK.out, frsh_snoc, if_pos HH.out])
            have HS1' := Lib.hid (show SymSet V1 k sn A c (frsh l (L.take (i + 1))) by rw [← HFF.out]; exact HS1.out)
            have p0 : V1.cell? ⟨w.heap.size, 0, none⟩ = some (.pointer (some ⟨T.b, 0, none⟩)) := (HX1'.out.cell 0).trans rfl
            have hbVV := HB01.out.trans (HBF1.out.mono hz01)
            have HBVV := Lib.hid hbVV
            have HTV := Lib.hid (HT.out.below hbVV)
            have hBV := HB.out.below hbVV
            have p0 : V1.cell? ⟨w.heap.size, 0, none⟩ = some (.pointer (some ⟨T.b, 0, none⟩)) := ((HX1.out.new_ HBF1.out).cell 0).trans rfl
            have s0 : V1.cell? ⟨T.b, 0, none⟩ = some (.int .i64 T.room) := (hBV.1.cell 0).trans rfl
            have s1 : V1.cell? ⟨T.b, 1, none⟩ = some (.pointer (some ⟨T.bs, 0, none⟩)) := (hBV.1.cell 1).trans rfl
            have hxV := (HX1.out.new_ HBF1.out).lt
            have hbV := hBV.1.lt
            have v1 : IntKind.i64.wrap (T.room - (l.length : Int)) = T.room - (l.length : Int) := IntWalk.i64_in _ (by omega)
            clear hbVV hBV
            by_cases hfull : T.room - (l.length : Int) < ((frsh l (L.take (i + 1))).length : Int)
            · have t1 : decide (T.room - (l.length : Int) < ((frsh l (L.take (i + 1))).length : Int)) = true := by simpa using hfull
              have HFU := Lib.hid hfull
              clear hfull
              go_wp2_with fail
              refine wp_region_E (fun w9 => Below V1.heap.size V1 w9) [(0, 0), (2, 1), (3, 0), (4, 0), (5, 1), (6, 1), (7, 0), (8, 0), (9, 1), (1, 2), (10, 2), (11, 0), (12, 0)] (by kernel_rfl) (by kernel_rfl) (fun KK hKK => ?_)
              simp only [beside, List.filterMap_cons, List.filterMap_nil, List.getElem?_toArray, List.getElem?_cons_zero, List.getElem?_cons_succ, Option.map_some]
              repeat (first | (refine wpX_w ?_ (Or.inl ⟨by rfl, fun w9 => ?_⟩) ?_; rotate_left 1; go_simp; with_reducible rfl; simp only [Act.put, List.setIfInBounds_toArray, List.set_cons_zero, List.set_cons_succ]) | (refine wpX_l ?_ (((Below.refl _ _).drew)) (Or.inl ⟨by rfl, fun w9 hw9 => ?_⟩) ?_; rotate_left 1; obtain ⟨hc9, hf9⟩ := bcell hw9; go_simp; with_reducible rfl; simp only [Act.put, List.setIfInBounds_toArray, List.set_cons_zero, List.set_cons_succ]) | (refine wpX_w undef (Or.inr ⟨by rfl, rfl⟩) ?_; simp only [Act.put, List.setIfInBounds_toArray, List.set_cons_zero, List.set_cons_succ]) | (refine wpX_l undef (((Below.refl _ _).drew)) (Or.inr ⟨by rfl, rfl⟩) ?_; simp only [Act.put, List.setIfInBounds_toArray, List.set_cons_zero, List.set_cons_succ]))
              refine wpX_es (fun K9 hK9 => ?_)
              go_simp
              refine (len_Sym k _ _ _ (frsh l (L.take (i + 1))) _ (HS1'.out.new_ ((Below.refl _ _).drew))).mono ?_
              rintro e wx ⟨rfl, rfl⟩
              refine hK9 _ _ ((Below.refl _ _).drew) ?_
              clear hK9 K9
              refine wpX_es (fun K9 hK9 => ?_)
              go_simp
              refine (len_Sym T.bs _ _ _ l _ ((HTV.out.below ((Below.refl _ _).drew)).syms.at_ T.bs l HS.out)).mono ?_
              rintro e wx ⟨rfl, rfl⟩
              refine hK9 _ _ ((Below.refl _ _).drew) ?_
              clear hK9 K9
              repeat (first | (refine wpX_w ?_ (Or.inl ⟨by rfl, fun w9 => ?_⟩) ?_; rotate_left 1; go_simp; with_reducible rfl; simp only [Act.put, List.setIfInBounds_toArray, List.set_cons_zero, List.set_cons_succ]) | (refine wpX_l ?_ (((Below.refl _ _).drew)) (Or.inl ⟨by rfl, fun w9 hw9 => ?_⟩) ?_; rotate_left 1; obtain ⟨hc9, hf9⟩ := bcell hw9; go_simp; with_reducible rfl; simp only [Act.put, List.setIfInBounds_toArray, List.set_cons_zero, List.set_cons_succ]) | (refine wpX_w undef (Or.inr ⟨by rfl, rfl⟩) ?_; simp only [Act.put, List.setIfInBounds_toArray, List.set_cons_zero, List.set_cons_succ]) | (refine wpX_l undef (((Below.refl _ _).drew)) (Or.inr ⟨by rfl, rfl⟩) ?_; simp only [Act.put, List.setIfInBounds_toArray, List.set_cons_zero, List.set_cons_succ]))
              refine wpX_nil ?_
              simp only [OnlyN_normal]
              refine hKK _ _ ?_
              clear hKK KK
              go_wp2_with fail
              refine ⟨_, results_tmp rfl _ _ _, ?_⟩
              unfold TPut
              have h1 := length_frsh HSO.out L
              have h2 := length_frsh_take l L (i + 1)
              have h3 := HFU.out
              rw [HE.out, if_pos rfl, if_pos (by omega)]
              exact ⟨rfl, HBVV.out.drew⟩
            · have t1 : decide (T.room - (l.length : Int) < ((frsh l (L.take (i + 1))).length : Int)) = false := by simpa using hfull
              have HFU := Lib.hid hfull
              clear hfull
              go_wp2_with fail
              refine wp_region_E (fun w9 => Below V1.heap.size V1 w9) [(0, 0), (2, 1), (3, 0), (4, 0), (5, 1), (6, 1), (7, 0), (8, 0), (9, 1), (1, 2), (10, 2), (11, 0), (12, 0)] (by kernel_rfl) (by kernel_rfl) (fun KK hKK => ?_)
              simp only [beside, List.filterMap_cons, List.filterMap_nil, List.getElem?_toArray, List.getElem?_cons_zero, List.getElem?_cons_succ, Option.map_some]
              repeat (first | (refine wpX_w ?_ (Or.inl ⟨by rfl, fun w9 => ?_⟩) ?_; rotate_left 1; go_simp; with_reducible rfl; simp only [Act.put, List.setIfInBounds_toArray, List.set_cons_zero, List.set_cons_succ]) | (refine wpX_l ?_ (((Below.refl _ _).drew)) (Or.inl ⟨by rfl, fun w9 hw9 => ?_⟩) ?_; rotate_left 1; obtain ⟨hc9, hf9⟩ := bcell hw9; go_simp; with_reducible rfl; simp only [Act.put, List.setIfInBounds_toArray, List.set_cons_zero, List.set_cons_succ]) | (refine wpX_w undef (Or.inr ⟨by rfl, rfl⟩) ?_; simp only [Act.put, List.setIfInBounds_toArray, List.set_cons_zero, List.set_cons_succ]) | (refine wpX_l undef (((Below.refl _ _).drew)) (Or.inr ⟨by rfl, rfl⟩) ?_; simp only [Act.put, List.setIfInBounds_toArray, List.set_cons_zero, List.set_cons_succ]))
              refine wpX_es (fun K9 hK9 => ?_)
              go_simp
              refine (len_Sym k _ _ _ (frsh l (L.take (i + 1))) _ (HS1'.out.new_ ((Below.refl _ _).drew))).mono ?_
              rintro e wx ⟨rfl, rfl⟩
              refine hK9 _ _ ((Below.refl _ _).drew) ?_
              clear hK9 K9
              refine wpX_es (fun K9 hK9 => ?_)
              go_simp
              refine (len_Sym T.bs _ _ _ l _ ((HTV.out.below ((Below.refl _ _).drew)).syms.at_ T.bs l HS.out)).mono ?_
              rintro e wx ⟨rfl, rfl⟩
              refine hK9 _ _ ((Below.refl _ _).drew) ?_
              clear hK9 K9
              repeat (first | (refine wpX_w ?_ (Or.inl ⟨by rfl, fun w9 => ?_⟩) ?_; rotate_left 1; go_simp; with_reducible rfl; simp only [Act.put, List.setIfInBounds_toArray, List.set_cons_zero, List.set_cons_succ]) | (refine wpX_l ?_ (((Below.refl _ _).drew)) (Or.inl ⟨by rfl, fun w9 hw9 => ?_⟩) ?_; rotate_left 1; obtain ⟨hc9, hf9⟩ := bcell hw9; go_simp; with_reducible rfl; simp only [Act.put, List.setIfInBounds_toArray, List.set_cons_zero, List.set_cons_succ]) | (refine wpX_w undef (Or.inr ⟨by rfl, rfl⟩) ?_; simp only [Act.put, List.setIfInBounds_toArray, List.set_cons_zero, List.set_cons_succ]) | (refine wpX_l undef (((Below.refl _ _).drew)) (Or.inr ⟨by rfl, rfl⟩) ?_; simp only [Act.put, List.setIfInBounds_toArray, List.set_cons_zero, List.set_cons_succ]))
              refine wpX_nil ?_
              simp only [OnlyN_normal]
              refine hKK _ _ ?_
              clear hKK KK
              go_wp2_with fail
              go_roundw
              case rel => exact ⟨i + 1, sn, A, c, rfl, by go_num, by omega, HS1'.out.new_ ((Below.refl _ _).drew), HAf.out, HBF1.out.drew, by have := HFU.out; omega⟩
              case measure => simp [intOf] <;> omega
        · have hie : i = L.length := by omega
          subst hie
          obtain ⟨w4, hw4⟩ : ∃ w4, w4 = wr := ⟨_, rfl⟩
          rw [← hw4] at HSf HBf HXf HBw hzf ⊢
          clear hw4
          rw [List.take_length] at HSf hroom
          go_wp2_with fail
          refine (mkall_Sym k w4).mono ?_
          rintro e w5 ⟨rfl, hb5, hbox5⟩
          have hz5 := hb5.size
          have hbw5 := HBw.out.trans (hb5.mono HBw.out.size)
          have hS5 := HSf.out.new_ hb5
          have hX5 := HXf.out.new_ hb5
          have hSQ := seq_all_Sym w4.heap.size k _ _ _ _ w5 hbox5 hS5
          have HSQ := Lib.hid hSQ
          have HB5 := Lib.hid hbw5
          have HS5 := Lib.hid hS5
          have HX5 := Lib.hid hX5
          have hkl := hS5.lt
          have HA5 := Lib.hid hS5.row_lt
          clear hSQ hbw5 hS5 hX5 hb5 hbox5 HSf HBf HXf HBw
          have hof := Off.new_ HT.out.syms (show w.heap.size ≤ k by omega)
          have hof2 := Off.new_ HT.out.pages (show w.heap.size ≤ k by omega)
          have hXl := HX5.out.lt
          have HOF := Lib.hid (⟨hof, hof2⟩ : Off k S σ ∧ Off k S2 σ2)
          clear hof hof2
          go_wp2_with fail
          obtain ⟨D3, hD3⟩ : ∃ D3 : Nat → Prop, D3 = fun j => D j ∨ (w.heap.size ≤ j ∧ j < w5.heap.size) := ⟨_, rfl⟩
          obtain ⟨I, hI⟩ : ∃ I : List Sym → World → Prop, I = fun p W => (∃ σ' σ2', Tabs D3 W (upd S T.bs (some (puts cmpSym l p))) σ' (upd S2 T.bp (some (p.foldl tputM m))) σ2' ∧ ∀ j, j < w.heap.size → Off j S σ → Off j S2 σ2 → Off j (upd S T.bs (some (puts cmpSym l p))) σ' ∧ Off j (upd S2 T.bp (some (p.foldl tputM m))) σ2') ∧ KB w W ∧ Fr (fun j => ¬ D j) w W ∧ W.cell? ⟨w.heap.size, 0, none⟩ = some (.pointer (some ⟨T.b, 0, none⟩)) := ⟨_, rfl⟩
          have hws : w.heap.size ≤ w5.heap.size := HB5.out.size
          refine (wpIn_wide (n := 0)).1 ?_
          refine wpIn_range (w := w5) (by rfl) HSQ.out.enter HSQ.out.iter (fun x => by rfl) HSQ.out.trans HSQ.out.keep (fun W W1 h => keepsFrom_of_fr (HSQ.out.mods W W1 h)) I (fun _ _ _ => False) ?_ (fun _ _ _ _ h => h.elim) ?_ ?_ ?_ ?_
          · subst hI
            rintro p X Y ⟨⟨σ', σ2', g1, g2⟩, g3, g4, g5⟩ hp
            exact ⟨⟨σ', σ2', g1.priv hp, g2⟩, g3.priv hp, g4.priv hp hws, cell_priv g5 hp⟩
          · intro W W1 hW hs
            subst hI
            have hbW := HB5.out.trans (hW.mono hws)
            have g1 := HT.out.protect hbW
            have g2 := (g1.off HOF.out.1 HOF.out.2 hs.fr).weaken (D' := D3) (fun j hj => by
              rw [hD3] at hj
              have := hW.size
              rcases hj with hj | hj
              · exact .inl hj
              · exact .inr ⟨hj.1, by omega⟩)
            refine ⟨⟨σ, σ2, ?_, fun j hj h1 h2 => ?_⟩, ?_, ?_, ?_⟩
            · simp only [puts, List.foldl_nil]
              rw [upd_id _ _ _ HS.out, upd_id _ _ _ HP.out]; exact g2
            · simp only [puts, List.foldl_nil]
              rw [upd_id _ _ _ HS.out, upd_id _ _ _ HP.out]; exact ⟨h1, h2⟩
            · exact (KB.of_below hbW).trans (KB.of_sym (HS5.out.new_ hW) (hs.fr.mono (fun j _ hj => .inl hj)))
            · exact (Fr.of_new hbW).trans (hs.fr.mono (fun j _ hj hd => by have := HT.out.syms.low j hd; omega))
            · exact (hs.fr.cell (p := ⟨w.heap.size, 0, none⟩) (Nat.lt_of_lt_of_le hXl hW.size) (fun e => by dsimp only at e; omega)).trans (((HX5.out.new_ hW).cell 0).trans rfl)
          · intro lo pre x post W hx hlo hIW
            have hx' : (frsh l L).length = pre.length + (post.length + 1) := by rw [hx]; simp
            have hxv : validB x = true := by
              have h1 : x ∈ frsh l L := by rw [hx]; simp
              exact List.all_eq_true.1 HE.out x (mem_frsh.1 h1).1
            have HXV := Lib.hid hxv
            clear hx hxv
            rw [hI] at hIW
            obtain ⟨⟨σ', σ2', g1, g2⟩, g3, g4, g5⟩ := hIW
            have HI := Lib.hid hI
            have G1 := Lib.hid g1
            have G2 := Lib.hid g2
            have G3 := Lib.hid g3
            have G4 := Lib.hid g4
            have G5 := Lib.hid g5
            have HD3 := Lib.hid hD3
            clear g1 g2 g3 g4 g5 hI hD3
            simp only [encSym, Array.zip]
            gi_wp2_with fail
            refine ⟨KeepsFrom.alloc_ (keepsFrom_same _ _) _, fun W3 hp3 hz3 _ => ?_⟩
            have hx3 : Blk W3 W.heap.size 23 #[.int .i64 x.kind, .string x.text, .int .i64 x.n] := (Blk.new W 23 #[.int .i64 x.kind, .string x.text, .int .i64 x.n]).priv hp3
            have x0 : W3.cell? ⟨W.heap.size, 0, none⟩ = some (.int .i64 x.kind) := (hx3.cell 0).trans rfl
            have x1 : W3.cell? ⟨W.heap.size, 1, none⟩ = some (.string x.text) := (hx3.cell 1).trans rfl
            have x2 : W3.cell? ⟨W.heap.size, 2, none⟩ = some (.int .i64 x.n) := (hx3.cell 2).trans rfl
            have hba : Below W.heap.size W (W.alloc (.cells #[.int .i64 x.kind, .string x.text, .int .i64 x.n] 23)) := (Below.refl _ _).alloc (Nat.le_refl _) _
            have s3 := (G1.out.below hba).priv hp3
            have b3 := ((HB.out.kb G3.out).below hba).priv hp3
            have c3 : W3.cell? ⟨w.heap.size, 0, none⟩ = some (.pointer (some ⟨T.b, 0, none⟩)) := cell_priv ((hba.cell (World.block_lt_of_cell? _ _ G5.out)).trans G5.out) hp3
            have hcl3 := World.block_lt_of_cell? _ _ c3
            have hxl3 := hx3.lt
            have S3 := Lib.hid s3
            have B3 := Lib.hid b3
            have C3 := Lib.hid c3
            have P3 := Lib.hid hp3
            clear s3 b3 hx3 hp3 hz3 hba
            gi_wp2_with fail
            refine ⟨trivial, rfl, ?_⟩
            have hlen : (((puts cmpSym l pre).length : Nat) : Int) ≤ 1000000 := by
              have := length_puts_le tc_sym pre HSO.out
              omega
            have hlen2 : (((pre.foldl tputM m).length : Nat) : Int) ≤ 1000000 := by
              have := length_tputMs pre m
              omega
            refine (callsIn_wide.2 (tabput T (puts cmpSym l pre) (pre.foldl tputM m) x S3.out.quiet B3.out (upd_same _ _ _) (upd_same _ _ _) HXV.out hlen hlen2)).mono ?_
            rintro e W4 ⟨rfl, ⟨σ4, σ5, s4, ho4⟩, hK4, hF4⟩
            rw [upd_upd, upd_upd] at s4 ho4
            have k4 := keeps_quiet hF4 w5.heap.size
            have hF4' : Fr (fun j => ¬ D3 j) W3 W4 := hF4.mono (fun j _ hj hd => hj (.inl hd))
            have hDp : D3 w.heap.size := by rw [HD3.out]; exact .inr ⟨Nat.le_refl _, hXl⟩
            have c4 : W4.cell? ⟨w.heap.size, 0, none⟩ = some (.pointer (some ⟨T.b, 0, none⟩)) := (hF4'.cell hcl3 (fun h => h hDp)).trans C3.out
            have S4 := Lib.hid (s4.weaken (D' := D3) (fun j hj => .inl hj))
            have O4 := Lib.hid ho4
            have C4 := Lib.hid c4
            have K4 := Lib.hid k4
            have F4 := Lib.hid hF4'
            have KB4 := Lib.hid hK4
            have hz4 := hF4.size
            clear s4 ho4 c4 k4 hF4 hF4' hK4 c3 hDp
            gi_wp2_with fail
            have hI := HI.out
            subst hI
            have hpr : Fr (fun j => ¬ D j) W W3 := ((Fr.refl _ W).alloc _).into (Fr.of_priv P3.out) (fun j hj => .inl (fun hd => by have := HT.out.syms.low j hd; omega))
            have hws4 : w.heap.size ≤ W3.heap.size := by omega
            refine ⟨K4.out, ⟨Nat.le_trans hpr.size hz4, fun q hq hlt => ?_⟩, ⟨σ4, σ5, ?_, ?_⟩, ?_, ?_, C4.out⟩
            · have e1 := F4.out.block q.block (Nat.lt_of_lt_of_le hlt hpr.size) (fun h => h (by rw [HD3.out]; exact .inr ⟨by have := HAf.out q hq; omega, HA5.out q hq⟩))
              have e2 := P3.out.block q.block (by simp; omega) (.inl (HA5.out q hq))
              exact e1.trans (e2.trans (Below.heap_alloc W _ _ hlt))
            · rw [puts_snoc, List.foldl_append]; exact S4.out
            · intro j hj h1 h2
              rw [puts_snoc, List.foldl_append]
              obtain ⟨h3, h4⟩ := G2.out j hj h1 h2
              exact O4.out j (by omega) h3 h4
            · exact ((G3.out.trans (KB.of_below ((Below.refl _ _).alloc (Nat.le_refl _) _))).priv P3.out).trans KB4.out
            · exact (G4.out.trans hpr).trans (F4.out.mono (fun j _ hj hd => hj (by rw [HD3.out]; exact .inl hd)))
          · intro Dd W hDd hIW hK
            subst hI
            obtain ⟨⟨σ', σ2', g1, g2⟩, g3, g4, g5⟩ := hIW
            have G1 := Lib.hid g1
            have G2 := Lib.hid g2
            have G3 := Lib.hid g3
            have G4 := Lib.hid g4
            have HK := Lib.hid hK
            have HD3 := Lib.hid hD3
            clear g1 g2 g3 g4 g5 hK hD3
            go_wp2_with fail
            refine ⟨by simp, .inl ⟨_, _, rfl, run_takeDeferred HK.out, ?_⟩⟩
            have hpv : Priv w5.heap.size W (W.putObj Dd (.deferred none)) := (Priv.refl _ _).putObj hDd HK.out rfl _
            refine ⟨_, results_tmp rfl _ _ _, ?_⟩
            unfold TPut
            have h1 := length_frsh HSO.out L
            have h2 := G1.out
            have h3 := G2.out
            rw [puts_frsh HSO.out] at h2 h3
            rw [HE.out, if_pos rfl, if_neg (by omega)]
            exact ⟨rfl, ⟨σ', σ2', (h2.priv hpv).weaken (fun j hj => by rw [HD3.out]; exact .inl hj), h3⟩, G3.out.priv hpv, G4.out.priv hpv hws⟩
          · intro Dd c pre post W _ _ h
            exact h.elim
end
end Go.Proofs.Ytlkffnmmphehdaa

namespace Go.Proofs.Ytlkffnmmphehdaa
open Go.RowKit Go.Shelf
section
variable {D : Nat → Prop} {w : World} {S : Nat → Option (List Sym)} {σ : Nat → St} {S2 : Nat → Option (List Page)} {σ2 : Nat → St}
def MapCloned (D : Nat → Prop) (w : World) (S : Nat → Option (List Sym)) (σ : Nat → St) (S2 : Nat → Option (List Page)) (m : List Page) (e : Ending) (w' : World) : Prop :=
  ∃ bm bp, e = .returned (.pointer (some ⟨bm, 0, none⟩)) ∧ Blk w' bm 89 #[.pointer (some ⟨bp, 0, none⟩)] ∧ (∃ σ2', Tabs D w' S σ (upd S2 bp (some m)) σ2') ∧ KB w w' ∧ Fr (fun k => ¬ D k) w w' ∧ w.heap.size ≤ bm ∧ w.heap.size ≤ bp
set_option maxRecDepth 100000 in
set_option maxHeartbeats 2000000 in
theorem mapclone_is (bm bp : Nat) (m : List Page) (hT : Tabs D w S σ S2 σ2) (hM : Blk w bm 89 #[.pointer (some ⟨bp, 0, none⟩)]) (hb : S2 bp = some m) :
    Calls Try.prog 59 #[.pointer (some ⟨bm, 0, none⟩)] w (MapCloned D w S σ S2 m) := by
  have s0 := (hM.cell 0).trans rfl
  have hml := hM.lt
  have HT := Lib.hid hT
  have HS := Lib.hid hb
  clear hT hM hb
  go_enter Try.func59, Try.ntmps59
  go_wp2_with fail
  refine (sClone_Page HT.out.pages HS.out).mono ?_
  rintro e w1 ⟨k, rfl, hk, _, σ2', h1, _, _, _, _, _, hF, hFb⟩
  have h2 := HT.out.syms.other (HT.out.pages.at_ bp m HS.out) (by decide) (by decide) (by decide) (by decide) (hFb.mono (M' := SetMod bp (σ2 bp).sn (σ2 bp).A) (fun j _ hj => .inl hj))
  have h3 := KB.of_page (HT.out.pages.at_ bp m HS.out) (hFb.mono (M' := SetMod bp (σ2 bp).sn (σ2 bp).A) (fun j _ hj => .inl hj))
  have H1 := Lib.hid (show Tabs D w1 S σ (upd S2 k (some m)) σ2' from ⟨h2, h1⟩)
  have H3 := Lib.hid h3
  have HF := Lib.hid hF
  clear h1 h2 h3 hF hFb
  go_wp2_with fail
  go_ret
  have hn : Below w1.heap.size w1 (w1.alloc (.cells #[.pointer (some ⟨k, 0, none⟩)] 89)) := (Below.refl _ _).alloc (Nat.le_refl _) _
  exact ⟨w1.heap.size, k, rfl, Blk.new _ _ _, ⟨σ2', H1.out.below hn⟩, H3.out.trans (KB.of_below hn), HF.out.trans (Fr.of_new hn), HF.out.size, hk⟩
def TabCloned (D : Nat → Prop) (w : World) (S : Nat → Option (List Sym)) (S2 : Nat → Option (List Page)) (T : TB) (l : List Sym) (m : List Page) (e : Ending) (w' : World) : Prop :=
  ∃ T' : TB, e = .returned (.pointer (some ⟨T'.b, 0, none⟩)) ∧ T'.room = T.room ∧ TabBlk w' T' ∧ (∃ σ' σ2', Tabs D w' (upd S T'.bs (some l)) σ' (upd S2 T'.bp (some m)) σ2') ∧ KB w w' ∧ Fr (fun k => ¬ D k) w w' ∧ w.heap.size ≤ T'.bs ∧ w.heap.size ≤ T'.bp
set_option maxRecDepth 100000 in
set_option maxHeartbeats 4000000 in
theorem tabclone_is (T : TB) (l : List Sym) (m : List Page) (hT : Tabs D w S σ S2 σ2) (hB : TabBlk w T) (hb : S T.bs = some l) (hb2 : S2 T.bp = some m) :
    Calls Try.prog 35 #[.pointer (some ⟨T.b, 0, none⟩)] w (TabCloned D w S S2 T l m) := by
  have HT := Lib.hid hT
  have HB := Lib.hid hB
  have HS := Lib.hid hb
  have HP := Lib.hid hb2
  clear hT hB hb hb2
  go_enter Try.func35, Try.ntmps35
  go_wp2_with fail
  refine wp_region_E (fun w9 => TabBlk w9 T) [(0, 0), (1, 0), (2, 0), (3, 1), (4, 0), (5, 0), (6, 0), (7, 1), (9, 0), (10, 0), (11, 0), (12, 1), (8, 2), (13, 2), (14, 0), (15, 2), (16, 0)] (by kernel_rfl) (by kernel_rfl) (fun KK hKK => ?_)
  simp only [beside, List.filterMap_cons, List.filterMap_nil, List.getElem?_toArray, List.getElem?_cons_zero, List.getElem?_cons_succ, Option.map_some]
  repeat (first | (refine wpX_w ?_ (Or.inl ⟨by rfl, fun w9 => ?_⟩) ?_; rotate_left 1; go_simp; with_reducible rfl; simp only [Act.put, List.setIfInBounds_toArray, List.set_cons_zero, List.set_cons_succ]) | (refine wpX_l ?_ ((HB.out.below ((Below.refl _ _).drew))) (Or.inl ⟨by rfl, fun w9 hw9 => ?_⟩) ?_; rotate_left 1; have l0 := (hw9.1.cell 0).trans rfl; have l1 := (hw9.1.cell 1).trans rfl; have l2 := (hw9.1.cell 2).trans rfl; have lb := hw9.1.lt; go_simp; with_reducible rfl; simp only [Act.put, List.setIfInBounds_toArray, List.set_cons_zero, List.set_cons_succ]) | (refine wpX_w undef (Or.inr ⟨by rfl, rfl⟩) ?_; simp only [Act.put, List.setIfInBounds_toArray, List.set_cons_zero, List.set_cons_succ]) | (refine wpX_l undef ((HB.out.below ((Below.refl _ _).drew))) (Or.inr ⟨by rfl, rfl⟩) ?_; simp only [Act.put, List.setIfInBounds_toArray, List.set_cons_zero, List.set_cons_succ]))
  refine wpX_es (fun K9 hK9 => ?_)
  go_simp
  refine (sClone_Sym (HT.out.below ((Below.refl _ _).drew)).syms HS.out).mono ?_
  rintro e w1 ⟨k, rfl, hk, _, σ1, h1, _, _, _, _, _, hF, hFb⟩
  have hT0 := HT.out.below ((Below.refl w.heap.size w).drew)
  have h2 := hT0.pages.other (hT0.syms.at_ T.bs l HS.out) (by decide) (by decide) (by decide) (by decide) (hFb.mono (M' := SetMod T.bs (σ T.bs).sn (σ T.bs).A) (fun j _ hj => .inl hj))
  have h3 := KB.of_sym (hT0.syms.at_ T.bs l HS.out) (hFb.mono (M' := SetMod T.bs (σ T.bs).sn (σ T.bs).A) (fun j _ hj => .inl hj))
  have H1 := Lib.hid (show Tabs D w1 (upd S k (some l)) σ1 S2 σ2 from ⟨h1, h2⟩)
  have HK1 := Lib.hid ((KB.of_below ((Below.refl w.heap.size w).drew)).trans h3)
  have HF1 := Lib.hid ((Fr.refl _ w).drew.trans hF)
  have hk : w.heap.size ≤ k := (by simpa using hk)
  have HB1 := Lib.hid (HB.out.kb HK1.out)
  clear hT0 h1 h2 h3 hF hFb
  refine hK9 _ _ HB1.out ?_
  clear hK9 K9
  refine wpX_es (fun K9 hK9 => ?_)
  go_simp
  refine (mapclone_is T.bm T.bp m H1.out HB1.out.2 HP.out).mono ?_
  rintro e w2 ⟨bm, bp, rfl, hM, ⟨σ3, h2⟩, hK, hF, hbm, hbp⟩
  have H2 := Lib.hid h2
  have HM := Lib.hid hM
  have HK2 := Lib.hid (HK1.out.trans hK)
  have HF2 := Lib.hid (HF1.out.trans hF)
  have HB2 := Lib.hid (HB1.out.kb hK)
  clear h2 hM hK hF
  refine hK9 _ _ HB2.out ?_
  clear hK9 K9
  repeat (first | (refine wpX_w ?_ (Or.inl ⟨by rfl, fun w9 => ?_⟩) ?_; rotate_left 1; go_simp; with_reducible rfl; simp only [Act.put, List.setIfInBounds_toArray, List.set_cons_zero, List.set_cons_succ]) | (refine wpX_l ?_ (HB2.out) (Or.inl ⟨by rfl, fun w9 hw9 => ?_⟩) ?_; rotate_left 1; have l0 := (hw9.1.cell 0).trans rfl; have l1 := (hw9.1.cell 1).trans rfl; have l2 := (hw9.1.cell 2).trans rfl; have lb := hw9.1.lt; go_simp; with_reducible rfl; simp only [Act.put, List.setIfInBounds_toArray, List.set_cons_zero, List.set_cons_succ]) | (refine wpX_w undef (Or.inr ⟨by rfl, rfl⟩) ?_; simp only [Act.put, List.setIfInBounds_toArray, List.set_cons_zero, List.set_cons_succ]) | (refine wpX_l undef (HB2.out) (Or.inr ⟨by rfl, rfl⟩) ?_; simp only [Act.put, List.setIfInBounds_toArray, List.set_cons_zero, List.set_cons_succ]))
  refine wpX_e (by kernel_rfl) (fun K9 hK9 => ?_)
  go_simp
  refine hK9 _ _ ?_
  clear hK9 K9
  repeat (first | (refine wpX_w ?_ (Or.inl ⟨by rfl, fun w9 => ?_⟩) ?_; rotate_left 1; go_simp; with_reducible rfl; simp only [Act.put, List.setIfInBounds_toArray, List.set_cons_zero, List.set_cons_succ]) | (refine wpX_l ?_ (HB2.out) (Or.inl ⟨by rfl, fun w9 hw9 => ?_⟩) ?_; rotate_left 1; have l0 := (hw9.1.cell 0).trans rfl; have l1 := (hw9.1.cell 1).trans rfl; have l2 := (hw9.1.cell 2).trans rfl; have lb := hw9.1.lt; go_simp; with_reducible rfl; simp only [Act.put, List.setIfInBounds_toArray, List.set_cons_zero, List.set_cons_succ]) | (refine wpX_w undef (Or.inr ⟨by rfl, rfl⟩) ?_; simp only [Act.put, List.setIfInBounds_toArray, List.set_cons_zero, List.set_cons_succ]) | (refine wpX_l undef (HB2.out) (Or.inr ⟨by rfl, rfl⟩) ?_; simp only [Act.put, List.setIfInBounds_toArray, List.set_cons_zero, List.set_cons_succ]))
  refine wpX_nil ?_
  simp only [OnlyN_normal]
  refine hKK _ _ ?_
  clear hKK KK
  go_wp2_with fail
  go_ret
  have hn : Below w2.heap.size w2 (w2.alloc (.cells #[.int .i64 T.room, .pointer (some ⟨k, 0, none⟩), .pointer (some ⟨bm, 0, none⟩)] 75)) := (Below.refl _ _).alloc (Nat.le_refl _) _
  exact ⟨⟨w2.heap.size, T.room, k, bm, bp⟩, rfl, rfl, ⟨Blk.new _ _ _, HM.out.new_ hn⟩, ⟨σ1, σ3, H2.out.below hn⟩, HK2.out.trans (KB.of_below hn), HF2.out.trans (Fr.of_new hn), hk, by have := HF1.out.size; dsimp only; omega⟩
end
end Go.Proofs.Ytlkffnmmphehdaa

namespace Go.Proofs.Ytlkffnmmphehdaa
open Go.RowKit
attribute [local go_sem] eql_sym neq_sym

theorem has_take {l : List Sym} {x : Sym} {i : Nat} (h : i < l.length) : has cmpSym (l.take (i + 1)) x = (has cmpSym (l.take i) x || decide (l[i] = x)) := by
  rw [List.take_add_one, List.getElem?_eq_getElem h]
  simp only [has, Option.toList_some, List.any_append, List.any_cons, List.any_nil, Bool.or_false]
  congr 1
  rw [Bool.eq_iff_iff]
  simp [cmpSym_eq]
set_option maxRecDepth 100000 in
set_option maxHeartbeats 2000000 in
theorem has_is (A : Option Addr) (c : Nat) (l : List Sym) (x : Sym) (w : World) (hrd : RowRd w 3 Sym.cells A c l) :
    Calls Try.prog 28 #[.slice A l.length c, .agg #[.int .i64 x.kind, .string x.text, .int .i64 x.n]] w fun e w' => e = .returned (.bool (has cmpSym l x)) ∧ Below w.heap.size w w' := by
  have HRD := Lib.hid hrd
  have hlc := hrd.cap
  clear hrd
  go_enter Try.func28, Try.ntmps28
  go_wp2_with fail
  obtain ⟨W0, hW0⟩ : ∃ W0, W0 = w.alloc (Obj.cells #[Value.int IntKind.i64 x.kind, Value.string x.text, Value.int IntKind.i64 x.n] 23) := ⟨_, rfl⟩
  have hB0 : Below w.heap.size w W0 := by rw [hW0]; exact (Below.refl _ _).alloc (Nat.le_refl _) _
  have hX0 : Blk W0 w.heap.size 23 #[.int .i64 x.kind, .string x.text, .int .i64 x.n] := by rw [hW0]; exact Blk.new _ _ _
  rw [← hW0]
  clear hW0
  have HB0 := Lib.hid hB0
  have HX0 := Lib.hid hX0
  clear hB0 hX0
  go_loopw [5] (fun s wr => ∃ i : Nat, s = .int .i64 i ∧ has cmpSym (l.take i) x = false ∧ i ≤ l.length ∧ Below W0.heap.size W0 wr) (fun s wr => l.length - (intOf s).toNat)
  case atStart => exact ⟨0, rfl, by simp [has], Nat.zero_le _, Below.refl _ _⟩
  case round =>
    obtain ⟨i, rfl, hk, hi, hB⟩ := hrel
    have HK := Lib.hid hk
    clear hk
    by_cases hlt : i < l.length
    · have hBw : Below w.heap.size w wr := HB0.out.trans (hB.mono HB0.out.size)
      obtain ⟨y, hy⟩ : ∃ y, y = l[i] := ⟨_, rfl⟩
      obtain ⟨g, off, rfl, hg, q0, q1, q2⟩ := sym_at (HRD.out.new_ hBw) hlt
      rw [← hy] at q0 q1 q2
      have hxr := HX0.out.new_ hB
      have hxl := hxr.lt
      have y0 := hxr.cell 0
      have y1 := hxr.cell 1
      have y2 := hxr.cell 2
      simp only [List.getElem?_toArray, List.getElem?_cons_zero, List.getElem?_cons_succ] at y0 y1 y2
      have HXR := Lib.hid hxr
      have HB := Lib.hid hB
      have HBw := Lib.hid hBw
      have HY := Lib.hid hy
      clear hB hBw hy hxr
      have b1 : (0 : Int) ≤ (i : Int) := by omega
      have b2 : (i : Int) < (l.length : Int) := by omega

      have hbe := eql_sym y x
      have hstep := has_take (x := x) hlt
      rw [← HY.out, HK.out, Bool.false_or] at hstep
      by_cases he : y = x
      · have t2 : decide (y = x) = true := by simpa using he
        rw [t2] at hbe hstep
        have HE := Lib.hid hstep
        clear he hstep
        go_wp2_with fail
        go_quiet (fail)
        clear q0 q1 q2 y0 y1 y2
        go_wp2_with fail
        go_ret
        have e : has cmpSym l x = true := by
          rw [has_iff]
          obtain ⟨z, hz, hz2⟩ := has_iff.1 HE.out
          exact ⟨z, List.mem_of_mem_take hz, hz2⟩
        exact ⟨by rw [e]; rfl, Below.drewN' HBw.out nq⟩
      · have t2 : decide (y = x) = false := by simpa using he
        rw [t2] at hbe hstep
        have HE := Lib.hid hstep
        clear he hstep
        go_wp2_with fail
        go_quiet (fail)
        have HB1 := Lib.hid (Below.drewN' HB.out nq)
        clear q0 q1 q2 y0 y1 y2
        go_wp2_with fail
        go_roundw
        case rel => exact ⟨i + 1, by go_num, HE.out, by omega, HB1.out⟩
        case measure => simp [intOf] <;> omega
    · have hie : i = l.length := by omega
      subst hie
      have HB := Lib.hid hB
      clear hB
      go_wp2_with fail
      go_ret
      have e := HK.out
      rw [List.take_length] at e
      exact ⟨by rw [e]; rfl, HB0.out.trans (HB.out.mono HB0.out.size)⟩
end Go.Proofs.Ytlkffnmmphehdaa
