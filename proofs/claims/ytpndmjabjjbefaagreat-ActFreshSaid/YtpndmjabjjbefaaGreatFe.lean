/-
  Texts put together: RefPut, RTabPut, RTabFresh, SymLists, TabPlain, TabPutL, TabClone, GTab, GNew, GState, FindName, OpsName, PutName, MiscName, NewName, WorkName, Known1, Known2, Known4, Known5.
-/
import Derived.Test.YtpndmjabjjbefaaGreatFd
import Derived.Test.YtpndmjabjjbefaaGreatFa
import Derived.Test.YtpndmjabjjbefaaGreatFb
import Derived.Maps.RangeWalk
namespace Go.Proofs.YtpndmjabjjbefaaGreat
open Go.RowKit
attribute [local go_sem] eql_sym neq_sym
theorem RowRd.suffix {α : Type} {w : World} {size c : Nat} {cells : α → List Value} {A : Option Addr} {l : List α} (h : RowRd w size cells A c l) (i : Nat) (hi : i ≤ l.length) :
 RowRd w size cells (if c = i then A else A.map (·.add (i * size))) (c - i) (l.drop i) := by
 refine ⟨by simp; have := h.1; omega, by have := h.2.1; omega, fun h0 => ?_⟩
 rw [List.length_drop] at h0
 obtain ⟨b, off, rfl, hb, hc⟩ := h.2.2 (by omega)
 have h1 := h.1
 rw [if_neg (by omega)]
 refine ⟨b, off + i * size, by simp [Go.WideShapes.add_plain], hb, fun k hk j u hu => ?_⟩
 rw [List.length_drop] at hk
 have := hc (i + k) (by omega) j u (by rw [← hu]; simp)
 rw [Nat.add_mul] at this
 rw [← this]
 congr 2
 omega
theorem fresh_own {B n : Nat} {v v' : Value} (h : v'.ownBlock = v.ownBlock ∨ v'.ownBlock = some n) (hv : ∀ k, v.ownBlock = some k → B ≤ k) (hn : B ≤ n) : ∀ k, v'.ownBlock = some k → B ≤ k := by
 intro k hk
 rcases h with h | h
 · rw [h] at hk; exact hv k hk
 · rw [h] at hk; injection hk with hk; omega
theorem suffix_news {w : World} {A A' : Option Addr} {c i : Nat} {l : List Sym} (h : RowRd w 3 Sym.cells A c l) (hi : i ≤ l.length) (hA : i < l.length → A' = (if c = i then A else A.map (·.add (i * 3)))) :
 0 < l.length - i → ∃ ad, A' = some ad ∧ ∀ j u, ((l.drop i).flatMap Sym.cells)[j]? = some u → w.cell? (ad.add j) = some u := by
 intro h0
 rw [hA (by omega)]
 exact (h.suffix i hi).news Sym.cells_length (by omega) (by simp; omega)
theorem rput_end {w w4 : World} {l : List Sym} {x : Sym} {i : Nat} {v : Value} (hp : put cmpSym l x = l.take i ++ x :: l.drop i) (hi : i ≤ l.length)
 (ho : w4.ownsRow 0 23 3 v (i + 1 + (l.length - i)) ((l.take i).flatMap Sym.cells ++ Sym.cells x ++ (l.drop i).flatMap Sym.cells)) (hv : ∀ k, v.ownBlock = some k → w.heap.size ≤ k) :
 ∃ A' c', v = .slice A' (put cmpSym l x).length c' ∧ RowRd w4 3 Sym.cells A' c' (put cmpSym l x) ∧ AIn A' (fun k => w.heap.size ≤ k ∧ k < w4.heap.size) := by
 have e1 : i + 1 + (l.length - i) = (put cmpSym l x).length := by rw [hp]; simp; omega
 have e2 : (l.take i).flatMap Sym.cells ++ Sym.cells x ++ (l.drop i).flatMap Sym.cells = (put cmpSym l x).flatMap Sym.cells := by rw [hp]; simp
 rw [e1, e2] at ho
 obtain ⟨A', c', rfl, _⟩ := own_form2 ho
 refine ⟨A', c', rfl, ownsRow_rd Sym.cells_length ho, fun a ha => ?_⟩
 subst ha
 refine ⟨hv a.block rfl, ?_⟩
 rcases ownsRow_form ho with ⟨hv, _⟩ | ⟨g, cap, hv, _, _, hr, _⟩
 · cases hv
 · injection hv with hv; injection hv with hv; subst hv; exact hr.lt
theorem found_at {l : List Sym} {x : Sym} {i : Nat} (hs : Srt cmpSym l) (hi : i ≤ l.length) (h1 : ∀ k, (h : k < l.length) → k < i → cmpSym l[k] x < 0) (h2 : ∀ (h : i < l.length), ¬ cmpSym l[i] x < 0) (h3 : ∀ (h : i < l.length), l[i] ≠ x) :
 has cmpSym l x = false ∧ put cmpSym l x = l.take i ++ x :: l.drop i := by
 have h4 : ∀ k, (h : k < l.length) → i ≤ k → 0 < cmpSym l[k] x := by
  intro k h hk
  have e0 : 0 < cmpSym (l[i]'(by omega)) x := by
   have e1 := h2 (by omega)
   have e2 : cmpSym (l[i]'(by omega)) x ≠ 0 := fun e => h3 (by omega) (cmpSym_eq.1 e)
   omega
  rcases Nat.lt_or_ge i k with hlt | hge
  · exact (tc_sym.symm _ _).1 (tc_sym.lt_trans ((tc_sym.symm _ _).2 e0) (hs.lt hlt h))
  · obtain rfl : k = i := by omega
    exact e0
 have h5 := (at_none h1 h4).2.2
 have h6 := rank_none hi h1 h4
 refine ⟨h5, ?_⟩
 rw [put_eq tc_sym hs h5, h6]
set_option maxRecDepth 100000 in
set_option maxHeartbeats 4000000 in
theorem rput_is (A : Option Addr) (c : Nat) (l : List Sym) (x : Sym) (w : World) (hrd : RowRd w 3 Sym.cells A c l) (hs : Srt cmpSym l) (hl : (l.length : Int) ≤ 100000000) :
 Calls Tryz.prog 82 #[.slice A l.length c, .agg #[.int .i64 x.kind, .string x.text, .int .i64 x.n]] w fun e w' => ∃ A' c', e = .returned (.slice A' (put cmpSym l x).length c') ∧ RowRd w' 3 Sym.cells A' c' (put cmpSym l x) ∧ (A' = A ∨ AIn A' (fun k => w.heap.size ≤ k ∧ k < w'.heap.size)) ∧ Below w.heap.size w w' := by
 obtain ⟨i0, hi0, hz0, hz1, hz2⟩ := info_parts info_Sym
 have HRD := Lib.hid hrd
 have HSO := Lib.hid hs
 have hlc := hrd.cap
 have hlcc := hrd.1
 clear hrd hs
 go_enter Tryz.func82, Tryz.ntmps82
 go_wp2_with fail
 obtain ⟨W0, hW0⟩ : ∃ W0, W0 = w.alloc (Obj.cells #[Value.int IntKind.i64 x.kind, Value.string x.text, Value.int IntKind.i64 x.n] 23) := ⟨_, rfl⟩
 have hB0 : Below w.heap.size w W0 := by rw [hW0]; exact (Below.refl _ _).alloc (Nat.le_refl _) _
 have hX0 : Blk W0 w.heap.size 23 #[.int .i64 x.kind, .string x.text, .int .i64 x.n] := by rw [hW0]; exact Blk.new _ _ _
 rw [← hW0]
 clear hW0
 have HB0 := Lib.hid hB0
 have HX0 := Lib.hid hX0
 clear hB0 hX0
 go_loopw [5] (fun s wr => ∃ i : Nat, s = .int .i64 i ∧ i ≤ l.length ∧ (∀ k, (h : k < l.length) → k < i → cmpSym l[k] x < 0) ∧ Below W0.heap.size W0 wr) (fun s wr => l.length - (intOf s).toNat)
 case atStart => exact ⟨0, rfl, Nat.zero_le _, fun k _ h => absurd h (by omega), Below.refl _ _⟩
 case round =>
  obtain ⟨i, rfl, hi, hall, hB⟩ := hrel
  have HALL := Lib.hid hall
  clear hall
  have tail : ∀ (wr : World), Below W0.heap.size W0 wr → True := fun _ _ => trivial
  by_cases hlt : i < l.length
  · have g1 : decide ((i : Int) < (l.length : Int)) = true := by simpa using hlt
    have hBw : Below w.heap.size w wr := HB0.out.trans (hB.mono HB0.out.size)
    obtain ⟨y, hy⟩ : ∃ y, y = l[i] := ⟨_, rfl⟩
    obtain ⟨g, off, rfl, hg, q0, q1, q2⟩ := sym_at (HRD.out.new_ hBw) hlt
    rw [← hy] at q0 q1 q2
    have hxr := HX0.out.new_ hB
    have hxl := hxr.lt
    have y0 := hxr.cell 0
    have y1 := hxr.cell 1
    have y2 := hxr.cell 2
    simp only [List.getElem?_toArray, List.getElem?_cons_zero, List.getElem?_cons_succ] at y0 y1 y2
    have HXR := Lib.hid hxr
    have HB := Lib.hid hB
    have HBw := Lib.hid hBw
    have HY := Lib.hid hy
    clear hB hBw hy hxr
    have b1 : (0 : Int) ≤ (i : Int) := by omega
    have b2 : (i : Int) < (l.length : Int) := by omega
    go_wp2_with fail
    go_region_held3 (fun w' => w'.cell? ⟨g, off + i * 3, none⟩ = some (.int .i64 y.kind) ∧ w'.cell? ⟨g, off + i * 3 + 1, none⟩ = some (.string y.text) ∧ w'.cell? ⟨g, off + i * 3 + 2, none⟩ = some (.int .i64 y.n) ∧ w'.cell? ⟨w.heap.size, 0, none⟩ = some (.int .i64 x.kind) ∧ w'.cell? ⟨w.heap.size, 1, none⟩ = some (.string x.text) ∧ w'.cell? ⟨w.heap.size, 2, none⟩ = some (.int .i64 x.n))
     (first | go_keep | (refine ⟨?_, ?_, ?_, ?_, ?_, ?_⟩ <;> exact (hb1.cell (by simpa using by assumption)).trans (by simp [*])))
     ((go_at_call 108; refine (before_is y x _).mono ?_; rintro e w1 ⟨rfl, hb1⟩))
    rename_i hHeld
    have HB1 := Lib.hid (Below.trans (HB.out.drew) (hb1.mono HB.out.size))
    have HBw1 := Lib.hid (Below.trans (HBw.out.drew) (hb1.mono HBw.out.size))
    clear hb1 q0 q1 q2 y0 y1 y2
    by_cases hc : cmpSym y x < 0
    · go_wp2_with fail
      go_roundw
      case rel =>
       refine ⟨i + 1, by go_num, by omega, fun k h hk => ?_, HB1.out⟩
       rcases Nat.lt_or_ge k i with h3 | h3
       · exact HALL.out k h h3
       · obtain rfl : k = i := by omega
         rw [← HY.out]; exact hc
      case measure => simp [intOf] <;> omega
    · have hXR1 := HX0.out.new_ HB1.out
      have y0 := hXR1.cell 0
      have y1 := hXR1.cell 1
      have y2 := hXR1.cell 2
      simp only [List.getElem?_toArray, List.getElem?_cons_zero, List.getElem?_cons_succ] at y0 y1 y2
      obtain ⟨q0, q1, q2, _⟩ := hHeld
      have hbe := eql_sym y x
      have HXR1 := Lib.hid hXR1
      clear hXR1
      by_cases he : y = x
      · have t2 : decide (y = x) = true := by simpa using he
        rw [t2] at hbe
        have HE := Lib.hid he
        clear he
        go_wp2_with fail
        go_quiet (fail)
        clear q0 q1 q2 y0 y1 y2
        go_wp2_with fail
        go_ret
        have e : has cmpSym l x = true := has_iff.2 ⟨y, by rw [HY.out]; exact List.getElem_mem _, cmpSym_eq.2 HE.out⟩
        rw [put_has e]
        exact ⟨_, c, rfl, HRD.out.new_ (Below.drewN' HBw1.out nq), .inl rfl, Below.drewN' HBw1.out nq⟩
      · have t2 : decide (y = x) = false := by simpa using he
        rw [t2] at hbe
        have hput := (found_at (x := x) HSO.out hi HALL.out (fun _ => by rw [← HY.out]; exact hc) (fun _ => by rw [← HY.out]; exact he)).2
        have HPUT := Lib.hid hput
        clear he hput
        go_wp2_with fail
        go_quiet (fail)
        clear q0 q1 q2
        have hxl1 : w.heap.size < w1.heap.size := Nat.lt_of_lt_of_le (HX0.out.lt) HB1.out.size
        obtain ⟨W1, hW1⟩ : ∃ W1, W1 = w1.drewN nq := ⟨_, rfl⟩
        have hBW : Below w.heap.size w W1 := by rw [hW1]; exact Below.drewN' HBw1.out nq
        have x0 : W1.cell? ⟨w.heap.size, 0, none⟩ = some (.int .i64 x.kind) := by rw [hW1]; exact y0
        have x1 : W1.cell? ⟨w.heap.size, 1, none⟩ = some (.string x.text) := by rw [hW1]; exact y1
        have x2 : W1.cell? ⟨w.heap.size, 2, none⟩ = some (.int .i64 x.n) := by rw [hW1]; exact y2
        have hxl : w.heap.size < W1.heap.size := by rw [hW1]; exact hxl1
        have hA : i < l.length → some (⟨g, off + i * 3, none⟩ : Addr) = (if c = i then some (⟨g, off, none⟩ : Addr) else (some (⟨g, off, none⟩ : Addr)).map (·.add (i * 3))) := fun _ => by rw [if_neg (by omega)]; simp [Go.WideShapes.add_plain]
        rw [← hW1]
        clear hW1 y0 y1 y2
        have hn1 : 0 < i → ∃ ad, (some (⟨g, off, none⟩ : Addr)) = some ad ∧ ∀ j u, ((l.take i).flatMap Sym.cells)[j]? = some u → W1.cell? (ad.add j) = some u := fun h => ((HRD.out.new_ hBW).prefix_ i).news Sym.cells_length (by omega) (by simp; omega)
        have hl1 : ((l.take i).flatMap Sym.cells).length = i * 3 := by rw [flat_length Sym.cells_length, List.length_take, Nat.min_eq_left hi]
        have hl3 : ((l.drop i).flatMap Sym.cells).length = (l.length - i) * 3 := by rw [flat_length Sym.cells_length, List.length_drop]
        have HBW := Lib.hid hBW
        have HN1 := Lib.hid hn1
        have HL1 := Lib.hid hl1
        have HL3 := Lib.hid hl3
        have HA45 := Lib.hid hA
        clear hBW hn1 hl1 hl3 hA
        go_wp2_with (first
         | (at_builtin; refine wpList_append_src W1 rfl (.const (.slice none 0 0)) (.tmp 36) 57 rfl 23 i0 _ 3 32 Tryz.underlying57 hi0 hz0 hz1 hz2 rfl (by omega) (.slice none 0 0) 0 [] rfl (owns_nil W1 0 _ _) (some (⟨g, off, none⟩ : Addr)) i c ((l.take i).flatMap Sym.cells) rfl HL1.out HN1.out (Sym.oneAll _) (by unfold maxLen; omega) (by omega) ?_; intro v1 w2 hown1 hg1 hnil1 hat1;
             rw [Nat.zero_add, List.nil_append] at hown1;
             have z0 := hg1.cell x0 (by simp [Value.ownBlock]);
             have z1 := hg1.cell x1 (by simp [Value.ownBlock]);
             have z2 := hg1.cell x2 (by simp [Value.ownBlock]);
             have HB2 := Lib.hid (HBW.out.grown hg1 (by have := HBW.out.size; omega) (fun k hk => by simp [Value.ownBlock] at hk));
             have HG1 := Lib.hid hg1;
             have HO1 := Lib.hid hown1;
             have HAT1 := Lib.hid hat1;
             clear hg1 hown1 hat1 hnil1 x0 x1 x2)
         | (at_builtin; refine wpList_append_src (w2.alloc (.cells #[.int .i64 x.kind, .string x.text, .int .i64 x.n] 23)) rfl (.tmp 38) (.tmp 40) 57 rfl 23 i0 _ 3 32 Tryz.underlying57 hi0 hz0 hz1 hz2 rfl (by omega) v1 i ((l.take i).flatMap Sym.cells) rfl (ownsRow_new HO1.out ((Below.refl _ _).alloc (Nat.le_refl _) _)) (some ⟨w2.heap.size, 0, none⟩) 1 1 (Sym.cells x) rfl rfl (fun _ => ⟨_, rfl, World.news_of_block (heap_alloc_new _ _)⟩) (Sym.one x) (by unfold maxLen; omega) (by omega) ?_; intro v2 w3 hown2 hg2 hnil2 hat2;
             have hv1 := fresh_own (B := w.heap.size) HAT1.out (fun k hk => by simp [Value.ownBlock] at hk) HBW.out.size;
             have HB3 := Lib.hid ((HB2.out.alloc HB2.out.size (.cells #[.int .i64 x.kind, .string x.text, .int .i64 x.n] 23)).grown hg2 (by have := HB2.out.size; simp; omega) hv1);
             have hv2 := fresh_own (B := w.heap.size) hat2 hv1 (by have := HB2.out.size; simp; omega);
             have HV2 := Lib.hid hv2;
             have HO2 := Lib.hid hown2;
             clear hg2 hown2 hat2 hnil2 hv1 hv2 z0 z1 z2)
         | (at_builtin; refine wpList_append_src w3 rfl (.tmp 42) (.tmp 45) 57 rfl 23 i0 _ 3 32 Tryz.underlying57 hi0 hz0 hz1 hz2 rfl (by omega) v2 (i + 1) ((l.take i).flatMap Sym.cells ++ Sym.cells x) rfl HO2.out (some (⟨g, off + i * 3, none⟩ : Addr)) (l.length - i) (c - i) ((l.drop i).flatMap Sym.cells) rfl HL3.out (suffix_news (HRD.out.new_ HB3.out) hi HA45.out) (Sym.oneAll _) (by unfold maxLen; omega) (by omega) ?_; intro v3 w4 hown3 hg3 hnil3 hat3;
             have HB4 := Lib.hid (HB3.out.grown hg3 (by have := HB3.out.size; omega) HV2.out);
             have HV3 := Lib.hid (fresh_own (B := w.heap.size) hat3 HV2.out HB3.out.size);
             have HO3 := Lib.hid hown3;
             clear hg3 hown3 hat3 hnil3))
        all_goals
         go_ret
         obtain ⟨A', c', hv, hr, ha⟩ := rput_end (w := w) HPUT.out hi HO3.out HV3.out
         exact ⟨A', c', by rw [← hv]; rfl, hr, .inr ha, HB4.out⟩
  · have g1 : decide ((i : Int) < (l.length : Int)) = false := by simpa using hlt
    have hput := (found_at (x := x) HSO.out hi HALL.out (fun h => absurd h hlt) (fun h => absurd h hlt)).2
    have HPUT := Lib.hid hput
    clear hput
    have hBw : Below w.heap.size w wr := HB0.out.trans (hB.mono HB0.out.size)
    have hxr := HX0.out.new_ hB
    have hxl1 := hxr.lt
    have y0 := hxr.cell 0
    have y1 := hxr.cell 1
    have y2 := hxr.cell 2
    simp only [List.getElem?_toArray, List.getElem?_cons_zero, List.getElem?_cons_succ] at y0 y1 y2
    have HBw1 := Lib.hid hBw
    clear hB hBw hxr
    go_wp2_with fail
    go_quiet (fail)
    obtain ⟨w1, hw1⟩ : ∃ w1, w1 = wr.drewN nq := ⟨_, rfl⟩
    have HBw2 : Hid (Below w.heap.size w w1) := by rw [hw1]; exact Below.drewN' HBw1.out nq
    have z0 : w1.cell? ⟨w.heap.size, 0, none⟩ = some (.int .i64 x.kind) := by rw [hw1]; exact y0
    have z1 : w1.cell? ⟨w.heap.size, 1, none⟩ = some (.string x.text) := by rw [hw1]; exact y1
    have z2 : w1.cell? ⟨w.heap.size, 2, none⟩ = some (.int .i64 x.n) := by rw [hw1]; exact y2
    have hxl2 : w.heap.size < w1.heap.size := by rw [hw1]; exact hxl1
    rw [← hw1]
    clear hw1 y0 y1 y2 HBw1 hxl1
    go_wp2_with fail
    go_quiet (fail)
    obtain ⟨W1, hW1⟩ : ∃ W1, W1 = w1.drewN nq := ⟨_, rfl⟩
    have hBW : Below w.heap.size w W1 := by rw [hW1]; exact Below.drewN' HBw2.out nq
    have x0 : W1.cell? ⟨w.heap.size, 0, none⟩ = some (.int .i64 x.kind) := by rw [hW1]; exact z0
    have x1 : W1.cell? ⟨w.heap.size, 1, none⟩ = some (.string x.text) := by rw [hW1]; exact z1
    have x2 : W1.cell? ⟨w.heap.size, 2, none⟩ = some (.int .i64 x.n) := by rw [hW1]; exact z2
    have hxl : w.heap.size < W1.heap.size := by rw [hW1]; exact hxl2
    have hA : i < l.length → (if c = i then A else A.map (·.add (i * 3))) = (if c = i then A else A.map (·.add (i * 3))) := fun _ => rfl
    rw [← hW1]
    clear hW1 z0 z1 z2 g1
    have hlti : ¬ i < l.length := hlt
    have hn1 : 0 < i → ∃ ad, A = some ad ∧ ∀ j u, ((l.take i).flatMap Sym.cells)[j]? = some u → W1.cell? (ad.add j) = some u := fun h => ((HRD.out.new_ hBW).prefix_ i).news Sym.cells_length (by omega) (by simp; omega)
    have hl1 : ((l.take i).flatMap Sym.cells).length = i * 3 := by rw [flat_length Sym.cells_length, List.length_take, Nat.min_eq_left hi]
    have hl3 : ((l.drop i).flatMap Sym.cells).length = (l.length - i) * 3 := by rw [flat_length Sym.cells_length, List.length_drop]
    have HBW := Lib.hid hBW
    have HN1 := Lib.hid hn1
    have HL1 := Lib.hid hl1
    have HL3 := Lib.hid hl3
    have HA45 := Lib.hid hA
    clear hBW hn1 hl1 hl3 hA
    go_wp2_with (first
     | (at_builtin; refine wpList_append_src W1 rfl (.const (.slice none 0 0)) (.tmp 36) 57 rfl 23 i0 _ 3 32 Tryz.underlying57 hi0 hz0 hz1 hz2 rfl (by omega) (.slice none 0 0) 0 [] rfl (owns_nil W1 0 _ _) A i c ((l.take i).flatMap Sym.cells) rfl HL1.out HN1.out (Sym.oneAll _) (by unfold maxLen; omega) (by omega) ?_; intro v1 w2 hown1 hg1 hnil1 hat1;
         rw [Nat.zero_add, List.nil_append] at hown1;
         have z0 := hg1.cell x0 (by simp [Value.ownBlock]);
         have z1 := hg1.cell x1 (by simp [Value.ownBlock]);
         have z2 := hg1.cell x2 (by simp [Value.ownBlock]);
         have HB2 := Lib.hid (HBW.out.grown hg1 (by have := HBW.out.size; omega) (fun k hk => by simp [Value.ownBlock] at hk));
         have HG1 := Lib.hid hg1;
         have HO1 := Lib.hid hown1;
         have HAT1 := Lib.hid hat1;
         clear hg1 hown1 hat1 hnil1 x0 x1 x2)
     | (at_builtin; refine wpList_append_src (w2.alloc (.cells #[.int .i64 x.kind, .string x.text, .int .i64 x.n] 23)) rfl (.tmp 38) (.tmp 40) 57 rfl 23 i0 _ 3 32 Tryz.underlying57 hi0 hz0 hz1 hz2 rfl (by omega) v1 i ((l.take i).flatMap Sym.cells) rfl (ownsRow_new HO1.out ((Below.refl _ _).alloc (Nat.le_refl _) _)) (some ⟨w2.heap.size, 0, none⟩) 1 1 (Sym.cells x) rfl rfl (fun _ => ⟨_, rfl, World.news_of_block (heap_alloc_new _ _)⟩) (Sym.one x) (by unfold maxLen; omega) (by omega) ?_; intro v2 w3 hown2 hg2 hnil2 hat2;
         have hv1 := fresh_own (B := w.heap.size) HAT1.out (fun k hk => by simp [Value.ownBlock] at hk) HBW.out.size;
         have HB3 := Lib.hid ((HB2.out.alloc HB2.out.size (.cells #[.int .i64 x.kind, .string x.text, .int .i64 x.n] 23)).grown hg2 (by have := HB2.out.size; simp; omega) hv1);
         have hv2 := fresh_own (B := w.heap.size) hat2 hv1 (by have := HB2.out.size; simp; omega);
         have HV2 := Lib.hid hv2;
         have HO2 := Lib.hid hown2;
         clear hg2 hown2 hat2 hnil2 hv1 hv2 z0 z1 z2)
     | (at_builtin; refine wpList_append_src w3 rfl (.tmp 42) (.tmp 45) 57 rfl 23 i0 _ 3 32 Tryz.underlying57 hi0 hz0 hz1 hz2 rfl (by omega) v2 (i + 1) ((l.take i).flatMap Sym.cells ++ Sym.cells x) rfl HO2.out (if c = i then A else A.map (·.add (i * 3))) (l.length - i) (c - i) ((l.drop i).flatMap Sym.cells) rfl HL3.out (suffix_news (HRD.out.new_ HB3.out) hi HA45.out) (Sym.oneAll _) (by unfold maxLen; omega) (by omega) ?_; intro v3 w4 hown3 hg3 hnil3 hat3;
         have HB4 := Lib.hid (HB3.out.grown hg3 (by have := HB3.out.size; omega) HV2.out);
         have HV3 := Lib.hid (fresh_own (B := w.heap.size) hat3 HV2.out HB3.out.size);
         have HO3 := Lib.hid hown3;
         clear hg3 hown3 hat3 hnil3))
    all_goals
     go_ret
     obtain ⟨A', c', hv, hr, ha⟩ := rput_end (w := w) HPUT.out hi HO3.out HV3.out
     exact ⟨A', c', by rw [← hv]; rfl, hr, .inr ha, HB4.out⟩
end Go.Proofs.YtpndmjabjjbefaaGreat
namespace Go.Proofs.YtpndmjabjjbefaaGreat
open Go.RowKit
theorem rtput_bad_at {L : List Sym} {i : Nat} (hi : i < L.length) (h : validB L[i] = false) : L.all validB = false := by
 rw [List.all_eq_false]
 exact ⟨L[i], List.getElem_mem hi, by rw [h]; simp⟩
def RPut (w : World) (k : Nat) (room : Int) (l L : List Sym) (A : Option Addr) (e : Ending) (w' : World) : Prop :=
 if L.all validB = true then
  if room < ((puts cmpSym l L).length : Int) then e = .returned (.int .i64 20) ∧ Below w.heap.size w w'
  else e = .returned (.int .i64 0) ∧ (∃ A' cap', RTabA w' k room (puts cmpSym l L) A' cap' ∧ From A w.heap.size A') ∧ Fr (· = k) w w'
 else e = .returned (.int .i64 9) ∧ Below w.heap.size w w'
set_option maxRecDepth 100000 in
set_option maxHeartbeats 8000000 in
theorem rtput_is (k : Nat) (room : Int) (l L : List Sym) (A2 : Option Addr) (c2 : Nat) (A : Option Addr) (cap : Nat) (w : World) (hR : RTabA w k room l A cap) (hL : RowRd w 3 Sym.cells A2 c2 L) (hs : Srt cmpSym l) (hll : (l.length : Int) ≤ 1000000) (hLL : (L.length : Int) ≤ 1000000) :
 Calls Tryz.prog 60 #[.pointer (some ⟨k, 0, none⟩), .slice A2 L.length c2] w (RPut w k room l L A) := by
 obtain ⟨hB, hrd, hAk⟩ := hR
 have HB := Lib.hid hB
 have HAK := Lib.hid hAk
 have HRD := Lib.hid hrd
 have HL := Lib.hid hL
 have HSO := Lib.hid hs
 clear hB hrd hL hs hAk
 go_enter Tryz.func60, Tryz.ntmps60
 go_wp2_with fail
 go_loopw [5] (fun s wr => ∃ i : Nat, s = .int .i64 i ∧ i ≤ L.length ∧ (∀ j, (h : j < L.length) → j < i → validB L[j] = true) ∧ Below w.heap.size w wr) (fun s wr => L.length - (intOf s).toNat)
 case atStart => exact ⟨0, rfl, Nat.zero_le _, fun j _ h => absurd h (by omega), Below.refl _ _⟩
 case round =>
  obtain ⟨i, rfl, hi, hall, hBl⟩ := hrel
  have HALL := Lib.hid hall
  have HBl := Lib.hid hBl
  clear hall hBl
  by_cases hlt : i < L.length
  · obtain ⟨y, hy⟩ : ∃ y, y = L[i] := ⟨_, rfl⟩
    obtain ⟨g, off, rfl, hg, q0, q1, q2⟩ := sym_at (HL.out.new_ HBl.out) hlt
    rw [← hy] at q0 q1 q2
    have HY := Lib.hid hy
    have b1 : (0 : Int) ≤ (i : Int) := by omega
    have b2 : (i : Int) < (L.length : Int) := by omega
    clear hy
    go_wp2_with fail
    refine (rvalid_is y _).mono ?_
    rintro e w1 ⟨rfl, hb1⟩
    have HB1 := Lib.hid (HBl.out.trans (hb1.mono HBl.out.size))
    clear hb1 q0 q1 q2
    cases hv : validB y
    · have HE := Lib.hid (rtput_bad_at hlt (by rw [← HY.out]; exact hv))
      go_wp2_with fail
      go_ret
      unfold RPut
      rw [HE.out]
      exact ⟨rfl, HB1.out⟩
    · have HV := Lib.hid hv
      go_wp2_with fail
      go_roundw
      case rel => exact ⟨i + 1, by go_num, by omega, fun j h hj => by
       rcases Nat.lt_or_ge j i with h3 | h3
       · exact HALL.out j h h3
       · obtain rfl : j = i := by omega
         rw [← HY.out]; exact HV.out, HB1.out⟩
      case measure => simp [intOf] <;> omega
  · have hie : i = L.length := by omega
    subst hie
    have HE := Lib.hid (show L.all validB = true from List.all_eq_true.2 (fun x hx => by
     obtain ⟨j, hj, rfl⟩ := List.getElem_of_mem hx
     exact HALL.out j hj hj))
    obtain ⟨w3, hw3⟩ : ∃ w3, w3 = wr := ⟨_, rfl⟩
    rw [← hw3] at HBl ⊢
    have hBk := HB.out.new_ HBl.out
    have s1 : w3.cell? ⟨k, 1, none⟩ = some (.slice A l.length cap) := (hBk.cell 1).trans rfl
    have hkl := hBk.lt
    have HBk := Lib.hid hBk
    have hz3 := HBl.out.size
    clear hw3 hBk
    go_wp2_with fail
    clear s1
    go_loopw [6, 7] (fun v s W => ∃ (i : Nat) (A' : Option Addr) (c' : Nat), s = .int .i64 i ∧ i ≤ L.length ∧ v = .slice A' (puts cmpSym l (L.take i)).length c' ∧ RowRd W 3 Sym.cells A' c' (puts cmpSym l (L.take i)) ∧ (AIn A' (fun j => j ≠ k ∧ j < W.heap.size) ∧ From A w.heap.size A') ∧ Below w3.heap.size w3 W) (fun v s W => L.length - (intOf s).toNat)
    case atStart => exact ⟨0, A, cap, rfl, Nat.zero_le _, rfl, HRD.out.new_ HBl.out, ⟨HAK.out.mono (fun j hj => ⟨hj.1, by have := hj.2; have := HBl.out.size; omega⟩), From.refl _ _⟩, Below.refl _ _⟩
    case round =>
     obtain ⟨i, A', c', rfl, hi, rfl, hr, ⟨hA4, hfr4⟩, hB4⟩ := hrel
     have HFR4 := Lib.hid hfr4
     clear hfr4
     have HR4 := Lib.hid hr
     have HA4 := Lib.hid hA4
     have HB4 := Lib.hid hB4
     have HB34 := Lib.hid (HBl.out.trans (hB4.mono hz3))
     have hz4 := hB4.size
     clear hr hB4 hA4
     by_cases hlt : i < L.length
     · obtain ⟨y, hy⟩ : ∃ y, y = L[i] := ⟨_, rfl⟩
       obtain ⟨g, off, rfl, hg, q0, q1, q2⟩ := sym_at (HL.out.new_ HB34.out) hlt
       rw [← hy] at q0 q1 q2
       have HY := Lib.hid hy
       have b1 : (0 : Int) ≤ (i : Int) := by omega
       have b2 : (i : Int) < (L.length : Int) := by omega
       have hlen : (((puts cmpSym l (L.take i)).length : Nat) : Int) ≤ 100000000 := by
        have := length_puts_le tc_sym (L.take i) HSO.out
        simp at this; omega
       obtain ⟨X, hX⟩ : ∃ X, X = puts cmpSym l (L.take i) := ⟨_, rfl⟩
       have HXS := Lib.hid (show Srt cmpSym X by rw [hX]; exact Srt.puts tc_sym _ HSO.out)
       have HXN := Lib.hid (show puts cmpSym l (L.take (i + 1)) = put cmpSym X y by rw [List.take_add_one, List.getElem?_eq_getElem hlt, ← hy, hX]; simp only [Option.toList_some, puts_snoc])
       rw [← hX] at hlen HR4 ⊢
       clear hy hX
       go_wp2_with fail
       refine (rput_is A' c' X y _ HR4.out HXS.out hlen).mono ?_
       rintro e w5 ⟨A5, c5, rfl, hr5, hA5, hb5⟩
       have HR5 := Lib.hid hr5
       have HB5 := Lib.hid (HB4.out.trans (hb5.mono hz4))
       have HFR5 := Lib.hid (HFR4.out.step (by have := HBl.out.size; omega) hA5)
       have HA5 := Lib.hid (show AIn A5 (fun j => j ≠ k ∧ j < w5.heap.size) by
        rcases hA5 with rfl | h
        · exact HA4.out.mono (fun j hj => ⟨hj.1, by have := hj.2; have := hb5.size; omega⟩)
        · exact h.mono (fun j hj => by have := hb5.size; omega))
       clear hr5 hb5 hA5 q0 q1 q2 hlen
       go_wp2_with fail
       go_roundw
       case rel => exact ⟨i + 1, A5, c5, by go_num, by omega, by rw [HXN.out], by rw [HXN.out]; exact HR5.out, ⟨HA5.out, HFR5.out⟩, HB5.out⟩
       case measure => simp [intOf] <;> omega
     · have hie : i = L.length := by omega
       subst hie
       have hR5 := HR4.out
       rw [List.take_length] at hR5 ⊢
       obtain ⟨X, hX⟩ : ∃ X, X = puts cmpSym l L := ⟨_, rfl⟩
       rw [← hX] at hR5 ⊢
       have HX := Lib.hid hX
       have HR5 := Lib.hid hR5
       have hBk4 := HBk.out.new_ HB4.out
       have s0 : wr.cell? ⟨k, 0, none⟩ = some (.int .i64 room) := (hBk4.cell 0).trans rfl
       have s1 : wr.cell? ⟨k, 1, none⟩ = some (.slice A l.length cap) := (hBk4.cell 1).trans rfl
       have f1 := hBk4.frozen 1
       have hkl4 := hBk4.lt
       have HBk4 := Lib.hid hBk4
       clear hX hR5 hBk4
       by_cases hfull : room < (X.length : Int)
       · have t1 : decide (room < (X.length : Int)) = true := by simpa using hfull
         have HFu := Lib.hid hfull
         clear hfull
         go_wp2_with fail
         go_ret
         unfold RPut
         rw [HE.out, ← HX.out, if_pos rfl, if_pos HFu.out]
         exact ⟨rfl, HB34.out⟩
       · have t1 : decide (room < (X.length : Int)) = false := by simpa using hfull
         have HFu := Lib.hid hfull
         clear hfull
         go_wp2_with fail
         go_ret
         unfold RPut
         rw [HE.out, ← HX.out, if_pos rfl, if_neg (by have := HFu.out; omega)]
         have hFs : Fr (· = k) wr (wr.setCell ⟨k, 1, none⟩ (.slice A' X.length c')) := (Fr.refl (· = k) wr).setCell (p := ⟨k, 1, none⟩) (.inl rfl) _
         exact ⟨rfl, ⟨A', c', ⟨HBk4.out.set_ 1 _, HR5.out.fr hFs (HA4.out.mono (fun j hj => hj.1)), HA4.out.mono (fun j hj => ⟨hj.1, by simpa using hj.2⟩)⟩, HFR4.out⟩, (Fr.of_new HB34.out).trans hFs⟩
end Go.Proofs.YtpndmjabjjbefaaGreat
namespace Go.Proofs.YtpndmjabjjbefaaGreat
open Go.RowKit
theorem RTabA.below_ {w w' : World} {k : Nat} {room : Int} {l : List Sym} {A : Option Addr} {cap : Nat} (h : RTabA w k room l A cap) (hb : Below w.heap.size w w') : RTabA w' k room l A cap := by
 obtain ⟨h1, h2, h3⟩ := h
 exact ⟨h1.new_ hb, h2.new_ hb, h3.mono (fun j hj => ⟨hj.1, by have := hj.2; have := hb.size; omega⟩)⟩
end Go.Proofs.YtpndmjabjjbefaaGreat
namespace Go.Proofs.YtpndmjabjjbefaaGreat
open Go.RowKit
theorem srt_ext {α : Type} {cmp : α → α → Int} (t : TC cmp) (h0 : ∀ x, ¬ cmp x x < 0) : ∀ {l m : List α}, Srt cmp l → Srt cmp m → (∀ x, x ∈ l ↔ x ∈ m) → l = m
 | [], [], _, _, _ => rfl
 | [], b :: m, _, _, h => absurd ((h b).2 (by simp)) (by simp)
 | a :: l, [], _, _, h => absurd ((h a).1 (by simp)) (by simp)
 | a :: l, b :: m, hl, hm, h => by
   unfold Srt at hl hm
   rw [List.pairwise_cons] at hl hm
   have e : a = b := by
    rcases List.mem_cons.1 ((h a).1 (by simp)) with e | e
    · exact e
    · rcases List.mem_cons.1 ((h b).2 (by simp)) with e2 | e2
      · exact e2.symm
      · have h1 := hm.1 a e
        have h2 := hl.1 b e2
        have h3 := (t.symm _ _).1 h1
        omega
   subst e
   rw [srt_ext t h0 hl.2 hm.2 (fun x => ?_)]
   constructor
   · intro hx
     rcases List.mem_cons.1 ((h x).1 (by simp [hx])) with e | e
     · subst e; exact absurd (hl.1 x hx) (h0 x)
     · exact e
   · intro hx
     rcases List.mem_cons.1 ((h x).2 (by simp [hx])) with e | e
     · subst e; exact absurd (hm.1 x hx) (h0 x)
     · exact e
theorem sym_ext {l m : List Sym} (hl : Srt cmpSym l) (hm : Srt cmpSym m) (h : ∀ x, x ∈ l ↔ x ∈ m) : l = m :=
 srt_ext tc_sym (fun x => by have := (cmpSym_eq (a := x) (b := x)).2 rfl; omega) hl hm h
theorem mem_put_iff {l : List Sym} {x y : Sym} : y ∈ put cmpSym l x ↔ y ∈ l ∨ y = x := by
 unfold put
 split
 · rename_i h
   obtain ⟨z, hz, e⟩ := has_iff.1 h
   have := cmpSym_eq.1 e
   subst this
   constructor
   · exact .inl
   · rintro (h | rfl)
     · exact h
     · exact hz
 · rename_i h
   have hn := has_false.1 (by simpa using h)
   simp only [List.mem_append, List.mem_cons, mem_below, mem_above]
   constructor
   · rintro (h | h | h)
     · exact .inl h.1
     · exact .inr h
     · exact .inl h.1
   · rintro (h | h)
     · have := hn y h
       rcases Int.lt_trichotomy (cmpSym y x) 0 with h1 | h1 | h1
       · exact .inl ⟨h, h1⟩
       · exact absurd h1 this
       · exact .inr (.inr ⟨h, h1⟩)
     · exact .inr (.inl h)
theorem mem_puts_iff : ∀ (xs : List Sym) {l : List Sym} {y : Sym}, y ∈ puts cmpSym l xs ↔ y ∈ l ∨ y ∈ xs
 | [], _, _ => by simp [puts]
 | x :: xs, l, y => by
   rw [show puts cmpSym l (x :: xs) = puts cmpSym (put cmpSym l x) xs from rfl, mem_puts_iff xs, mem_put_iff]
   simp [or_assoc]
theorem has_mem {l : List Sym} {x : Sym} : has cmpSym l x = true ↔ x ∈ l := by
 rw [has_iff]
 constructor
 · rintro ⟨z, hz, e⟩
   rw [← cmpSym_eq.1 e]; exact hz
 · exact fun h => ⟨x, h, cmpSym_eq.2 rfl⟩
end Go.Proofs.YtpndmjabjjbefaaGreat
namespace Go.Proofs.YtpndmjabjjbefaaGreat
theorem maxFold_le (c : UInt8) (k : Int) : ∀ (l : List Sym) (a : Int), l.foldl (fun n s => if s.kind = 1 ∧ s.text = letB c then max n s.n else n) a ≤ k ↔ a ≤ k ∧ ∀ s ∈ l, s.kind = 1 ∧ s.text = letB c → s.n ≤ k
 | [], a => by simp
 | s :: l, a => by
   rw [List.foldl_cons, maxFold_le c k l]
   by_cases h : s.kind = 1 ∧ s.text = letB c
   · rw [if_pos h]
     constructor
     · rintro ⟨h1, h2⟩
       refine ⟨by omega, fun x hx hc => ?_⟩
       rcases List.mem_cons.1 hx with rfl | hx
       · omega
       · exact h2 x hx hc
     · rintro ⟨h1, h2⟩
       exact ⟨by have := h2 s (by simp) h; omega, fun x hx hc => h2 x (by simp [hx]) hc⟩
   · rw [if_neg h]
     constructor
     · rintro ⟨h1, h2⟩
       refine ⟨h1, fun x hx hc => ?_⟩
       rcases List.mem_cons.1 hx with rfl | hx
       · exact absurd hc h
       · exact h2 x hx hc
     · rintro ⟨h1, h2⟩
       exact ⟨h1, fun x hx hc => h2 x (by simp [hx]) hc⟩
theorem maxL_le {l : List Sym} {c : UInt8} {k : Int} : maxL l c ≤ k ↔ 0 ≤ k ∧ ∀ s ∈ l, s.kind = 1 ∧ s.text = letB c → s.n ≤ k := maxFold_le c k l 0
theorem maxL_congr {l l' : List Sym} (c : UInt8) (h : ∀ x, x ∈ l ↔ x ∈ l') : maxL l c = maxL l' c := by
 have h1 : maxL l c ≤ maxL l' c := maxL_le.2 (by have := maxL_le.1 (Int.le_refl (maxL l' c)); exact ⟨this.1, fun s hs => this.2 s ((h s).1 hs)⟩)
 have h2 : maxL l' c ≤ maxL l c := maxL_le.2 (by have := maxL_le.1 (Int.le_refl (maxL l c)); exact ⟨this.1, fun s hs => this.2 s ((h s).2 hs)⟩)
 omega
theorem maxL_put (l : List Sym) (s : Sym) (c : UInt8) : maxL (put cmpSym l s) c = if s.kind = 1 ∧ s.text = letB c then max (maxL l c) s.n else maxL l c := by
 rw [← maxL_snoc]
 exact maxL_congr c (fun x => by rw [mem_put_iff]; simp)
theorem maxL_nonneg (l : List Sym) (c : UInt8) : 0 ≤ maxL l c := (maxL_le.1 (Int.le_refl _)).1
theorem mem_mput {m : List Page} {p y : Page} : y ∈ mput m p ↔ (y ∈ m ∧ y.key ≠ p.key) ∨ y = p := by
 have hn : has cmpPage (drop cmpPage m p) p = false := by
  rw [has_false]
  intro y hy
  exact (mem_drop.1 hy).2
 unfold mput put
 rw [if_neg (by rw [hn]; simp)]
 simp only [List.mem_append, List.mem_cons, mem_below, mem_above, mem_drop]
 have e : ∀ y : Page, cmpPage y p ≠ 0 ↔ y.key ≠ p.key := fun y => by rw [ne_eq, cmpPage_eq]
 constructor
 · rintro (⟨⟨h1, h2⟩, _⟩ | h | ⟨⟨h1, h2⟩, _⟩)
   · exact .inl ⟨h1, (e y).1 h2⟩
   · exact .inr h
   · exact .inl ⟨h1, (e y).1 h2⟩
 · rintro (⟨h1, h2⟩ | h)
   · have h3 := (e y).2 h2
     by_cases hlt : cmpPage y p < 0
     · exact .inl ⟨⟨h1, h3⟩, hlt⟩
     · exact .inr (.inr ⟨⟨h1, h3⟩, by omega⟩)
   · exact .inr (.inl h)
theorem srt_mput {m : List Page} (hs : Srt cmpPage m) (p : Page) : Srt cmpPage (mput m p) := (hs.drop p).put tc_page p
theorem mget_of_not {m : List Page} {c : UInt8} (h : ∀ y ∈ m, y.key ≠ c) : mget m c = none := by
 refine mget_none ?_
 rw [has_false]
 intro y hy e
 exact h y hy (cmpPage_eq.1 e)
theorem mget_iff {m : List Page} (hs : Srt cmpPage m) {c : UInt8} {v : Int} : mget m c = some v ↔ ⟨c, v⟩ ∈ m := by
 constructor
 · intro h
   unfold mget at h
   cases hf : m.find? fun p => p.key == c with
   | none => rw [hf] at h; simp at h
   | some y =>
     rw [hf] at h
     simp only [Option.map_some, Option.some.injEq] at h
     have h1 := List.mem_of_find?_eq_some hf
     have h2 := List.find?_some hf
     simp only [beq_iff_eq] at h2
     have : (⟨c, v⟩ : Page) = y := by cases y; simp_all
     rw [this]; exact h1
 · intro h; exact mget_some hs h rfl
theorem mget_mput {m : List Page} (hs : Srt cmpPage m) (p : Page) (c : UInt8) : mget (mput m p) c = if p.key = c then some p.v else mget m c := by
 by_cases h : p.key = c
 · rw [if_pos h]
   exact mget_some (srt_mput hs p) (mem_mput.2 (.inr rfl)) h
 · rw [if_neg h]
   cases hm : mget m c with
   | some v => exact (mget_iff (srt_mput hs p)).2 (mem_mput.2 (.inl ⟨(mget_iff hs).1 hm, fun e => h e.symm⟩))
   | none =>
     refine mget_of_not (fun y hy e => ?_)
     rcases mem_mput.1 hy with ⟨h1, _⟩ | rfl
     · have : mget m c = some y.v := mget_some hs h1 e
       rw [hm] at this; cases this
     · exact h e
theorem page_len {m : List Page} (hs : Srt cmpPage m) : (m.length : Int) ≤ 256 := by
 have h : ∀ i, (hi : i < m.length) → (i : Int) ≤ m[i].kk := by
  intro i
  induction i with
  | zero => intro hi; exact (Page.kk_bd _).1
  | succ i ih =>
    intro hi
    have h1 := ih (by omega)
    have h2 : cmpPage (m[i]'(by omega)) m[i + 1] < 0 := hs.lt (Nat.lt_succ_self i) hi
    unfold cmpPage at h2
    omega
 rcases Nat.eq_zero_or_pos m.length with h0 | h0
 · omega
 · have h1 := h (m.length - 1) (by omega)
   have h2 := (Page.kk_bd (m[m.length - 1]'(by omega))).2
   omega
def TI (l : List Sym) (m : List Page) : Prop := Srt cmpPage m ∧ ∀ c, greatB c = true → nextB m c = maxL l c + 1
theorem TI.nil : TI [] [] := ⟨Srt.nil, fun c hc => by unfold nextB mget maxL; rw [if_pos hc]; rfl⟩
theorem TI.next {l : List Sym} {m : List Page} (h : TI l m) (c : UInt8) : nextB m c = nextL l c := by
 unfold nextL
 cases hg : greatB c
 · unfold nextB; simp [hg]
 · rw [if_pos rfl]; exact h.2 c hg
theorem letB_inj {c d : UInt8} (h : letB c = letB d) : c = d := by
 have : idc (letB c) = idc (letB d) := by rw [h]
 exact this
theorem letB_of {t : ByteArray} (h : t.size = 1) : t = letB (idc t) := by
 rw [idc_eq (by omega)]
 obtain ⟨a⟩ := t
 have hs : a.size = 1 := h
 unfold letB
 congr 1
 apply Array.ext
 · simpa using hs
 · intro i h1 h2
   have hi : i = 0 := by omega
   subst hi
   rfl
theorem hasNot {l : List Sym} {x : Sym} : has cmpSym l x = false ↔ x ∉ l := by
 rw [← has_mem]; simp
theorem TI.put {l : List Sym} {m : List Page} (h : TI l m) {s : Sym} (hv : validB s = true) : TI (put cmpSym l s) (tputM m s) := by
 by_cases hk : s.kind = 1
 · obtain ⟨k, t, n⟩ := s
   dsimp only at hk
   subst hk
   obtain ⟨h1, h2, h3, h4⟩ := validB_id hv
   have ht := letB_of h1
   have hg : greatB (idc t) = true := by
    rw [idc_eq (by omega)]
    have := h2
    rwa [headB_eq (by omega)] at this
   have hnx := h.2 (idc t) hg
   unfold tputM
   dsimp only
   by_cases hc : nextB m (idc t) ≤ n
   · rw [if_pos ⟨rfl, hc⟩]
     refine ⟨srt_mput h.1 _, fun c hcg => ?_⟩
     have hc2 := h.2 c hcg
     rw [maxL_put]
     unfold nextB at hc2 ⊢
     rw [if_pos hcg] at hc2 ⊢
     rw [mget_mput h.1]
     dsimp only
     by_cases e : idc t = c
     · subst e
       rw [if_pos rfl, if_pos ⟨rfl, ht⟩]
       simp only [Option.getD_some]
       omega
     · rw [if_neg e, if_neg (fun hh => e (letB_inj (ht.symm.trans hh.2)))]
       exact hc2
   · rw [if_neg (fun hh => hc hh.2)]
     refine ⟨h.1, fun c hcg => ?_⟩
     rw [maxL_put, h.2 c hcg]
     by_cases e : idc t = c
     · subst e
       rw [if_pos ⟨rfl, ht⟩]
       dsimp only
       omega
     · rw [if_neg (fun hh => e (letB_inj (ht.symm.trans hh.2)))]
 · unfold tputM
   rw [if_neg (fun hh => hk hh.1)]
   refine ⟨h.1, fun c hcg => ?_⟩
   rw [maxL_put, if_neg (fun hh => hk hh.1)]
   exact h.2 c hcg
theorem TI.puts {m : List Page} : ∀ (xs : List Sym) {l : List Sym} {m : List Page}, TI l m → (∀ s ∈ xs, validB s = true) → TI (puts cmpSym l xs) (xs.foldl tputM m)
 | [], _, _, h, _ => h
 | x :: xs, _, _, h, hv => TI.puts (m := m) xs (h.put (hv x (by simp))) (fun s hs => hv s (by simp [hs]))
def frsh (l L : List Sym) : List Sym := puts cmpSym [] (L.filter fun s => !has cmpSym l s)
theorem frsh_nil (l : List Sym) : frsh l [] = [] := rfl
theorem mem_frsh {l L : List Sym} {x : Sym} : x ∈ frsh l L ↔ x ∈ L ∧ x ∉ l := by
 unfold frsh
 rw [mem_puts_iff]
 simp [hasNot]
theorem frsh_srt (l L : List Sym) : Srt cmpSym (frsh l L) := Srt.puts tc_sym _ Srt.nil
theorem frsh_snoc (l L : List Sym) (x : Sym) : frsh l (L ++ [x]) = if has cmpSym l x = true then frsh l L else put cmpSym (frsh l L) x := by
 unfold frsh
 rw [List.filter_append]
 by_cases h : has cmpSym l x = true
 · rw [if_pos h]; simp [h]
 · rw [if_neg h]
   have : has cmpSym l x = false := by simpa using h
   simp only [List.filter_cons, this, Bool.not_false, if_true, List.filter_nil]
   exact puts_snoc _ _ _
theorem puts_frsh {l : List Sym} (hs : Srt cmpSym l) (L : List Sym) : puts cmpSym l (frsh l L) = puts cmpSym l L := by
 refine sym_ext (Srt.puts tc_sym _ hs) (Srt.puts tc_sym _ hs) (fun x => ?_)
 rw [mem_puts_iff, mem_puts_iff, mem_frsh]
 by_cases h : x ∈ l <;> simp [h]
theorem length_frsh {l : List Sym} (hs : Srt cmpSym l) (L : List Sym) : (puts cmpSym l L).length = l.length + (frsh l L).length := by
 suffices h : ∀ R : List Sym, (puts cmpSym l R.reverse).length = l.length + (frsh l R.reverse).length by simpa using h L.reverse
 intro R
 induction R with
 | nil => simp [puts, frsh]
 | cons x R ih =>
   rw [List.reverse_cons, puts_snoc, frsh_snoc]
   have hs2 := Srt.puts tc_sym R.reverse hs
   cases h1 : has cmpSym (puts cmpSym l R.reverse) x
   · rw [length_put tc_sym hs2 h1]
     have h2 : x ∉ puts cmpSym l R.reverse := hasNot.1 h1
     rw [mem_puts_iff] at h2
     have h3 : has cmpSym l x = false := hasNot.2 (fun h => h2 (.inl h))
     rw [if_neg (by rw [h3]; simp), length_put tc_sym (frsh_srt _ _) (hasNot.2 (fun h => h2 (.inr (mem_frsh.1 h).1)))]
     omega
   · rw [put_has h1]
     have h2 : x ∈ puts cmpSym l R.reverse := has_mem.1 h1
     rw [mem_puts_iff] at h2
     by_cases h3 : x ∈ l
     · rw [if_pos (has_mem.2 h3)]; exact ih
     · rw [if_neg (by rw [has_mem]; exact h3), put_has (has_mem.2 (mem_frsh.2 ⟨h2.resolve_left h3, h3⟩))]; exact ih
theorem length_put_ge (l : List Sym) (hs : Srt cmpSym l) (x : Sym) : l.length ≤ (put cmpSym l x).length := by
 cases h : has cmpSym l x
 · rw [length_put tc_sym hs h]; omega
 · rw [put_has h]; exact Nat.le_refl _
theorem length_puts_ge : ∀ (xs : List Sym) (l : List Sym), Srt cmpSym l → l.length ≤ (puts cmpSym l xs).length
 | [], _, _ => Nat.le_refl _
 | x :: xs, l, hs => Nat.le_trans (length_put_ge l hs x) (length_puts_ge xs _ (hs.put tc_sym x))
theorem length_frsh_take (l L : List Sym) (i : Nat) : (frsh l (L.take i)).length ≤ (frsh l L).length := by
 have e : frsh l L = puts cmpSym (frsh l (L.take i)) ((L.drop i).filter fun s => !has cmpSym l s) := by
  unfold frsh puts
  rw [← List.foldl_append, ← List.filter_append, List.take_append_drop]
 rw [e]
 exact length_puts_ge _ _ (frsh_srt _ _)
end Go.Proofs.YtpndmjabjjbefaaGreat
namespace Go.Proofs.YtpndmjabjjbefaaGreat
open Go.RowKit Go.Shelf
attribute [local go_sem] Oper.semAt_some
section
variable {D : Nat → Prop} {w : World} {S : Nat → Option (List Sym)} {σ : Nat → St} {S2 : Nat → Option (List Page)} {σ2 : Nat → St}
def TPut (D : Nat → Prop) (w : World) (S : Nat → Option (List Sym)) (σ : Nat → St) (S2 : Nat → Option (List Page)) (σ2 : Nat → St) (T : TB) (l : List Sym) (m : List Page) (L : List Sym) (e : Ending) (w' : World) : Prop :=
 if L.all validB = true then
  if T.room < ((puts cmpSym l L).length : Int) then e = .returned (.int .i64 20) ∧ Below w.heap.size w w'
  else e = .returned (.int .i64 0) ∧ TabPut D w S σ S2 σ2 T (puts cmpSym l L) ((frsh l L).foldl tputM m) w'
 else e = .returned (.int .i64 9) ∧ Below w.heap.size w w'
theorem Sets.priv2 {α : Type} {tSet tE size : Nat} {cells : α → List Value} {cmp : α → α → Int} {w' : World} {S : Nat → Option (List α)} {B : Nat} (h : Sets tSet tE size cells cmp D w S σ) (hp : Priv B w w') : Sets tSet tE size cells cmp D w' S σ :=
 ⟨fun b l hb => (h.at_ b l hb).priv hp, h.srt, h.out, h.apart, fun k hk => Nat.lt_of_lt_of_le (h.low k hk) hp.size⟩
theorem Tabs.priv {w' : World} {B : Nat} (h : Tabs D w S σ S2 σ2) (hp : Priv B w w') : Tabs D w' S σ S2 σ2 := ⟨h.syms.priv2 hp, h.pages.priv2 hp⟩
theorem TabBlk.priv {w' : World} {B : Nat} {T : TB} (h : TabBlk w T) (hp : Priv B w w') : TabBlk w' T := ⟨h.1.priv hp, h.2.priv hp⟩
theorem KB.priv {w' w'' : World} {B : Nat} (h : KB w w') (hp : Priv B w' w'') : KB w w'' := fun g t cs h1 h2 h3 h4 hb => (h g t cs h1 h2 h3 h4 hb).priv hp
def NoCells (w : World) (k : Nat) : Prop := k < w.heap.size ∧ ¬ cellsAt w k
theorem Sets.quiet {α : Type} {tSet tE size : Nat} {cells : α → List Value} {cmp : α → α → Int} {S : Nat → Option (List α)} (h : Sets tSet tE size cells cmp D w S σ) : Sets tSet tE size cells cmp (fun k => D k ∨ NoCells w k) w S σ :=
 ⟨h.at_, h.srt, fun b l hb => ⟨fun hk => hk.elim (h.out b l hb).1 (fun hk => hk.2 (h.at_ b l hb).blk.at_), fun hs a ha hk => hk.elim ((h.out b l hb).2 hs a ha) (fun hk => hk.2 (owns_cells (h.at_ b l hb).row a.block (by rw [ha]; rfl)))⟩, h.apart, fun k hk => hk.elim (h.low k) (·.1)⟩
theorem Tabs.quiet (h : Tabs D w S σ S2 σ2) : Tabs (fun k => D k ∨ NoCells w k) w S σ S2 σ2 := ⟨h.syms.quiet, h.pages.quiet⟩
theorem keeps_quiet {w' : World} (h : Fr (fun k => ¬ (D k ∨ NoCells w k)) w w') (B : Nat) : KeepsFrom B w w' :=
 KeepsFrom.of_fr h (fun _ hk hl => Classical.byContradiction fun hc => hk (.inr ⟨hl, hc⟩)) B
theorem keepsFrom_same (B : Nat) (w : World) : KeepsFrom B w w := KeepsFrom.of_fr (Fr.refl (fun _ => False) w) (fun _ h => h.elim) B
theorem length_tputM (m : List Page) (s : Sym) : (tputM m s).length ≤ m.length + 1 := by
 unfold tputM
 split
 · unfold mput
   have h1 := length_drop_le (cmp := cmpPage) m ⟨idc s.text, s.n + 1⟩
   have h2 : has cmpPage (drop cmpPage m ⟨idc s.text, s.n + 1⟩) ⟨idc s.text, s.n + 1⟩ = false := by
    rw [has_false]; intro y hy; exact (mem_drop.1 hy).2
   unfold put
   rw [if_neg (by rw [h2]; simp)]
   have h3 : (below cmpPage (drop cmpPage m ⟨idc s.text, s.n + 1⟩) ⟨idc s.text, s.n + 1⟩).length + (above cmpPage (drop cmpPage m ⟨idc s.text, s.n + 1⟩) ⟨idc s.text, s.n + 1⟩).length ≤ (drop cmpPage m ⟨idc s.text, s.n + 1⟩).length := by
    generalize drop cmpPage m ⟨idc s.text, s.n + 1⟩ = X
    induction X with
    | nil => simp [below, above]
    | cons y X ih =>
      simp only [below, above, List.filter_cons] at ih ⊢
      split <;> split <;> simp_all <;> omega
   simp only [List.length_append, List.length_cons]
   omega
 · omega
theorem length_tputMs : ∀ (xs : List Sym) (m : List Page), (xs.foldl tputM m).length ≤ m.length + xs.length
 | [], _ => Nat.le_refl _
 | x :: xs, m => by
   have h1 := length_tputM m x
   have h2 := length_tputMs xs (tputM m x)
   simp only [List.foldl_cons, List.length_cons]
   omega
set_option maxRecDepth 100000 in
set_option maxHeartbeats 8000000 in
theorem tputl_is (T : TB) (l : List Sym) (m : List Page) (L : List Sym) (A2 : Option Addr) (c2 : Nat) (hT : Tabs D w S σ S2 σ2) (hB : TabBlk w T) (hb : S T.bs = some l) (hb2 : S2 T.bp = some m) (hL : RowRd w 3 Sym.cells A2 c2 L)
 (hr1 : 1 ≤ T.room) (hr2 : T.room ≤ 4096) (hlr : (l.length : Int) ≤ T.room) (hl2 : (m.length : Int) ≤ 256) (hLL : (L.length : Int) ≤ 10000) :
 Calls Tryz.prog 59 #[.pointer (some ⟨T.b, 0, none⟩), .slice A2 L.length c2] w (TPut D w S σ S2 σ2 T l m L) := by
 have HT := Lib.hid hT
 have HB := Lib.hid hB
 have HS := Lib.hid hb
 have HP := Lib.hid hb2
 have HL := Lib.hid hL
 have HSO := Lib.hid (hT.syms.srt T.bs l hb)
 clear hT hB hb hb2 hL
 refine (callsIn_wide (n := 0)).1 ?_
 refine callsIn_of_wp_marks Tryz.func59 rfl trivial ?_
 refine wpIn_wide.2 ?_
 simp only [Tryz.ntmps59, List.size_toArray, List.length_cons, List.length_nil, Nat.reduceAdd, Nat.reduceSub, Array.replicate_succ, Array.replicate_zero, List.push_toArray, List.append_toArray, List.nil_append, List.cons_append]
 go_wp2_with fail
 obtain ⟨W0, hW0⟩ : ∃ W0, W0 = w.alloc (.cells #[.pointer (some ⟨T.b, 0, none⟩)] 66) := ⟨_, rfl⟩
 have hb0 : Below w.heap.size w W0 := by rw [hW0]; exact (Below.refl _ _).alloc (Nat.le_refl _) _
 have hX0 : Blk W0 w.heap.size 66 #[.pointer (some ⟨T.b, 0, none⟩)] := by rw [hW0]; exact Blk.new _ _ _
 rw [← hW0]
 clear hW0
 have hz0 := hX0.lt
 have HB0 := Lib.hid hb0
 have HX0 := Lib.hid hX0
 clear hb0 hX0
 go_loopw [4, 15] (fun e s wr => ∃ i : Nat, e = .int .i64 0 ∧ s = .int .i64 i ∧ i ≤ L.length ∧ (∀ j, (h : j < L.length) → j < i → validB L[j] = true) ∧ Below W0.heap.size W0 wr) (fun e s wr => L.length - (intOf s).toNat)
 case atStart => exact ⟨0, rfl, rfl, Nat.zero_le _, fun j _ h => absurd h (by omega), Below.refl _ _⟩
 case round =>
  obtain ⟨i, rfl, rfl, hi, hall, hBl⟩ := hrel
  have HALL := Lib.hid hall
  have HBl := Lib.hid hBl
  have HX1 := Lib.hid (HX0.out.new_ hBl)
  have hz1 := hBl.size
  clear hall hBl
  by_cases hlt : i < L.length
  · obtain ⟨y, hy⟩ : ∃ y, y = L[i] := ⟨_, rfl⟩
    obtain ⟨g, off, rfl, hg, q0, q1, q2⟩ := sym_at (HL.out.new_ (HB0.out.trans (HBl.out.mono (by omega)))) hlt
    rw [← hy] at q0 q1 q2
    have HY := Lib.hid hy
    have b1 : (0 : Int) ≤ (i : Int) := by omega
    have b2 : (i : Int) < (L.length : Int) := by omega
    clear hy
    go_wp2_with fail
    refine (valid_is y _).mono ?_
    rintro e w1 ⟨rfl, hb1⟩
    have HB1 := Lib.hid ((HBl.out.alloc HBl.out.size _).trans (hb1.mono (by have := HBl.out.size; simp; omega)))
    clear hb1 q0 q1 q2
    cases hv : validB y
    · have HE := Lib.hid (rtput_bad_at hlt (by rw [← HY.out]; exact hv))
      go_wp2_with fail
      refine ⟨_, results_tmp rfl _ _ _, ?_⟩
      unfold TPut
      rw [HE.out]
      exact ⟨rfl, HB0.out.trans (HB1.out.mono (by omega))⟩
    · have HV := Lib.hid hv
      go_wp2_with fail
      go_roundw
      case rel => exact ⟨i + 1, rfl, by go_num, by omega, fun j h hj => by
       rcases Nat.lt_or_ge j i with h3 | h3
       · exact HALL.out j h h3
       · obtain rfl : j = i := by omega
         rw [← HY.out]; exact HV.out, HB1.out⟩
      case measure => simp [intOf] <;> omega
  · have hie : i = L.length := by omega
    subst hie
    have HE := Lib.hid (show L.all validB = true from List.all_eq_true.2 (fun x hx => by
     obtain ⟨j, hj, rfl⟩ := List.getElem_of_mem hx
     exact HALL.out j hj hj))
    obtain ⟨w1, hw1⟩ : ∃ w1, w1 = wr := ⟨_, rfl⟩
    rw [← hw1] at HBl HX1 hz1 ⊢
    clear hw1 HALL
    have HB01 := Lib.hid (HB0.out.trans (HBl.out.mono (by omega)))
    go_wp2_with fail
    refine (new_Sym none 0 [] w1 (RowRd.nil _ _ _) (by simp)).mono ?_
    rintro e w2 ⟨k, rfl, hk, sn, A, c, hS2, hA2, hB2⟩
    have HS2 := Lib.hid hS2
    have HA2 := Lib.hid hA2
    have HB2 := Lib.hid hB2
    clear hS2 hA2 hB2
    go_wp2_with fail
    go_loopw [4, 26] (fun e s W => ∃ (i : Nat) (sn : Bool) (A : Option Addr) (c : Nat), e = .int .i64 0 ∧ s = .int .i64 i ∧ i ≤ L.length ∧ SymSet W k sn A c (frsh l (L.take i)) ∧ AIn A (w1.heap.size ≤ ·) ∧ Below w1.heap.size w1 W ∧ ((frsh l (L.take i)).length : Int) ≤ T.room - l.length) (fun e s W => L.length - (intOf s).toNat)
    case atStart => exact ⟨0, sn, A, c, rfl, rfl, Nat.zero_le _, HS2.out, HA2.out, HB2.out, by simp only [List.take_zero, frsh_nil, List.length_nil]; omega⟩
    case round =>
     clear HS2 HA2 HB2
     obtain ⟨i, sn, A, c, rfl, rfl, hi, hSf, hAf, hBf, hroom⟩ := hrel
     have HSf := Lib.hid hSf
     have HAf := Lib.hid hAf
     have HBf := Lib.hid hBf
     have HXf := Lib.hid (HX1.out.new_ hBf)
     have HBw := Lib.hid (HB01.out.trans (hBf.mono (by have := HB01.out.size; omega)))
     have hzf := hBf.size
     have hz01 := HB01.out.size
     clear hSf hAf hBf
     by_cases hlt : i < L.length
     · obtain ⟨y, hy⟩ : ∃ y, y = L[i] := ⟨_, rfl⟩
       obtain ⟨g, off, rfl, hg, q0, q1, q2⟩ := sym_at (HL.out.new_ HBw.out) hlt
       rw [← hy] at q0 q1 q2
       have b1 : (0 : Int) ≤ (i : Int) := by omega
       have b2 : (i : Int) < (L.length : Int) := by omega
       have p0 : wr.cell? ⟨w.heap.size, 0, none⟩ = some (.pointer (some ⟨T.b, 0, none⟩)) := (HXf.out.cell 0).trans rfl
       have hxl := HXf.out.lt
       have HTK := Lib.hid (show L.take (i + 1) = L.take i ++ [y] by rw [List.take_add_one, List.getElem?_eq_getElem hlt, ← hy]; rfl)
       clear hy
       go_wp2_with fail
       obtain ⟨V, hV⟩ : ∃ V, V = wr.alloc (.cells #[.int .i64 y.kind, .string y.text, .int .i64 y.n] 23) := ⟨_, rfl⟩
       have hbV : Below wr.heap.size wr V := by rw [hV]; exact (Below.refl _ _).alloc (Nat.le_refl _) _
       have hYV : Blk V wr.heap.size 23 #[.int .i64 y.kind, .string y.text, .int .i64 y.n] := by rw [hV]; exact Blk.new _ _ _
       rw [← hV]
       clear hV
       have hbVw := HBw.out.trans (hbV.mono HBw.out.size)
       refine (tabhas_is T l y (HT.out.below hbVw) (HB.out.below hbVw) HS.out (by omega)).mono ?_
       rintro e V1 ⟨rfl, hb1⟩
       have hbV1 := hbVw.trans (hb1.mono hbVw.size)
       have hY1 := hYV.new_ hb1
       have hS1 := (HSf.out.new_ hbV).new_ hb1
       have hX1 := (HXf.out.new_ hbV).new_ hb1
       have hbf1 := (HBf.out.trans (hbV.mono HBf.out.size)).trans (hb1.mono (by have := hbV.size; omega))
       have HY1 := Lib.hid hY1
       have HS1 := Lib.hid hS1
       have HX1' := Lib.hid hX1
       have HBV1 := Lib.hid hbV1
       have HBF1 := Lib.hid hbf1
       have hzv1 := hbf1.size
       clear hbV hYV hbVw hb1 hbV1 hY1 hS1 hX1 hbf1 q0 q1 q2 p0
       have p0 : V1.cell? ⟨w.heap.size, 0, none⟩ = some (.pointer (some ⟨T.b, 0, none⟩)) := (HX1'.out.cell 0).trans rfl
       have y0 : V1.cell? ⟨wr.heap.size, 0, none⟩ = some (.int .i64 y.kind) := (HY1.out.cell 0).trans rfl
       have y1 : V1.cell? ⟨wr.heap.size, 1, none⟩ = some (.string y.text) := (HY1.out.cell 1).trans rfl
       have y2 : V1.cell? ⟨wr.heap.size, 2, none⟩ = some (.int .i64 y.n) := (HY1.out.cell 2).trans rfl
       have hyl1 := HY1.out.lt
       have hxl1 := HX1'.out.lt
       cases hh : has cmpSym l y
       · have HH := Lib.hid hh
         clear hh
         go_wp2_with fail
         refine (put_Sym k c sn A (frsh l (L.take i)) y V1 HS1.out (frsh_srt _ _) (by omega)).mono ?_
         rintro e V2 ⟨rfl, sn2, A2', c2', hS2, hF2, hM2⟩
         have hFF : put cmpSym (frsh l (L.take i)) y = frsh l (L.take (i + 1)) := by rw [HTK.out, frsh_snoc, if_neg (by rw [HH.out]; simp)]
         rw [hFF] at hS2
         have hb2 : Below w1.heap.size V1 V2 := hF2.below (by omega) (fun j hj hm => by
          rcases hm with rfl | ⟨_, a, ha, rfl⟩
          · omega
          · have := HAf.out a ha; omega)
         have HBF2 := Lib.hid (HBF1.out.trans hb2)
         have HA2 := Lib.hid (show AIn A2' (w1.heap.size ≤ ·) by
          rcases hM2 with ⟨_, rfl⟩ | ⟨_, g2, hg2, rfl⟩
          · exact HAf.out
          · intro a ha; cases ha; dsimp only; omega)
         have HS2 := Lib.hid hS2
         clear hS2 hF2 hM2 hb2 p0 y0 y1 y2 hFF
         have hbVV := HB01.out.trans (HBF2.out.mono hz01)
         have HBVV := Lib.hid hbVV
         have HTV := Lib.hid (HT.out.below hbVV)
         have hBV := HB.out.below hbVV
         have p0 : V2.cell? ⟨w.heap.size, 0, none⟩ = some (.pointer (some ⟨T.b, 0, none⟩)) := ((HX1.out.new_ HBF2.out).cell 0).trans rfl
         have s0 : V2.cell? ⟨T.b, 0, none⟩ = some (.int .i64 T.room) := (hBV.1.cell 0).trans rfl
         have s1 : V2.cell? ⟨T.b, 1, none⟩ = some (.pointer (some ⟨T.bs, 0, none⟩)) := (hBV.1.cell 1).trans rfl
         have hxV := (HX1.out.new_ HBF2.out).lt
         have hbV := hBV.1.lt
         have v1 : IntKind.i64.wrap (T.room - (l.length : Int)) = T.room - (l.length : Int) := IntWalk.i64_in _ (by omega)
         clear hbVV hBV
         by_cases hfull : T.room - (l.length : Int) < ((frsh l (L.take (i + 1))).length : Int)
         · have t1 : decide (T.room - (l.length : Int) < ((frsh l (L.take (i + 1))).length : Int)) = true := by simpa using hfull
           have HFU := Lib.hid hfull
           clear hfull
           go_wp2_with fail
           refine wp_region_E (fun w9 => Below V2.heap.size V2 w9) [(0, 0), (2, 1), (3, 0), (4, 0), (5, 1), (6, 1), (7, 0), (8, 0), (9, 1), (1, 2), (10, 2), (11, 0), (12, 0)] (by kernel_rfl) (by kernel_rfl) (fun KK hKK => ?_)
           simp only [beside, List.filterMap_cons, List.filterMap_nil, List.getElem?_toArray, List.getElem?_cons_zero, List.getElem?_cons_succ, Option.map_some]
           repeat ((first | (refine wpX_w ?_ (Or.inl ⟨by rfl, fun w9 => ?_⟩) ?_; rotate_left 1; go_simp; with_reducible rfl) | (refine wpX_l ?_ (((Below.refl _ _).drew)) (Or.inl ⟨by rfl, fun w9 hw9 => ?_⟩) ?_; rotate_left 1; obtain ⟨hc9, hf9⟩ := bcell hw9; go_simp; with_reducible rfl) | refine wpX_w undef (Or.inr ⟨by rfl, rfl⟩) ?_ | refine wpX_l undef (((Below.refl _ _).drew)) (Or.inr ⟨by rfl, rfl⟩) ?_); go_frame)
           refine wpX_es (fun K9 hK9 => ?_)
           go_simp
           refine (len_Sym k _ _ _ (frsh l (L.take (i + 1))) _ (HS2.out.new_ ((Below.refl _ _).drew))).mono ?_
           rintro e wx ⟨rfl, rfl⟩
           refine hK9 _ _ ((Below.refl _ _).drew) ?_
           clear hK9 K9
           refine wpX_es (fun K9 hK9 => ?_)
           go_simp
           refine (len_Sym T.bs _ _ _ l _ ((HTV.out.below ((Below.refl _ _).drew)).syms.at_ T.bs l HS.out)).mono ?_
           rintro e wx ⟨rfl, rfl⟩
           refine hK9 _ _ ((Below.refl _ _).drew) ?_
           clear hK9 K9
           repeat ((first | (refine wpX_w ?_ (Or.inl ⟨by rfl, fun w9 => ?_⟩) ?_; rotate_left 1; go_simp; with_reducible rfl) | (refine wpX_l ?_ (((Below.refl _ _).drew)) (Or.inl ⟨by rfl, fun w9 hw9 => ?_⟩) ?_; rotate_left 1; obtain ⟨hc9, hf9⟩ := bcell hw9; go_simp; with_reducible rfl) | refine wpX_w undef (Or.inr ⟨by rfl, rfl⟩) ?_ | refine wpX_l undef (((Below.refl _ _).drew)) (Or.inr ⟨by rfl, rfl⟩) ?_); go_frame)
           refine wpX_nil ?_
           simp only [OnlyN_normal]
           refine hKK _ _ ?_
           clear hKK KK
           go_wp2_with fail
           refine ⟨_, results_tmp rfl _ _ _, ?_⟩
           unfold TPut
           have h1 := length_frsh HSO.out L
           have h2 := length_frsh_take l L (i + 1)
           have h3 := HFU.out
           rw [HE.out, if_pos rfl, if_pos (by omega)]
           exact ⟨rfl, HBVV.out.drew⟩
         · have t1 : decide (T.room - (l.length : Int) < ((frsh l (L.take (i + 1))).length : Int)) = false := by simpa using hfull
           have HFU := Lib.hid hfull
           clear hfull
           go_wp2_with fail
           refine wp_region_E (fun w9 => Below V2.heap.size V2 w9) [(0, 0), (2, 1), (3, 0), (4, 0), (5, 1), (6, 1), (7, 0), (8, 0), (9, 1), (1, 2), (10, 2), (11, 0), (12, 0)] (by kernel_rfl) (by kernel_rfl) (fun KK hKK => ?_)
           simp only [beside, List.filterMap_cons, List.filterMap_nil, List.getElem?_toArray, List.getElem?_cons_zero, List.getElem?_cons_succ, Option.map_some]
           repeat ((first | (refine wpX_w ?_ (Or.inl ⟨by rfl, fun w9 => ?_⟩) ?_; rotate_left 1; go_simp; with_reducible rfl) | (refine wpX_l ?_ (((Below.refl _ _).drew)) (Or.inl ⟨by rfl, fun w9 hw9 => ?_⟩) ?_; rotate_left 1; obtain ⟨hc9, hf9⟩ := bcell hw9; go_simp; with_reducible rfl) | refine wpX_w undef (Or.inr ⟨by rfl, rfl⟩) ?_ | refine wpX_l undef (((Below.refl _ _).drew)) (Or.inr ⟨by rfl, rfl⟩) ?_); go_frame)
           refine wpX_es (fun K9 hK9 => ?_)
           go_simp
           refine (len_Sym k _ _ _ (frsh l (L.take (i + 1))) _ (HS2.out.new_ ((Below.refl _ _).drew))).mono ?_
           rintro e wx ⟨rfl, rfl⟩
           refine hK9 _ _ ((Below.refl _ _).drew) ?_
           clear hK9 K9
           refine wpX_es (fun K9 hK9 => ?_)
           go_simp
           refine (len_Sym T.bs _ _ _ l _ ((HTV.out.below ((Below.refl _ _).drew)).syms.at_ T.bs l HS.out)).mono ?_
           rintro e wx ⟨rfl, rfl⟩
           refine hK9 _ _ ((Below.refl _ _).drew) ?_
           clear hK9 K9
           repeat ((first | (refine wpX_w ?_ (Or.inl ⟨by rfl, fun w9 => ?_⟩) ?_; rotate_left 1; go_simp; with_reducible rfl) | (refine wpX_l ?_ (((Below.refl _ _).drew)) (Or.inl ⟨by rfl, fun w9 hw9 => ?_⟩) ?_; rotate_left 1; obtain ⟨hc9, hf9⟩ := bcell hw9; go_simp; with_reducible rfl) | refine wpX_w undef (Or.inr ⟨by rfl, rfl⟩) ?_ | refine wpX_l undef (((Below.refl _ _).drew)) (Or.inr ⟨by rfl, rfl⟩) ?_); go_frame)
           refine wpX_nil ?_
           simp only [OnlyN_normal]
           refine hKK _ _ ?_
           clear hKK KK
           go_wp2_with fail
           go_roundw
           case rel => exact ⟨i + 1, sn2, A2', c2', rfl, by go_num, by omega, HS2.out.new_ ((Below.refl _ _).drew), HA2.out, HBF2.out.drew, by have := HFU.out; omega⟩
           case measure => simp [intOf] <;> omega
       · have HH := Lib.hid hh
         clear hh p0 y0 y1 y2
         have HFF := Lib.hid (show frsh l (L.take i) = frsh l (L.take (i + 1)) by rw [HTK.out, frsh_snoc, if_pos HH.out])
         have HS1' := Lib.hid (show SymSet V1 k sn A c (frsh l (L.take (i + 1))) by rw [← HFF.out]; exact HS1.out)
         have p0 : V1.cell? ⟨w.heap.size, 0, none⟩ = some (.pointer (some ⟨T.b, 0, none⟩)) := (HX1'.out.cell 0).trans rfl
         have hbVV := HB01.out.trans (HBF1.out.mono hz01)
         have HBVV := Lib.hid hbVV
         have HTV := Lib.hid (HT.out.below hbVV)
         have hBV := HB.out.below hbVV
         have p0 : V1.cell? ⟨w.heap.size, 0, none⟩ = some (.pointer (some ⟨T.b, 0, none⟩)) := ((HX1.out.new_ HBF1.out).cell 0).trans rfl
         have s0 : V1.cell? ⟨T.b, 0, none⟩ = some (.int .i64 T.room) := (hBV.1.cell 0).trans rfl
         have s1 : V1.cell? ⟨T.b, 1, none⟩ = some (.pointer (some ⟨T.bs, 0, none⟩)) := (hBV.1.cell 1).trans rfl
         have hxV := (HX1.out.new_ HBF1.out).lt
         have hbV := hBV.1.lt
         have v1 : IntKind.i64.wrap (T.room - (l.length : Int)) = T.room - (l.length : Int) := IntWalk.i64_in _ (by omega)
         clear hbVV hBV
         by_cases hfull : T.room - (l.length : Int) < ((frsh l (L.take (i + 1))).length : Int)
         · have t1 : decide (T.room - (l.length : Int) < ((frsh l (L.take (i + 1))).length : Int)) = true := by simpa using hfull
           have HFU := Lib.hid hfull
           clear hfull
           go_wp2_with fail
           refine wp_region_E (fun w9 => Below V1.heap.size V1 w9) [(0, 0), (2, 1), (3, 0), (4, 0), (5, 1), (6, 1), (7, 0), (8, 0), (9, 1), (1, 2), (10, 2), (11, 0), (12, 0)] (by kernel_rfl) (by kernel_rfl) (fun KK hKK => ?_)
           simp only [beside, List.filterMap_cons, List.filterMap_nil, List.getElem?_toArray, List.getElem?_cons_zero, List.getElem?_cons_succ, Option.map_some]
           repeat ((first | (refine wpX_w ?_ (Or.inl ⟨by rfl, fun w9 => ?_⟩) ?_; rotate_left 1; go_simp; with_reducible rfl) | (refine wpX_l ?_ (((Below.refl _ _).drew)) (Or.inl ⟨by rfl, fun w9 hw9 => ?_⟩) ?_; rotate_left 1; obtain ⟨hc9, hf9⟩ := bcell hw9; go_simp; with_reducible rfl) | refine wpX_w undef (Or.inr ⟨by rfl, rfl⟩) ?_ | refine wpX_l undef (((Below.refl _ _).drew)) (Or.inr ⟨by rfl, rfl⟩) ?_); go_frame)
           refine wpX_es (fun K9 hK9 => ?_)
           go_simp
           refine (len_Sym k _ _ _ (frsh l (L.take (i + 1))) _ (HS1'.out.new_ ((Below.refl _ _).drew))).mono ?_
           rintro e wx ⟨rfl, rfl⟩
           refine hK9 _ _ ((Below.refl _ _).drew) ?_
           clear hK9 K9
           refine wpX_es (fun K9 hK9 => ?_)
           go_simp
           refine (len_Sym T.bs _ _ _ l _ ((HTV.out.below ((Below.refl _ _).drew)).syms.at_ T.bs l HS.out)).mono ?_
           rintro e wx ⟨rfl, rfl⟩
           refine hK9 _ _ ((Below.refl _ _).drew) ?_
           clear hK9 K9
           repeat ((first | (refine wpX_w ?_ (Or.inl ⟨by rfl, fun w9 => ?_⟩) ?_; rotate_left 1; go_simp; with_reducible rfl) | (refine wpX_l ?_ (((Below.refl _ _).drew)) (Or.inl ⟨by rfl, fun w9 hw9 => ?_⟩) ?_; rotate_left 1; obtain ⟨hc9, hf9⟩ := bcell hw9; go_simp; with_reducible rfl) | refine wpX_w undef (Or.inr ⟨by rfl, rfl⟩) ?_ | refine wpX_l undef (((Below.refl _ _).drew)) (Or.inr ⟨by rfl, rfl⟩) ?_); go_frame)
           refine wpX_nil ?_
           simp only [OnlyN_normal]
           refine hKK _ _ ?_
           clear hKK KK
           go_wp2_with fail
           refine ⟨_, results_tmp rfl _ _ _, ?_⟩
           unfold TPut
           have h1 := length_frsh HSO.out L
           have h2 := length_frsh_take l L (i + 1)
           have h3 := HFU.out
           rw [HE.out, if_pos rfl, if_pos (by omega)]
           exact ⟨rfl, HBVV.out.drew⟩
         · have t1 : decide (T.room - (l.length : Int) < ((frsh l (L.take (i + 1))).length : Int)) = false := by simpa using hfull
           have HFU := Lib.hid hfull
           clear hfull
           go_wp2_with fail
           refine wp_region_E (fun w9 => Below V1.heap.size V1 w9) [(0, 0), (2, 1), (3, 0), (4, 0), (5, 1), (6, 1), (7, 0), (8, 0), (9, 1), (1, 2), (10, 2), (11, 0), (12, 0)] (by kernel_rfl) (by kernel_rfl) (fun KK hKK => ?_)
           simp only [beside, List.filterMap_cons, List.filterMap_nil, List.getElem?_toArray, List.getElem?_cons_zero, List.getElem?_cons_succ, Option.map_some]
           repeat ((first | (refine wpX_w ?_ (Or.inl ⟨by rfl, fun w9 => ?_⟩) ?_; rotate_left 1; go_simp; with_reducible rfl) | (refine wpX_l ?_ (((Below.refl _ _).drew)) (Or.inl ⟨by rfl, fun w9 hw9 => ?_⟩) ?_; rotate_left 1; obtain ⟨hc9, hf9⟩ := bcell hw9; go_simp; with_reducible rfl) | refine wpX_w undef (Or.inr ⟨by rfl, rfl⟩) ?_ | refine wpX_l undef (((Below.refl _ _).drew)) (Or.inr ⟨by rfl, rfl⟩) ?_); go_frame)
           refine wpX_es (fun K9 hK9 => ?_)
           go_simp
           refine (len_Sym k _ _ _ (frsh l (L.take (i + 1))) _ (HS1'.out.new_ ((Below.refl _ _).drew))).mono ?_
           rintro e wx ⟨rfl, rfl⟩
           refine hK9 _ _ ((Below.refl _ _).drew) ?_
           clear hK9 K9
           refine wpX_es (fun K9 hK9 => ?_)
           go_simp
           refine (len_Sym T.bs _ _ _ l _ ((HTV.out.below ((Below.refl _ _).drew)).syms.at_ T.bs l HS.out)).mono ?_
           rintro e wx ⟨rfl, rfl⟩
           refine hK9 _ _ ((Below.refl _ _).drew) ?_
           clear hK9 K9
           repeat ((first | (refine wpX_w ?_ (Or.inl ⟨by rfl, fun w9 => ?_⟩) ?_; rotate_left 1; go_simp; with_reducible rfl) | (refine wpX_l ?_ (((Below.refl _ _).drew)) (Or.inl ⟨by rfl, fun w9 hw9 => ?_⟩) ?_; rotate_left 1; obtain ⟨hc9, hf9⟩ := bcell hw9; go_simp; with_reducible rfl) | refine wpX_w undef (Or.inr ⟨by rfl, rfl⟩) ?_ | refine wpX_l undef (((Below.refl _ _).drew)) (Or.inr ⟨by rfl, rfl⟩) ?_); go_frame)
           refine wpX_nil ?_
           simp only [OnlyN_normal]
           refine hKK _ _ ?_
           clear hKK KK
           go_wp2_with fail
           go_roundw
           case rel => exact ⟨i + 1, sn, A, c, rfl, by go_num, by omega, HS1'.out.new_ ((Below.refl _ _).drew), HAf.out, HBF1.out.drew, by have := HFU.out; omega⟩
           case measure => simp [intOf] <;> omega
     · have hie : i = L.length := by omega
       subst hie
       obtain ⟨w4, hw4⟩ : ∃ w4, w4 = wr := ⟨_, rfl⟩
       rw [← hw4] at HSf HBf HXf HBw hzf ⊢
       clear hw4
       rw [List.take_length] at HSf hroom
       go_wp2_with fail
       refine (mkall_Sym k w4).mono ?_
       rintro e w5 ⟨rfl, hb5, hbox5⟩
       have hz5 := hb5.size
       have hbw5 := HBw.out.trans (hb5.mono HBw.out.size)
       have hS5 := HSf.out.new_ hb5
       have hX5 := HXf.out.new_ hb5
       have hSQ := seq_all_Sym w4.heap.size k _ _ _ _ w5 hbox5 hS5
       have HSQ := Lib.hid hSQ
       have HB5 := Lib.hid hbw5
       have HS5 := Lib.hid hS5
       have HX5 := Lib.hid hX5
       have hkl := hS5.lt
       have HA5 := Lib.hid hS5.row_lt
       clear hSQ hbw5 hS5 hX5 hb5 hbox5 HSf HBf HXf HBw
       have hof := Off.new_ HT.out.syms (show w.heap.size ≤ k by omega)
       have hof2 := Off.new_ HT.out.pages (show w.heap.size ≤ k by omega)
       have hXl := HX5.out.lt
       have HOF := Lib.hid (⟨hof, hof2⟩ : Off k S σ ∧ Off k S2 σ2)
       clear hof hof2
       go_wp2_with fail
       obtain ⟨D3, hD3⟩ : ∃ D3 : Nat → Prop, D3 = fun j => D j ∨ (w.heap.size ≤ j ∧ j < w5.heap.size) := ⟨_, rfl⟩
       obtain ⟨I, hI⟩ : ∃ I : List Sym → World → Prop, I = fun p W => (∃ σ' σ2', Tabs D3 W (upd S T.bs (some (puts cmpSym l p))) σ' (upd S2 T.bp (some (p.foldl tputM m))) σ2' ∧ ∀ j, j < w.heap.size → Off j S σ → Off j S2 σ2 → Off j (upd S T.bs (some (puts cmpSym l p))) σ' ∧ Off j (upd S2 T.bp (some (p.foldl tputM m))) σ2') ∧ KB w W ∧ Fr (fun j => ¬ D j) w W ∧ W.cell? ⟨w.heap.size, 0, none⟩ = some (.pointer (some ⟨T.b, 0, none⟩)) := ⟨_, rfl⟩
       have hws : w.heap.size ≤ w5.heap.size := HB5.out.size
       refine (wpIn_wide (n := 0)).1 ?_
       refine wpIn_range (w := w5) (by rfl) HSQ.out.enter HSQ.out.iter (fun x => by rfl) HSQ.out.trans HSQ.out.keep (fun W W1 h => keepsFrom_of_fr (HSQ.out.mods W W1 h)) I (fun _ _ _ => False) ?_ (fun _ _ _ _ h => h.elim) ?_ ?_ ?_ ?_
       · subst hI
         rintro p X Y ⟨⟨σ', σ2', g1, g2⟩, g3, g4, g5⟩ hp
         exact ⟨⟨σ', σ2', g1.priv hp, g2⟩, g3.priv hp, g4.priv hp hws, cell_priv g5 hp⟩
       · intro W W1 hW hs
         subst hI
         have hbW := HB5.out.trans (hW.mono hws)
         have g1 := HT.out.protect hbW
         have g2 := (g1.off HOF.out.1 HOF.out.2 hs.fr).weaken (D' := D3) (fun j hj => by
          rw [hD3] at hj
          have := hW.size
          rcases hj with hj | hj
          · exact .inl hj
          · exact .inr ⟨hj.1, by omega⟩)
         refine ⟨⟨σ, σ2, ?_, fun j hj h1 h2 => ?_⟩, ?_, ?_, ?_⟩
         · simp only [puts, List.foldl_nil]
           rw [upd_id _ _ _ HS.out, upd_id _ _ _ HP.out]; exact g2
         · simp only [puts, List.foldl_nil]
           rw [upd_id _ _ _ HS.out, upd_id _ _ _ HP.out]; exact ⟨h1, h2⟩
         · exact (KB.of_below hbW).trans (KB.of_sym (HS5.out.new_ hW) (hs.fr.mono (fun j _ hj => .inl hj)))
         · exact (Fr.of_new hbW).trans (hs.fr.mono (fun j _ hj hd => by have := HT.out.syms.low j hd; omega))
         · exact (hs.fr.cell (p := ⟨w.heap.size, 0, none⟩) (Nat.lt_of_lt_of_le hXl hW.size) (fun e => by dsimp only at e; omega)).trans (((HX5.out.new_ hW).cell 0).trans rfl)
       · intro lo pre x post W hx hlo hIW
         have hx' : (frsh l L).length = pre.length + (post.length + 1) := by rw [hx]; simp
         have hxv : validB x = true := by
          have h1 : x ∈ frsh l L := by rw [hx]; simp
          exact List.all_eq_true.1 HE.out x (mem_frsh.1 h1).1
         have HXV := Lib.hid hxv
         clear hx hxv
         rw [hI] at hIW
         obtain ⟨⟨σ', σ2', g1, g2⟩, g3, g4, g5⟩ := hIW
         have HI := Lib.hid hI
         have G1 := Lib.hid g1
         have G2 := Lib.hid g2
         have G3 := Lib.hid g3
         have G4 := Lib.hid g4
         have G5 := Lib.hid g5
         have HD3 := Lib.hid hD3
         clear g1 g2 g3 g4 g5 hI hD3
         simp only [encSym, Array.zip]
         gi_wp2_with fail
         refine ⟨KeepsFrom.alloc_ (keepsFrom_same _ _) _, fun W3 hp3 hz3 _ => ?_⟩
         have hx3 : Blk W3 W.heap.size 23 #[.int .i64 x.kind, .string x.text, .int .i64 x.n] := (Blk.new W 23 #[.int .i64 x.kind, .string x.text, .int .i64 x.n]).priv hp3
         have x0 : W3.cell? ⟨W.heap.size, 0, none⟩ = some (.int .i64 x.kind) := (hx3.cell 0).trans rfl
         have x1 : W3.cell? ⟨W.heap.size, 1, none⟩ = some (.string x.text) := (hx3.cell 1).trans rfl
         have x2 : W3.cell? ⟨W.heap.size, 2, none⟩ = some (.int .i64 x.n) := (hx3.cell 2).trans rfl
         have hba : Below W.heap.size W (W.alloc (.cells #[.int .i64 x.kind, .string x.text, .int .i64 x.n] 23)) := (Below.refl _ _).alloc (Nat.le_refl _) _
         have s3 := (G1.out.below hba).priv hp3
         have b3 := ((HB.out.kb G3.out).below hba).priv hp3
         have c3 : W3.cell? ⟨w.heap.size, 0, none⟩ = some (.pointer (some ⟨T.b, 0, none⟩)) := cell_priv ((hba.cell (World.block_lt_of_cell? _ _ G5.out)).trans G5.out) hp3
         have hcl3 := World.block_lt_of_cell? _ _ c3
         have hxl3 := hx3.lt
         have S3 := Lib.hid s3
         have B3 := Lib.hid b3
         have C3 := Lib.hid c3
         have P3 := Lib.hid hp3
         clear s3 b3 hx3 hp3 hz3 hba
         gi_wp2_with fail
         refine ⟨trivial, rfl, ?_⟩
         have hlen : (((puts cmpSym l pre).length : Nat) : Int) ≤ 1000000 := by
          have := length_puts_le tc_sym pre HSO.out
          omega
         have hlen2 : (((pre.foldl tputM m).length : Nat) : Int) ≤ 1000000 := by
          have := length_tputMs pre m
          omega
         refine (callsIn_wide.2 (tabput T (puts cmpSym l pre) (pre.foldl tputM m) x S3.out.quiet B3.out (upd_same _ _ _) (upd_same _ _ _) HXV.out hlen hlen2)).mono ?_
         rintro e W4 ⟨rfl, ⟨σ4, σ5, s4, ho4⟩, hK4, hF4⟩
         rw [upd_upd, upd_upd] at s4 ho4
         have k4 := keeps_quiet hF4 w5.heap.size
         have hF4' : Fr (fun j => ¬ D3 j) W3 W4 := hF4.mono (fun j _ hj hd => hj (.inl hd))
         have hDp : D3 w.heap.size := by rw [HD3.out]; exact .inr ⟨Nat.le_refl _, hXl⟩
         have c4 : W4.cell? ⟨w.heap.size, 0, none⟩ = some (.pointer (some ⟨T.b, 0, none⟩)) := (hF4'.cell hcl3 (fun h => h hDp)).trans C3.out
         have S4 := Lib.hid (s4.weaken (D' := D3) (fun j hj => .inl hj))
         have O4 := Lib.hid ho4
         have C4 := Lib.hid c4
         have K4 := Lib.hid k4
         have F4 := Lib.hid hF4'
         have KB4 := Lib.hid hK4
         have hz4 := hF4.size
         clear s4 ho4 c4 k4 hF4 hF4' hK4 c3 hDp
         gi_wp2_with fail
         have hI := HI.out
         subst hI
         have hpr : Fr (fun j => ¬ D j) W W3 := ((Fr.refl _ W).alloc _).into (Fr.of_priv P3.out) (fun j hj => .inl (fun hd => by have := HT.out.syms.low j hd; omega))
         have hws4 : w.heap.size ≤ W3.heap.size := by omega
         refine ⟨K4.out, ⟨Nat.le_trans hpr.size hz4, fun q hq hlt => ?_⟩, ⟨σ4, σ5, ?_, ?_⟩, ?_, ?_, C4.out⟩
         · have e1 := F4.out.block q.block (Nat.lt_of_lt_of_le hlt hpr.size) (fun h => h (by rw [HD3.out]; exact .inr ⟨by have := HAf.out q hq; omega, HA5.out q hq⟩))
           have e2 := P3.out.block q.block (by simp; omega) (.inl (HA5.out q hq))
           exact e1.trans (e2.trans (Below.heap_alloc W _ _ hlt))
         · rw [puts_snoc, List.foldl_append]; exact S4.out
         · intro j hj h1 h2
           rw [puts_snoc, List.foldl_append]
           obtain ⟨h3, h4⟩ := G2.out j hj h1 h2
           exact O4.out j (by omega) h3 h4
         · exact ((G3.out.trans (KB.of_below ((Below.refl _ _).alloc (Nat.le_refl _) _))).priv P3.out).trans KB4.out
         · exact (G4.out.trans hpr).trans (F4.out.mono (fun j _ hj hd => hj (by rw [HD3.out]; exact .inl hd)))
       · intro Dd W hDd hIW hK
         subst hI
         obtain ⟨⟨σ', σ2', g1, g2⟩, g3, g4, g5⟩ := hIW
         have G1 := Lib.hid g1
         have G2 := Lib.hid g2
         have G3 := Lib.hid g3
         have G4 := Lib.hid g4
         have HK := Lib.hid hK
         have HD3 := Lib.hid hD3
         clear g1 g2 g3 g4 g5 hK hD3
         go_wp2_with fail
         refine ⟨by simp, .inl ⟨_, _, rfl, run_takeDeferred HK.out, ?_⟩⟩
         have hpv : Priv w5.heap.size W (W.putObj Dd (.deferred none)) := (Priv.refl _ _).putObj hDd HK.out rfl _
         refine ⟨_, results_tmp rfl _ _ _, ?_⟩
         unfold TPut
         have h1 := length_frsh HSO.out L
         have h2 := G1.out
         have h3 := G2.out
         rw [puts_frsh HSO.out] at h2 h3
         rw [HE.out, if_pos rfl, if_neg (by omega)]
         exact ⟨rfl, ⟨σ', σ2', (h2.priv hpv).weaken (fun j hj => by rw [HD3.out]; exact .inl hj), h3⟩, G3.out.priv hpv, G4.out.priv hpv hws⟩
       · intro Dd c pre post W _ _ h
         exact h.elim
end
end Go.Proofs.YtpndmjabjjbefaaGreat
namespace Go.Proofs.YtpndmjabjjbefaaGreat
open Go.RowKit Go.Shelf
section
variable {D : Nat → Prop} {w : World} {S : Nat → Option (List Sym)} {σ : Nat → St} {S2 : Nat → Option (List Page)} {σ2 : Nat → St}
theorem Off.cloned {α : Type} {S : Nat → Option (List α)} {σ σ' : Nat → St} {q b k : Nat} {l : List α} (h : Off q S σ) (hb : S b = some l) (e1 : ∀ j, j ≠ k → j ≠ b → σ' j = σ j) (e2 : (σ' b).A = (σ b).A) (e3 : (σ' k).A = (σ b).A) (hqk : q ≠ k) : Off q (upd S k (some l)) σ' := by
 intro b' m hm
 by_cases e : b' = k
 · subst e
   rw [e3]
   exact ⟨Ne.symm hqk, (h b l hb).2⟩
 · rw [upd_ne _ _ e] at hm
   by_cases e' : b' = b
   · subst e'
     rw [e2]
     exact h b' m hm
   · rw [e1 _ e e']
     exact h b' m hm
def MapCloned (D : Nat → Prop) (w : World) (S : Nat → Option (List Sym)) (σ : Nat → St) (S2 : Nat → Option (List Page)) (σ2 : Nat → St) (m : List Page) (e : Ending) (w' : World) : Prop :=
 ∃ bm bp, e = .returned (.pointer (some ⟨bm, 0, none⟩)) ∧ Blk w' bm 137 #[.pointer (some ⟨bp, 0, none⟩)] ∧ (∃ σ2', Tabs D w' S σ (upd S2 bp (some m)) σ2' ∧ ∀ k, k < w.heap.size → Off k S2 σ2 → Off k (upd S2 bp (some m)) σ2') ∧ KB w w' ∧ Fr (fun k => ¬ D k) w w' ∧ w.heap.size ≤ bm ∧ w.heap.size ≤ bp
set_option maxRecDepth 100000 in
set_option maxHeartbeats 2000000 in
theorem mapclone_is (bm bp : Nat) (m : List Page) (hT : Tabs D w S σ S2 σ2) (hM : Blk w bm 137 #[.pointer (some ⟨bp, 0, none⟩)]) (hb : S2 bp = some m) :
 Calls Tryz.prog 76 #[.pointer (some ⟨bm, 0, none⟩)] w (MapCloned D w S σ S2 σ2 m) := by
 have s0 := (hM.cell 0).trans rfl
 have hml := hM.lt
 have HT := Lib.hid hT
 have HS := Lib.hid hb
 clear hT hM hb
 go_enter Tryz.func76, Tryz.ntmps76
 go_wp2_with fail
 refine (sClone_Page HT.out.pages HS.out).mono ?_
 rintro e w1 ⟨k, rfl, hk, _, σ2', h1, g1, _, g2, _, g3, hF, hFb⟩
 have HOF := Lib.hid (fun q (hq : q < w.heap.size) (ho : Off q S2 σ2) => Off.cloned (k := k) ho HS.out g1 g2 g3 (by omega))
 clear g1 g2 g3
 have h2 := HT.out.syms.other (HT.out.pages.at_ bp m HS.out) (by decide) (by decide) (by decide) (by decide) (hFb.mono (M' := SetMod bp (σ2 bp).sn (σ2 bp).A) (fun j _ hj => .inl hj))
 have h3 := KB.of_page (HT.out.pages.at_ bp m HS.out) (hFb.mono (M' := SetMod bp (σ2 bp).sn (σ2 bp).A) (fun j _ hj => .inl hj))
 have H1 := Lib.hid (show Tabs D w1 S σ (upd S2 k (some m)) σ2' from ⟨h2, h1⟩)
 have H3 := Lib.hid h3
 have HF := Lib.hid hF
 clear h1 h2 h3 hF hFb
 go_wp2_with fail
 go_ret
 have hn : Below w1.heap.size w1 (w1.alloc (.cells #[.pointer (some ⟨k, 0, none⟩)] 137)) := (Below.refl _ _).alloc (Nat.le_refl _) _
 exact ⟨w1.heap.size, k, rfl, Blk.new _ _ _, ⟨σ2', H1.out.below hn, HOF.out⟩, H3.out.trans (KB.of_below hn), HF.out.trans (Fr.of_new hn), HF.out.size, hk⟩
def TabCloned (D : Nat → Prop) (w : World) (S : Nat → Option (List Sym)) (σ : Nat → St) (S2 : Nat → Option (List Page)) (σ2 : Nat → St) (T : TB) (l : List Sym) (m : List Page) (e : Ending) (w' : World) : Prop :=
 ∃ T' : TB, e = .returned (.pointer (some ⟨T'.b, 0, none⟩)) ∧ T'.room = T.room ∧ TabBlk w' T' ∧ (∃ σ' σ2', Tabs D w' (upd S T'.bs (some l)) σ' (upd S2 T'.bp (some m)) σ2' ∧ ∀ k, k < w.heap.size → Off k S σ → Off k S2 σ2 → Off k (upd S T'.bs (some l)) σ' ∧ Off k (upd S2 T'.bp (some m)) σ2') ∧ KB w w' ∧ Fr (fun k => ¬ D k) w w' ∧ w.heap.size ≤ T'.bs ∧ w.heap.size ≤ T'.bp
set_option maxRecDepth 100000 in
set_option maxHeartbeats 4000000 in
theorem tabclone_is (T : TB) (l : List Sym) (m : List Page) (hT : Tabs D w S σ S2 σ2) (hB : TabBlk w T) (hb : S T.bs = some l) (hb2 : S2 T.bp = some m) :
 Calls Tryz.prog 54 #[.pointer (some ⟨T.b, 0, none⟩)] w (TabCloned D w S σ S2 σ2 T l m) := by
 have HT := Lib.hid hT
 have HB := Lib.hid hB
 have HS := Lib.hid hb
 have HP := Lib.hid hb2
 clear hT hB hb hb2
 go_enter Tryz.func54, Tryz.ntmps54
 go_wp2_with fail
 refine wp_region_E (fun w9 => TabBlk w9 T) [(0, 0), (1, 0), (2, 0), (3, 1), (4, 0), (5, 0), (6, 0), (7, 1), (9, 0), (10, 0), (11, 0), (12, 1), (8, 2), (13, 2), (14, 0), (15, 2), (16, 0)] (by kernel_rfl) (by kernel_rfl) (fun KK hKK => ?_)
 simp only [beside, List.filterMap_cons, List.filterMap_nil, List.getElem?_toArray, List.getElem?_cons_zero, List.getElem?_cons_succ, Option.map_some]
 repeat ((first | (refine wpX_w ?_ (Or.inl ⟨by rfl, fun w9 => ?_⟩) ?_; rotate_left 1; go_simp; with_reducible rfl) | (refine wpX_l ?_ ((HB.out.below ((Below.refl _ _).drew))) (Or.inl ⟨by rfl, fun w9 hw9 => ?_⟩) ?_; rotate_left 1; have l0 := (hw9.1.cell 0).trans rfl; have l1 := (hw9.1.cell 1).trans rfl; have l2 := (hw9.1.cell 2).trans rfl; have lb := hw9.1.lt; go_simp; with_reducible rfl) | refine wpX_w undef (Or.inr ⟨by rfl, rfl⟩) ?_ | refine wpX_l undef ((HB.out.below ((Below.refl _ _).drew))) (Or.inr ⟨by rfl, rfl⟩) ?_); go_frame)
 refine wpX_es (fun K9 hK9 => ?_)
 go_simp
 refine (sClone_Sym (HT.out.below ((Below.refl _ _).drew)).syms HS.out).mono ?_
 rintro e w1 ⟨k, rfl, hk, _, σ1, h1, g1, _, g2, _, g3, hF, hFb⟩
 have HOF1 := Lib.hid (fun q (hq : q < w.heap.size) (ho : Off q S σ) => Off.cloned (k := k) ho HS.out g1 g2 g3 (by have : w.heap.size ≤ k := (by simpa using hk); omega))
 clear g1 g2 g3
 have hT0 := HT.out.below ((Below.refl w.heap.size w).drew)
 have h2 := hT0.pages.other (hT0.syms.at_ T.bs l HS.out) (by decide) (by decide) (by decide) (by decide) (hFb.mono (M' := SetMod T.bs (σ T.bs).sn (σ T.bs).A) (fun j _ hj => .inl hj))
 have h3 := KB.of_sym (hT0.syms.at_ T.bs l HS.out) (hFb.mono (M' := SetMod T.bs (σ T.bs).sn (σ T.bs).A) (fun j _ hj => .inl hj))
 have H1 := Lib.hid (show Tabs D w1 (upd S k (some l)) σ1 S2 σ2 from ⟨h1, h2⟩)
 have HK1 := Lib.hid ((KB.of_below ((Below.refl w.heap.size w).drew)).trans h3)
 have HF1 := Lib.hid ((Fr.refl _ w).drew.trans hF)
 have hk : w.heap.size ≤ k := (by simpa using hk)
 have HB1 := Lib.hid (HB.out.kb HK1.out)
 clear hT0 h1 h2 h3 hF hFb
 refine hK9 _ _ HB1.out ?_
 clear hK9 K9
 refine wpX_es (fun K9 hK9 => ?_)
 go_simp
 refine (mapclone_is T.bm T.bp m H1.out HB1.out.2 HP.out).mono ?_
 rintro e w2 ⟨bm, bp, rfl, hM, ⟨σ3, h2, hof⟩, hK, hF, hbm, hbp⟩
 have HOF2 := Lib.hid hof
 clear hof
 have H2 := Lib.hid h2
 have HM := Lib.hid hM
 have HK2 := Lib.hid (HK1.out.trans hK)
 have HF2 := Lib.hid (HF1.out.trans hF)
 have HB2 := Lib.hid (HB1.out.kb hK)
 clear h2 hM hK hF
 refine hK9 _ _ HB2.out ?_
 clear hK9 K9
 repeat ((first | (refine wpX_w ?_ (Or.inl ⟨by rfl, fun w9 => ?_⟩) ?_; rotate_left 1; go_simp; with_reducible rfl) | (refine wpX_l ?_ (HB2.out) (Or.inl ⟨by rfl, fun w9 hw9 => ?_⟩) ?_; rotate_left 1; have l0 := (hw9.1.cell 0).trans rfl; have l1 := (hw9.1.cell 1).trans rfl; have l2 := (hw9.1.cell 2).trans rfl; have lb := hw9.1.lt; go_simp; with_reducible rfl) | refine wpX_w undef (Or.inr ⟨by rfl, rfl⟩) ?_ | refine wpX_l undef (HB2.out) (Or.inr ⟨by rfl, rfl⟩) ?_); go_frame)
 refine wpX_e (by kernel_rfl) (fun K9 hK9 => ?_)
 go_simp
 refine hK9 _ _ ?_
 clear hK9 K9
 repeat ((first | (refine wpX_w ?_ (Or.inl ⟨by rfl, fun w9 => ?_⟩) ?_; rotate_left 1; go_simp; with_reducible rfl) | (refine wpX_l ?_ (HB2.out) (Or.inl ⟨by rfl, fun w9 hw9 => ?_⟩) ?_; rotate_left 1; have l0 := (hw9.1.cell 0).trans rfl; have l1 := (hw9.1.cell 1).trans rfl; have l2 := (hw9.1.cell 2).trans rfl; have lb := hw9.1.lt; go_simp; with_reducible rfl) | refine wpX_w undef (Or.inr ⟨by rfl, rfl⟩) ?_ | refine wpX_l undef (HB2.out) (Or.inr ⟨by rfl, rfl⟩) ?_); go_frame)
 refine wpX_nil ?_
 simp only [OnlyN_normal]
 refine hKK _ _ ?_
 clear hKK KK
 go_wp2_with fail
 go_ret
 have hn : Below w2.heap.size w2 (w2.alloc (.cells #[.int .i64 T.room, .pointer (some ⟨k, 0, none⟩), .pointer (some ⟨bm, 0, none⟩)] 111)) := (Below.refl _ _).alloc (Nat.le_refl _) _
 exact ⟨⟨w2.heap.size, T.room, k, bm, bp⟩, rfl, rfl, ⟨Blk.new _ _ _, HM.out.new_ hn⟩, ⟨σ1, σ3, H2.out.below hn, fun q hq o1 o2 => ⟨HOF1.out q hq o1, HOF2.out q (Nat.lt_of_lt_of_le hq HF1.out.size) o2⟩⟩, HK2.out.trans (KB.of_below hn), HF2.out.trans (Fr.of_new hn), hk, by have := HF1.out.size; dsimp only; omega⟩
end
end Go.Proofs.YtpndmjabjjbefaaGreat
namespace Go.Proofs.YtpndmjabjjbefaaGreat
open Go.RowKit Go.Shelf
structure TabSt (W : World) (S : Nat → Option (List Sym)) (S2 : Nat → Option (List Page)) (T : TB) (L : List Sym) (m : List Page) : Prop where
 blk : TabBlk W T
 bs : S T.bs = some L
 bp : S2 T.bp = some m
 ti : TI L m
 srt : Srt cmpSym L
 val : ∀ s ∈ L, validB s = true
 len : (L.length : Int) ≤ T.room
 r1 : 1 ≤ T.room
 r2 : T.room ≤ 4096
def putCode (room : Int) (L X : List Sym) : Int := if X.all validB = true then (if room < ((puts cmpSym L X).length : Int) then 20 else 0) else 9
def putList (room : Int) (L X : List Sym) : List Sym := if X.all validB = true then (if room < ((puts cmpSym L X).length : Int) then L else puts cmpSym L X) else L
def zsym : Sym := ⟨0, ⟨#[]⟩, 0⟩
def freshE (room : Int) (L : List Sym) (c : UInt8) : Int := if nextL L c = 0 then 1 else if room ≤ (L.length : Int) ∨ 1048576 < nextL L c then 20 else 0
def freshS (room : Int) (L : List Sym) (c : UInt8) : Sym := if freshE room L c = 0 then ⟨1, letB c, nextL L c⟩ else zsym
def freshL (room : Int) (L : List Sym) (c : UInt8) : List Sym := if freshE room L c = 0 then put cmpSym L ⟨1, letB c, nextL L c⟩ else L
theorem nextL_pos {L : List Sym} {c : UInt8} (h : greatB c = true) : 1 ≤ nextL L c := by unfold nextL; rw [if_pos h]; have := maxL_nonneg L c; omega
theorem fresh_not {L : List Sym} {c : UInt8} (hg : greatB c = true) : has cmpSym L ⟨1, letB c, nextL L c⟩ = false := by
 rw [hasNot]
 intro hm
 have h5 := (maxL_le.1 (Int.le_refl (maxL L c))).2 _ hm ⟨rfl, rfl⟩
 have h6 : nextL L c = maxL L c + 1 := by unfold nextL; rw [if_pos hg]
 dsimp only at h5
 omega
theorem nextL_zero {L : List Sym} {c : UInt8} (h : greatB c = false) : nextL L c = 0 := by unfold nextL; simp [h]
section
variable {D D' : Nat → Prop} {W W' : World} {T : TB} {L : List Sym}
theorem TabSt.blk_ {S : Nat → Option (List Sym)} {S2 : Nat → Option (List Page)} {m : List Page} (h : TabSt W S S2 T L m) (hb : TabBlk W' T) : TabSt W' S S2 T L m := ⟨hb, h.bs, h.bp, h.ti, h.srt, h.val, h.len, h.r1, h.r2⟩
theorem Tabs.off_blk {S : Nat → Option (List Sym)} {σ : Nat → St} {S2 : Nat → Option (List Page)} {σ2 : Nat → St} {k : Nat} {t : TypeId} {cs : Array Value} (h : Tabs D W S σ S2 σ2) (hB : Blk W k t cs) (h1 : t ≠ 131) (h2 : t ≠ 23) (h3 : t ≠ 161) (h4 : t ≠ 135) : Off k S σ ∧ Off k S2 σ2 := by
 refine ⟨fun b l hb => ⟨fun e => ?_, fun a ha e => ?_⟩, fun b l hb => ⟨fun e => ?_, fun a ha e => ?_⟩⟩
 · exact hB.ne_ (h.syms.at_ b l hb).blk h1 e.symm
 · have := own_blk_ne (h.syms.at_ b l hb).row hB (Ne.symm h2)
   rw [ha] at this
   exact this (by simp [Value.ownBlock, e])
 · exact hB.ne_ (h.pages.at_ b l hb).blk h3 e.symm
 · have := own_blk_ne (h.pages.at_ b l hb).row hB (Ne.symm h4)
   rw [ha] at this
   exact this (by simp [Value.ownBlock, e])
theorem putList_valid {room : Int} {L X : List Sym} (h : ∀ s ∈ L, validB s = true) : ∀ s ∈ putList room L X, validB s = true := by
 unfold putList
 split
 · rename_i hx
   split
   · exact h
   · intro s hs
     rw [mem_puts_iff] at hs
     rcases hs with hs | hs
     · exact h s hs
     · exact List.all_eq_true.1 hx s hs
 · exact h
end
def Out (D : Nat → Prop) (W : World) (S : Nat → Option (List Sym)) (σ : Nat → St) (S2 : Nat → Option (List Page)) (σ2 : Nat → St) (T : TB) (L' : List Sym) (W' : World) : Prop :=
 (∃ σ' σ2' m', Tabs D W' (upd S T.bs (some L')) σ' (upd S2 T.bp (some m')) σ2' ∧ TI L' m' ∧ Srt cmpSym L' ∧ (∀ s ∈ L', validB s = true) ∧ (L'.length : Int) ≤ T.room ∧ ∀ q, q < W.heap.size → Off q S σ → Off q S2 σ2 → Off q (upd S T.bs (some L')) σ' ∧ Off q (upd S2 T.bp (some m')) σ2') ∧ KB W W' ∧ Fr (fun j => ¬ D j) W W'
section
variable {D D' : Nat → Prop} {W W' : World} {T T' : TB} {L L' L1 : List Sym} {S : Nat → Option (List Sym)} {σ : Nat → St} {S2 : Nat → Option (List Page)} {σ2 : Nat → St} {m : List Page}
theorem Out.same (h1 : Tabs D W S σ S2 σ2) (h2 : TabSt W S S2 T L m) (hb : Below W.heap.size W W') : Out D W S σ S2 σ2 T L W' :=
 ⟨⟨σ, σ2, m, by rw [upd_id _ _ _ h2.bs, upd_id _ _ _ h2.bp]; exact h1.below hb, h2.ti, h2.srt, h2.val, h2.len, fun q _ o1 o2 => by rw [upd_id _ _ _ h2.bs, upd_id _ _ _ h2.bp]; exact ⟨o1, o2⟩⟩, KB.of_below hb, Fr.of_new hb⟩
set_option maxHeartbeats 1000000 in
theorem st_put (X : List Sym) (A2 : Option Addr) (c2 : Nat) (h1 : Tabs D W S σ S2 σ2) (h2 : TabSt W S S2 T L m) (hX : RowRd W 3 Sym.cells A2 c2 X) (hl : (X.length : Int) ≤ 10000) :
 Calls Tryz.prog 59 #[.pointer (some ⟨T.b, 0, none⟩), .slice A2 X.length c2] W fun e W' => e = .returned (.int .i64 (putCode T.room L X)) ∧ Out D W S σ S2 σ2 T (putList T.room L X) W' := by
 refine (tputl_is T L m X A2 c2 h1 h2.blk h2.bs h2.bp hX h2.r1 h2.r2 h2.len (page_len h2.ti.1) hl).mono ?_
 intro e W' hp
 have hval := putList_valid (room := T.room) (X := X) h2.val
 unfold TPut at hp
 unfold putList at hval ⊢
 unfold putCode
 split at hp
 · rename_i hx
   rw [if_pos hx] at hval
   rw [if_pos hx, if_pos hx]
   split at hp
   · rename_i hr
     rw [if_pos hr, if_pos hr]
     exact ⟨hp.1, Out.same h1 h2 hp.2⟩
   · rename_i hr
     rw [if_neg hr] at hval
     rw [if_neg hr, if_neg hr]
     have hti := h2.ti.puts (m := m) (frsh L X) (fun s hs => List.all_eq_true.1 hx s (mem_frsh.1 hs).1)
     rw [puts_frsh h2.srt] at hti
     obtain ⟨he, ⟨σ', σ2', g1, gof⟩, hK, hF⟩ := hp
     exact ⟨he, ⟨σ', σ2', _, g1, hti, Srt.puts tc_sym _ h2.srt, hval, by omega, gof⟩, hK, hF⟩
 · rename_i hx
   rw [if_neg hx, if_neg hx]
   exact ⟨hp.1, Out.same h1 h2 hp.2⟩
set_option maxHeartbeats 1000000 in
theorem st_fresh (c : UInt8) (h1 : Tabs D W S σ S2 σ2) (h2 : TabSt W S S2 T L m) :
 Calls Tryz.prog 55 #[.pointer (some ⟨T.b, 0, none⟩), .int .u8 (c.toNat : Int)] W fun e W' => e = .returned (.tuple #[.agg #[.int .i64 (freshS T.room L c).kind, .string (freshS T.room L c).text, .int .i64 (freshS T.room L c).n], .int .i64 (freshE T.room L c)]) ∧ Out D W S σ S2 σ2 T (freshL T.room L c) W' := by
 have hlen := h2.len
 have hr2 := h2.r2
 have hpl := page_len h2.ti.1
 cases hg : greatB c
 · have e0 : freshE T.room L c = 1 := by unfold freshE; rw [if_pos (nextL_zero hg)]
   have e1 : freshS T.room L c = zsym := by unfold freshS; rw [e0]; rfl
   have e2 : freshL T.room L c = L := by unfold freshL; rw [e0]; rfl
   rw [e0, e1, e2]
   exact (fresh_arg T c hg).mono fun e W' ⟨h3, h4⟩ => ⟨h3, Out.same h1 h2 h4⟩
 · have hp := nextL_pos (L := L) hg
   have hnb := h2.ti.next c
   by_cases hf : T.room ≤ L.length
   · have e0 : freshE T.room L c = 20 := by unfold freshE; rw [if_neg (by omega), if_pos (.inl hf)]
     have e1 : freshS T.room L c = zsym := by unfold freshS; rw [e0]; rfl
     have e2 : freshL T.room L c = L := by unfold freshL; rw [e0]; rfl
     rw [e0, e1, e2]
     exact (fresh_full T L m c h1 h2.blk h2.bs h2.bp hg hf (by omega)).mono fun e W' ⟨h3, h4⟩ => ⟨h3, Out.same h1 h2 h4⟩
   · by_cases hn : 1048576 < nextL L c
     · have e0 : freshE T.room L c = 20 := by unfold freshE; rw [if_neg (by omega), if_pos (.inr hn)]
       have e1 : freshS T.room L c = zsym := by unfold freshS; rw [e0]; rfl
       have e2 : freshL T.room L c = L := by unfold freshL; rw [e0]; rfl
       rw [e0, e1, e2]
       exact (fresh_far T L m c h1 h2.blk h2.bs h2.bp hg hf (by omega) (by omega)).mono fun e W' ⟨h3, h4⟩ => ⟨h3, Out.same h1 h2 h4⟩
     · have e0 : freshE T.room L c = 0 := by unfold freshE; rw [if_neg (by omega), if_neg (fun h => h.elim hf hn)]
       have e1 : freshS T.room L c = ⟨1, letB c, nextL L c⟩ := by unfold freshS; rw [if_pos e0]
       have e2 : freshL T.room L c = put cmpSym L ⟨1, letB c, nextL L c⟩ := by unfold freshL; rw [if_pos e0]
       have hv : validB ⟨1, letB c, nextL L c⟩ = true := valid_let hg hp (by omega)
       have hlp := length_put tc_sym h2.srt (fresh_not hg)
       rw [e0, e1, e2]
       refine (fresh_new T L m c h1 h2.blk h2.bs h2.bp hg hf (by omega) (by omega) (by omega) (by omega)).mono fun e W' ⟨h3, h4⟩ => ?_
       rw [hnb] at h3 h4
       obtain ⟨⟨σ', σ2', g1, gof⟩, hK, hF⟩ := h4
       exact ⟨h3, ⟨σ', σ2', _, g1, h2.ti.put hv, h2.srt.put tc_sym _, (fun s hs => by
        rcases mem_put_iff.1 hs with hs | rfl
        · exact h2.val s hs
        · exact hv), by rw [hlp]; omega, gof⟩, hK, hF⟩
end
end Go.Proofs.YtpndmjabjjbefaaGreat
namespace Go.Proofs.YtpndmjabjjbefaaGreat
open Go.RowKit Go.Shelf
section
variable {D : Nat → Prop} {w : World} {S : Nat → Option (List Sym)} {σ : Nat → St} {S2 : Nat → Option (List Page)} {σ2 : Nat → St}
theorem sNewC_Sym (A : Option Addr) (c : Nat) (xs : List Sym) (h : SymSets D w S σ) (hrd : RowRd w 3 Sym.cells A c xs) (hl : (xs.length : Int) ≤ 10000000) :
 Calls Tryz.prog 52 #[.slice A xs.length c] w fun e w' => ∃ k, e = .returned (.pointer (some ⟨k, 0, none⟩)) ∧ w.heap.size ≤ k ∧ (∃ σ', SymSets D w' (upd S k (some (puts cmpSym [] xs))) σ' ∧ ∀ q, q < w.heap.size → Off q S σ → Off q (upd S k (some (puts cmpSym [] xs))) σ') ∧ Below w.heap.size w w' := by
 refine (new_Sym A c xs w hrd hl).mono ?_
 rintro e w' ⟨k, he, hk, sn, A', c', h1, hA, hB⟩
 refine ⟨k, he, hk, ⟨_, h.add hk h1 (Srt.puts tc_sym xs Srt.nil) (.inl hA) hB, fun q hq ho b l hb => ?_⟩, hB⟩
 by_cases e : b = k
 · subst e
   rw [upd_same]
   exact ⟨by omega, fun a ha => by have := hA a ha; omega⟩
 · rw [upd_ne _ _ e] at hb ⊢
   exact ho b l hb
theorem sNewC_Page (A : Option Addr) (c : Nat) (xs : List Page) (h : PageSets D w S2 σ2) (hrd : RowRd w 2 Page.cells A c xs) (hl : (xs.length : Int) ≤ 10000000) :
 Calls Tryz.prog 74 #[.slice A xs.length c] w fun e w' => ∃ k, e = .returned (.pointer (some ⟨k, 0, none⟩)) ∧ w.heap.size ≤ k ∧ (∃ σ', PageSets D w' (upd S2 k (some (puts cmpPage [] xs))) σ' ∧ ∀ q, q < w.heap.size → Off q S2 σ2 → Off q (upd S2 k (some (puts cmpPage [] xs))) σ') ∧ Below w.heap.size w w' := by
 refine (new_Page A c xs w hrd hl).mono ?_
 rintro e w' ⟨k, he, hk, sn, A', c', h1, hA, hB⟩
 refine ⟨k, he, hk, ⟨_, h.add hk h1 (Srt.puts tc_page xs Srt.nil) (.inl hA) hB, fun q hq ho b l hb => ?_⟩, hB⟩
 by_cases e : b = k
 · subst e
   rw [upd_same]
   exact ⟨by omega, fun a ha => by have := hA a ha; omega⟩
 · rw [upd_ne _ _ e] at hb ⊢
   exact ho b l hb
def MadeMapC (D : Nat → Prop) (w : World) (S : Nat → Option (List Sym)) (σ : Nat → St) (S2 : Nat → Option (List Page)) (σ2 : Nat → St) (e : Ending) (w' : World) : Prop :=
 ∃ bm bp, e = .returned (.pointer (some ⟨bm, 0, none⟩)) ∧ Blk w' bm 137 #[.pointer (some ⟨bp, 0, none⟩)] ∧ (∃ σ2', Tabs D w' S σ (upd S2 bp (some [])) σ2' ∧ ∀ q, q < w.heap.size → Off q S2 σ2 → Off q (upd S2 bp (some [])) σ2') ∧ Below w.heap.size w w' ∧ w.heap.size ≤ bm ∧ w.heap.size ≤ bp
set_option maxHeartbeats 1000000 in
theorem booknewC_is (hT : Tabs D w S σ S2 σ2) : Calls Tryz.prog 53 #[] w (MadeMapC D w S σ S2 σ2) := by
 have HT := Lib.hid hT
 clear hT
 go_enter Tryz.func53, Tryz.ntmps53
 go_wp2_with fail
 refine (sNewC_Page none 0 [] HT.out.pages (RowRd.nil _ _ _) (by simp)).mono ?_
 rintro e w1 ⟨k, rfl, hk, ⟨σ', h1, hof⟩, hB⟩
 have HB := Lib.hid hB
 have HOF := Lib.hid hof
 have H1 := Lib.hid (show Tabs D w1 S σ (upd S2 k (some [])) σ' from ⟨HT.out.syms.below hB, h1⟩)
 clear hB h1 hof
 go_wp2_with fail
 go_ret
 have hz := HB.out.size
 exact ⟨w1.heap.size, k, rfl, Blk.new _ _ _, ⟨σ', H1.out.below ((Below.refl _ _).alloc (Nat.le_refl _) _), HOF.out⟩, HB.out.alloc hz _, hz, hk⟩
def MadeTabC (D : Nat → Prop) (w : World) (S : Nat → Option (List Sym)) (σ : Nat → St) (S2 : Nat → Option (List Page)) (σ2 : Nat → St) (room : Int) (e : Ending) (w' : World) : Prop :=
 ∃ T : TB, e = .returned (.tuple #[.pointer (some ⟨T.b, 0, none⟩), .int .i64 0]) ∧ T.room = room ∧ TabBlk w' T ∧ (∃ σ' σ2', Tabs D w' (upd S T.bs (some [])) σ' (upd S2 T.bp (some [])) σ2' ∧ ∀ q, q < w.heap.size → Off q S σ → Off q S2 σ2 → Off q (upd S T.bs (some [])) σ' ∧ Off q (upd S2 T.bp (some [])) σ2') ∧ Below w.heap.size w w' ∧ w.heap.size ≤ T.bs ∧ w.heap.size ≤ T.bp
set_option maxHeartbeats 1000000 in
theorem tabnewC_is (room : Int) (h1 : 1 ≤ room) (h2 : room ≤ 4096) (hT : Tabs D w S σ S2 σ2) : Calls Tryz.prog 24 #[.int .i64 room] w (MadeTabC D w S σ S2 σ2 room) := by
 have HT := Lib.hid hT
 have t1 : decide (room < 1) = false := by simp; omega
 have t2 : decide ((4096 : Int) < room) = false := by simp; omega
 clear hT h1 h2
 go_enter Tryz.func24, Tryz.ntmps24
 go_wp2_with fail
 refine (sNewC_Sym none 0 [] HT.out.syms (RowRd.nil _ _ _) (by simp)).mono ?_
 rintro e w1 ⟨k, rfl, hk, ⟨σ', h1, hof⟩, hB⟩
 have HB := Lib.hid hB
 have HOF := Lib.hid hof
 have H1 := Lib.hid (show Tabs D w1 (upd S k (some [])) σ' S2 σ2 from ⟨h1, HT.out.pages.below hB⟩)
 clear hB h1 hof
 go_wp2_with fail
 refine (booknewC_is H1.out).mono ?_
 rintro e w2 ⟨bm, bp, rfl, hM, ⟨σ2', h2, hof2⟩, hB2, hbm, hbp⟩
 have HM := Lib.hid hM
 have H2 := Lib.hid h2
 have HOF2 := Lib.hid hof2
 have hz1 := HB.out.size
 have hz2 := hB2.size
 have HB2 := Lib.hid (HB.out.trans (hB2.mono hz1))
 clear hM h2 hB2 hof2
 go_wp2_with fail
 go_ret2
 have hnew : Below w2.heap.size w2 (w2.alloc (.cells #[.int .i64 room, .pointer (some ⟨k, 0, none⟩), .pointer (some ⟨bm, 0, none⟩)] 111)) := (Below.refl _ _).alloc (Nat.le_refl _) _
 exact ⟨⟨w2.heap.size, room, k, bm, bp⟩, rfl, rfl, ⟨Blk.new _ _ _, HM.out.new_ hnew⟩, ⟨σ', σ2', H2.out.below hnew, fun q hq o1 o2 => ⟨HOF.out q hq o1, HOF2.out q (by omega) o2⟩⟩, HB2.out.alloc (by omega) _, hk, by dsimp only; omega⟩
end
end Go.Proofs.YtpndmjabjjbefaaGreat
namespace Go.Proofs.YtpndmjabjjbefaaGreat
open Go.RowKit Go.Shelf
section
variable {D D' : Nat → Prop} {W W' : World} {T T' : TB} {L L' L1 : List Sym} {S : Nat → Option (List Sym)} {σ : Nat → St} {S2 : Nat → Option (List Page)} {σ2 : Nat → St} {m : List Page}
def Offs (D : Nat → Prop) (S : Nat → Option (List Sym)) (σ : Nat → St) (S2 : Nat → Option (List Page)) (σ2 : Nat → St) : Prop := ∀ q, D q → Off q S σ ∧ Off q S2 σ2
def GT (D : Nat → Prop) (W : World) (T : TB) (L : List Sym) : Prop := ∃ S σ S2 σ2 m, Tabs D W S σ S2 σ2 ∧ Offs D S σ S2 σ2 ∧ TabSt W S S2 T L m
def GT2 (D : Nat → Prop) (W : World) (T T' : TB) (L L' : List Sym) : Prop := ∃ S σ S2 σ2 m m', Tabs D W S σ S2 σ2 ∧ Offs D S σ S2 σ2 ∧ TabSt W S S2 T L m ∧ TabSt W S S2 T' L' m' ∧ T.bs ≠ T'.bs ∧ T.bp ≠ T'.bp
def GTS (D : Nat → Prop) (W : World) (T : TB) (L : List Sym) (k : Nat) (l : List Sym) : Prop := ∃ S σ S2 σ2 m, Tabs D W S σ S2 σ2 ∧ Offs D S σ S2 σ2 ∧ TabSt W S S2 T L m ∧ S k = some l ∧ k ≠ T.bs
theorem Sets.inD {α : Type} {tSet tE size : Nat} {cells : α → List Value} {cmp : α → α → Int} {S : Nat → Option (List α)} (h : Sets tSet tE size cells cmp D W S σ) (ho : ∀ q, D q → Off q S σ) (hF : Fr D W W') : Sets tSet tE size cells cmp (fun k => D k ∨ (W.heap.size ≤ k ∧ k < W'.heap.size)) W' S σ :=
 Sets.widen (D := D) ⟨fun b l hb => (h.at_ b l hb).fr hF (fun hd => (ho b hd b l hb).1 rfl) (fun a ha hd => (ho _ hd b l hb).2 a ha rfl), h.srt, h.out, h.apart, fun k hk => Nat.lt_of_lt_of_le (h.low k hk) hF.size⟩ W.heap.size (fun b l hb => ⟨h.lt hb, fun _ a ha => (h.at_ b l hb).row_lt a ha⟩)
theorem Offs.grow (h1 : Tabs D W S σ S2 σ2) (h : Offs D S σ S2 σ2) (n : Nat) : Offs (fun k => D k ∨ (W.heap.size ≤ k ∧ k < n)) S σ S2 σ2 := fun q hq => hq.elim (h q) (fun hq => ⟨Off.new_ h1.syms hq.1, Off.new_ h1.pages hq.1⟩)
theorem Tabs.inD (h1 : Tabs D W S σ S2 σ2) (h : Offs D S σ S2 σ2) (hF : Fr D W W') : Tabs (fun k => D k ∨ (W.heap.size ≤ k ∧ k < W'.heap.size)) W' S σ S2 σ2 := ⟨h1.syms.inD (fun q hq => (h q hq).1) hF, h1.pages.inD (fun q hq => (h q hq).2) hF⟩
theorem GT.low (h : GT D W T L) : ∀ k, D k → k < W.heap.size := by
 obtain ⟨S, σ, S2, σ2, m, h1, _⟩ := h
 exact h1.syms.low
theorem GT2.low (h : GT2 D W T T' L L') : ∀ k, D k → k < W.heap.size := by
 obtain ⟨S, σ, S2, σ2, m, m', h1, _⟩ := h
 exact h1.syms.low
theorem GT.weaken (h : GT D W T L) (hD : ∀ j, D' j → D j) : GT D' W T L := by
 obtain ⟨S, σ, S2, σ2, m, h1, h2, h3⟩ := h
 exact ⟨S, σ, S2, σ2, m, h1.weaken hD, fun q hq => h2 q (hD q hq), h3⟩
theorem GT2.weaken (h : GT2 D W T T' L L') (hD : ∀ j, D' j → D j) : GT2 D' W T T' L L' := by
 obtain ⟨S, σ, S2, σ2, m, m', h1, h2, h3⟩ := h
 exact ⟨S, σ, S2, σ2, m, m', h1.weaken hD, fun q hq => h2 q (hD q hq), h3⟩
theorem GT.grow (h : GT D W T L) (hF : Fr D W W') (hK : KB W W') : GT (fun k => D k ∨ (W.heap.size ≤ k ∧ k < W'.heap.size)) W' T L := by
 obtain ⟨S, σ, S2, σ2, m, h1, h2, h3⟩ := h
 exact ⟨S, σ, S2, σ2, m, h1.inD h2 hF, h2.grow h1 _, h3.blk_ (h3.blk.kb hK)⟩
theorem GT2.grow (h : GT2 D W T T' L L') (hF : Fr D W W') (hK : KB W W') : GT2 (fun k => D k ∨ (W.heap.size ≤ k ∧ k < W'.heap.size)) W' T T' L L' := by
 obtain ⟨S, σ, S2, σ2, m, m', h1, h2, h3, h4, h5, h6⟩ := h
 exact ⟨S, σ, S2, σ2, m, m', h1.inD h2 hF, h2.grow h1 _, h3.blk_ (h3.blk.kb hK), h4.blk_ (h4.blk.kb hK), h5, h6⟩
theorem GT.new_ (h : GT D W T L) (hb : Below W.heap.size W W') : GT (fun k => D k ∨ (W.heap.size ≤ k ∧ k < W'.heap.size)) W' T L := h.grow (Fr.of_new hb) (KB.of_below hb)
theorem GT2.new_ (h : GT2 D W T T' L L') (hb : Below W.heap.size W W') : GT2 (fun k => D k ∨ (W.heap.size ≤ k ∧ k < W'.heap.size)) W' T T' L L' := h.grow (Fr.of_new hb) (KB.of_below hb)
theorem GT.below (h : GT D W T L) (hb : Below W.heap.size W W') : GT D W' T L := (h.new_ hb).weaken (fun _ hj => .inl hj)
theorem GT2.below (h : GT2 D W T T' L L') (hb : Below W.heap.size W W') : GT2 D W' T T' L L' := (h.new_ hb).weaken (fun _ hj => .inl hj)
theorem GTS.below {k : Nat} {l : List Sym} (h : GTS D W T L k l) (hb : Below W.heap.size W W') : GTS D W' T L k l := by
 obtain ⟨S, σ, S2, σ2, m, h1, h2, h3, h4, h5⟩ := h
 exact ⟨S, σ, S2, σ2, m, h1.below hb, h2, h3.blk_ (h3.blk.below hb), h4, h5⟩
theorem GTS.gt {k : Nat} {l : List Sym} (h : GTS D W T L k l) : GT D W T L := by
 obtain ⟨S, σ, S2, σ2, m, h1, h2, h3, h4, h5⟩ := h
 exact ⟨S, σ, S2, σ2, m, h1, h2, h3⟩
theorem GT.off {k : Nat} {t : TypeId} {cs : Array Value} (h : GT D W T L) (hB : Blk W k t cs) (h1 : t ≠ 131) (h2 : t ≠ 23) (h3 : t ≠ 161) (h4 : t ≠ 135) (h5 : t ≠ 111) (h6 : t ≠ 137) (hF : Fr (· = k) W W') : GT D W' T L := by
 obtain ⟨S, σ, S2, σ2, m, g1, g2, g3⟩ := h
 have ho := g1.off_blk hB h1 h2 h3 h4
 exact ⟨S, σ, S2, σ2, m, g1.off ho.1 ho.2 hF, g2, g3.blk_ ⟨g3.blk.1.fr hF (g3.blk.1.ne_ hB (Ne.symm h5)), g3.blk.2.fr hF (g3.blk.2.ne_ hB (Ne.symm h6))⟩⟩
theorem GT2.swap (h : GT2 D W T T' L L') : GT2 D W T' T L' L := by
 obtain ⟨S, σ, S2, σ2, m, m', h1, h2, h3, h4, h5, h6⟩ := h
 exact ⟨S, σ, S2, σ2, m', m, h1, h2, h4, h3, Ne.symm h5, Ne.symm h6⟩
theorem GT2.one (h : GT2 D W T T' L L') : GT D W T L := by
 obtain ⟨S, σ, S2, σ2, m, m', h1, h2, h3, _⟩ := h
 exact ⟨S, σ, S2, σ2, m, h1, h2, h3⟩
theorem Out.gt (h1 : Tabs D W S σ S2 σ2) (ho : Offs D S σ S2 σ2) (h2 : TabSt W S S2 T L m) (h : Out D W S σ S2 σ2 T L1 W') : GT D W' T L1 := by
 obtain ⟨⟨σ', σ2', m2, g1, g2, g3, g4, g5, g6⟩, hK, _⟩ := h
 exact ⟨_, σ', _, σ2', m2, g1, fun q hq => g6 q (h1.syms.low q hq) (ho q hq).1 (ho q hq).2, ⟨h2.blk.kb hK, upd_same _ _ _, upd_same _ _ _, g2, g3, g4, g5, h2.r1, h2.r2⟩⟩
theorem Out.gt2 {m' : List Page} (h1 : Tabs D W S σ S2 σ2) (ho : Offs D S σ S2 σ2) (h2 : TabSt W S S2 T L m) (h3 : TabSt W S S2 T' L' m') (h4 : T.bs ≠ T'.bs) (h5 : T.bp ≠ T'.bp) (h : Out D W S σ S2 σ2 T L1 W') : GT2 D W' T T' L1 L' := by
 obtain ⟨⟨σ', σ2', m2, g1, g2, g3, g4, g5, g6⟩, hK, _⟩ := h
 exact ⟨_, σ', _, σ2', m2, m', g1, fun q hq => g6 q (h1.syms.low q hq) (ho q hq).1 (ho q hq).2, ⟨h2.blk.kb hK, upd_same _ _ _, upd_same _ _ _, g2, g3, g4, g5, h2.r1, h2.r2⟩, ⟨h3.blk.kb hK, by rw [upd_ne _ _ (Ne.symm h4)]; exact h3.bs, by rw [upd_ne _ _ (Ne.symm h5)]; exact h3.bp, h3.ti, h3.srt, h3.val, h3.len, h3.r1, h3.r2⟩, h4, h5⟩
theorem GT.list_ (h : GT D W T L) : Srt cmpSym L ∧ (∀ s ∈ L, validB s = true) ∧ (L.length : Int) ≤ T.room ∧ T.room ≤ 4096 := by
 obtain ⟨S, σ, S2, σ2, m, h1, _, h2⟩ := h
 exact ⟨h2.srt, h2.val, h2.len, h2.r2⟩
theorem gt_put (X : List Sym) (A2 : Option Addr) (c2 : Nat) (h : GT D W T L) (hX : RowRd W 3 Sym.cells A2 c2 X) (hl : (X.length : Int) ≤ 10000) :
 Calls Tryz.prog 59 #[.pointer (some ⟨T.b, 0, none⟩), .slice A2 X.length c2] W fun e W' => e = .returned (.int .i64 (putCode T.room L X)) ∧ GT D W' T (putList T.room L X) ∧ Fr (fun j => ¬ D j) W W' ∧ KB W W' := by
 obtain ⟨S, σ, S2, σ2, m, h1, h2, h3⟩ := h
 exact (st_put X A2 c2 h1 h3 hX hl).mono fun e W' ⟨he, ho⟩ => ⟨he, Out.gt h1 h2 h3 ho, ho.2.2, ho.2.1⟩
theorem gt2_put (X : List Sym) (A2 : Option Addr) (c2 : Nat) (h : GT2 D W T T' L L') (hX : RowRd W 3 Sym.cells A2 c2 X) (hl : (X.length : Int) ≤ 10000) :
 Calls Tryz.prog 59 #[.pointer (some ⟨T'.b, 0, none⟩), .slice A2 X.length c2] W fun e W' => e = .returned (.int .i64 (putCode T'.room L' X)) ∧ GT2 D W' T T' L (putList T'.room L' X) ∧ Fr (fun j => ¬ D j) W W' ∧ KB W W' := by
 obtain ⟨S, σ, S2, σ2, m', m, h1, h2, h4, h3, h5, h6⟩ := h.swap
 exact (st_put X A2 c2 h1 h4 hX hl).mono fun e W' ⟨he, ho⟩ => ⟨he, (Out.gt2 h1 h2 h4 h3 h5 h6 ho).swap, ho.2.2, ho.2.1⟩
theorem gt2_fresh (c : UInt8) (h : GT2 D W T T' L L') :
 Calls Tryz.prog 55 #[.pointer (some ⟨T'.b, 0, none⟩), .int .u8 (c.toNat : Int)] W fun e W' => e = .returned (.tuple #[.agg #[.int .i64 (freshS T'.room L' c).kind, .string (freshS T'.room L' c).text, .int .i64 (freshS T'.room L' c).n], .int .i64 (freshE T'.room L' c)]) ∧ GT2 D W' T T' L (freshL T'.room L' c) ∧ Fr (fun j => ¬ D j) W W' ∧ KB W W' := by
 obtain ⟨S, σ, S2, σ2, m', m, h1, h2, h4, h3, h5, h6⟩ := h.swap
 exact (st_fresh c h1 h4).mono fun e W' ⟨he, ho⟩ => ⟨he, (Out.gt2 h1 h2 h4 h3 h5 h6 ho).swap, ho.2.2, ho.2.1⟩
theorem gt_clone (h : GT D W T L) : Calls Tryz.prog 54 #[.pointer (some ⟨T.b, 0, none⟩)] W fun e W' => ∃ T' : TB, e = .returned (.pointer (some ⟨T'.b, 0, none⟩)) ∧ T'.room = T.room ∧ GT2 D W' T T' L L ∧ Fr (fun j => ¬ D j) W W' ∧ KB W W' := by
 obtain ⟨S, σ, S2, σ2, m, h1, ho, h2⟩ := h
 refine (tabclone_is T L m h1 h2.blk h2.bs h2.bp).mono ?_
 rintro e W' ⟨T', he, hr, hB, ⟨σ', σ2', hT, hof⟩, hK, hF, hbs, hbp⟩
 have hl1 := h1.syms.lt h2.bs
 have hl2 := h1.pages.lt h2.bp
 have n1 : T.bs ≠ T'.bs := by omega
 have n2 : T.bp ≠ T'.bp := by omega
 exact ⟨T', he, hr, ⟨_, σ', _, σ2', m, m, hT, fun q hq => hof q (h1.syms.low q hq) (ho q hq).1 (ho q hq).2, ⟨h2.blk.kb hK, by rw [upd_ne _ _ n1]; exact h2.bs, by rw [upd_ne _ _ n2]; exact h2.bp, h2.ti, h2.srt, h2.val, h2.len, h2.r1, h2.r2⟩, ⟨hB, upd_same _ _ _, upd_same _ _ _, h2.ti, h2.srt, h2.val, by rw [hr]; exact h2.len, by rw [hr]; exact h2.r1, by rw [hr]; exact h2.r2⟩, n1, n2⟩, hF, hK⟩
theorem gt_new (room : Int) (w : World) (h1 : 1 ≤ room) (h2 : room ≤ 4096) : Calls Tryz.prog 24 #[.int .i64 room] w fun e w' => ∃ T : TB, e = .returned (.tuple #[.pointer (some ⟨T.b, 0, none⟩), .int .i64 0]) ∧ T.room = room ∧ GT (· < w.heap.size) w' T [] ∧ Below w.heap.size w w' := by
 refine (tabnewC_is room h1 h2 (Tabs.start w)).mono ?_
 rintro e w' ⟨T, he, hr, hB, ⟨σ', σ2', hT, hof⟩, hb, _, _⟩
 exact ⟨T, he, hr, ⟨_, σ', _, σ2', [], hT, fun q hq => hof q hq (fun _ _ h => by cases h) (fun _ _ h => by cases h), ⟨hB, upd_same _ _ _, upd_same _ _ _, TI.nil, Srt.nil, (fun s hs => absurd hs (by simp)), (by rw [List.length_nil]; omega), (by omega), (by omega)⟩⟩, hb⟩
end
theorem owns_kb {W W' : World} {base size n : Nat} {e : TypeId} {v : Value} {xs : List Value} (h : W.ownsRow base e size v n xs) (hK : KB W W') (h1 : e ≠ 131) (h2 : e ≠ 23) (h3 : e ≠ 161) (h4 : e ≠ 135) : W'.ownsRow base e size v n xs :=
 ⟨h.1, h.2.imp id fun ⟨g, cap, cur, hv, h0, hg, hr⟩ => ⟨g, cap, cur, hv, h0, hK g e cur h1 h2 h3 h4 hg, hr⟩⟩
theorem KB.grown {w w1 w2 : World} {base n : Nat} {v : Value} {xs : List Value} (h : KB w w1) (hown : w1.ownsRow base 23 3 v n xs) (hg : w1.grownBy w2 v.ownBlock) : KB w w2 := fun g t cs h1 h2 h3 h4 hb => (h g t cs h1 h2 h3 h4 hb).grown hg (own_blk_ne hown (h g t cs h1 h2 h3 h4 hb) (Ne.symm h2))
theorem row_grown {D : Nat → Prop} {X w4 : World} {A : Option Addr} {c n m B : Nat} {v' : Value} {xs news : List Value} (hown : X.ownsRow 0 23 3 (.slice A n c) n xs) (hA : AIn A D) (hB : AIn A (B ≤ ·)) (hBX : B ≤ X.heap.size) (hown' : w4.ownsRow 0 23 3 v' (n + m) (xs ++ news)) (hg : X.grownBy w4 (Value.slice A n c).ownBlock) (hat : v'.ownBlock = (Value.slice A n c).ownBlock ∨ v'.ownBlock = some X.heap.size) :
 ∃ A' c', v' = .slice A' (n + m) c' ∧ Fr D X w4 ∧ KB X w4 ∧ AIn A' (fun k => D k ∨ (X.heap.size ≤ k ∧ k < w4.heap.size)) ∧ AIn A' (B ≤ ·) ∧ Below B X w4 ∧ Fr (fun k => (Value.slice A n c).ownBlock = some k) X w4 ∧ n + m ≤ c' := by
 obtain ⟨A', c', rfl, hc, _, hz⟩ := own_form2 hown'
 have hob : ∀ k, (Value.slice A n c).ownBlock = some k → D k ∧ B ≤ k := by
  intro k hk
  rcases A with _ | a
  · simp [Value.ownBlock] at hk
  · have e : a.block = k := by simpa [Value.ownBlock] using hk
    exact ⟨e ▸ hA a rfl, e ▸ hB a rfl⟩
 have hat' : ∀ a, A' = some a → (∃ k, (Value.slice A n c).ownBlock = some k ∧ a.block = k) ∨ a.block = X.heap.size := by
  intro a ha
  subst ha
  rcases hat with h | h
  · exact .inl ⟨a.block, by rw [← h]; simp [Value.ownBlock], rfl⟩
  · exact .inr (by simpa [Value.ownBlock] using h)
 refine ⟨A', c', rfl, (Fr.refl D X).grown hg (fun k hk => .inl (hob k hk).1), KB.grown (KB.refl X) hown hg, fun a ha => ?_, fun a ha => ?_, (Below.refl B X).grown hg hBX (fun k hk => (hob k hk).2), (Fr.refl _ X).grown hg (fun k hk => .inl hk), hc⟩
 · rcases hat' a ha with ⟨k, hk, e⟩ | e
   · exact .inl (e ▸ (hob k hk).1)
   · refine .inr ⟨by omega, ?_⟩
     subst ha
     rcases ownsRow_form hown' with ⟨hv, _⟩ | ⟨g, cap, hv, _, _, hr, _⟩
     · cases hv
     · injection hv with hv
       injection hv with hv
       subst hv
       exact hr.lt
 · rcases hat' a ha with ⟨k, hk, e⟩ | e
   · exact e ▸ (hob k hk).2
   · show B ≤ a.block
     omega
theorem step_row {P : (Nat → Prop) → World → Prop} (hgrow : ∀ D W W', P D W → Fr D W W' → KB W W' → P (fun k => D k ∨ (W.heap.size ≤ k ∧ k < W'.heap.size)) W') {D : Nat → Prop} {w3 X w4 : World} {A : Option Addr} {c n m B : Nat} {v' : Value} {xs news : List Value}
 (h : P D w3) (hb : Below w3.heap.size w3 X) (hown : w3.ownsRow 0 23 3 (.slice A n c) n xs) (hA : AIn A D) (hB : AIn A (B ≤ ·)) (hBX : B ≤ w3.heap.size) (hown' : w4.ownsRow 0 23 3 v' (n + m) (xs ++ news)) (hg : X.grownBy w4 (Value.slice A n c).ownBlock) (hat : v'.ownBlock = (Value.slice A n c).ownBlock ∨ v'.ownBlock = some X.heap.size) :
 ∃ A' c' D3, v' = .slice A' (n + m) c' ∧ P D3 w4 ∧ (∀ j, D j → D3 j) ∧ AIn A' D3 ∧ AIn A' (B ≤ ·) ∧ KB w3 w4 ∧ Below B w3 w4 ∧ Fr (fun k => (Value.slice A n c).ownBlock = some k) w3 w4 ∧ n + m ≤ c' := by
 obtain ⟨A', c', e1, hF, hK, h1, h2, h3, h4, h5⟩ := row_grown (D := fun k => D k ∨ (w3.heap.size ≤ k ∧ k < X.heap.size)) (ownsRow_new hown hb) (hA.mono (fun _ h => .inl h)) hB (Nat.le_trans hBX hb.size) hown' hg hat
 exact ⟨A', c', _, e1, hgrow _ _ _ (hgrow _ _ _ h (Fr.of_new hb) (KB.of_below hb)) hF hK, fun j hj => .inl (.inl hj), h1, h2, (KB.of_below hb).trans hK, (hb.mono hBX).trans h3, (Fr.of_new hb).trans h4, h5⟩
end Go.Proofs.YtpndmjabjjbefaaGreat
namespace Go.Proofs.YtpndmjabjjbefaaGreat
open Go.RowKit
abbrev NameSet := SetAt (α := Name) 155 125 1 Name.cells
theorem nilAhead_Name (k0 : ByteArray) (w : World) : (nilAhead 310 125 (.string k0) "Compare").run Tryz.prog w = .ok (some false) w := by kernel_rfl
theorem method_Name (k0 : ByteArray) (w : World) : (method 310 125 (.string k0) "Compare").run Tryz.prog w = .ok (167, .string k0) w := by kernel_rfl
def FoundName (l : List Name) (x : Name) (w : World) (e : Ending) (w' : World) : Prop :=
 e = .returned (.tuple #[.int .i64 (rank cmpName l x), .bool (has cmpName l x)]) ∧ Below w.heap.size w w'
set_option maxRecDepth 100000 in
set_option maxHeartbeats 4000000 in
theorem find_Name (b c : Nat) (sn : Bool) (A : Option Addr) (l : List Name) (x : Name) (w : World) (hS : NameSet w b sn A c l) (hs : Srt cmpName l) (hl : (l.length : Int) ≤ 4611686018427387904) :
 Calls Tryz.prog 118 #[.pointer (some ⟨b, 0, none⟩), .string x] w (FoundName l x w) := by
 have hrd := hS.rd Name.cells_length
 have h0 := hS.cell0
 have hb := hS.lt
 clear hS
 have HS := Lib.hid hs
 have HRD := Lib.hid hrd
 clear hs hrd
 go_enter Tryz.func118, Tryz.ntmps118
 go_wp2_with fail
 go_quiet (fail)
 go_wp2_with fail
 obtain ⟨W0, hW0⟩ : ∃ W0, W0 = (w.drewN nq) := ⟨_, rfl⟩
 have hB0 : Below w.heap.size w W0 := by rw [hW0]; exact Below.drewN' (Below.refl _ _) _
 rw [← hW0]
 clear hW0
 have HB0 := Lib.hid hB0
 clear hB0
 go_loopw [6, 7] (fun lo hi wr => ∃ i j : Nat, lo = .int .i64 i ∧ hi = .int .i64 j ∧ i ≤ j ∧ j ≤ l.length ∧ (∀ k, (h : k < l.length) → k < i → cmpName l[k] x < 0) ∧ (∀ k, (h : k < l.length) → j ≤ k → 0 < cmpName l[k] x) ∧ Below W0.heap.size W0 wr) (fun lo hi wr => (intOf hi).toNat - (intOf lo).toNat)
 case atStart => exact ⟨0, l.length, rfl, rfl, Nat.zero_le _, Nat.le_refl _, fun k _ h => absurd h (by omega), fun k h h' => absurd h (by omega), Below.refl _ _⟩
 case round =>
  obtain ⟨i, j, rfl, rfl, hij, hj, hlo, hhi, hB⟩ := hrel
  have HLO := Lib.hid hlo
  have HHI := Lib.hid hhi
  clear hlo hhi
  have hsz : w.heap.size ≤ W0.heap.size := HB0.out.size
  by_cases hlt : i < j
  · obtain ⟨m, hm⟩ : ∃ m, m = i + (j - i) / 2 := ⟨_, rfl⟩
    have hml : m < l.length := by omega
    have hmj : m < j := by omega
    have hmi : i ≤ m := by omega
    have e1 : ((i : Int) + ((j : Int) - (i : Int)) / 2) = (m : Int) := by omega
    have E1 := Lib.hid e1
    clear e1 hm
    obtain ⟨g, off, rfl, hgs, hcell⟩ := HRD.out.at_ hml
    have low : ∀ (p : Addr), p.block < w.heap.size → wr.cell? p = w.cell? p := fun p hp => (hB.cell (p := p) (by omega)).trans (HB0.out.cell (p := p) hp)
    have r0 := (low ⟨b, 0, none⟩ hb).trans h0
    have q0 : wr.cell? ⟨g, off + m, none⟩ = some (.string l[m]) := (low ⟨g, off + m, none⟩ hgs).trans (by simpa using hcell 0 _ rfl)
    have b1 : (0 : Int) ≤ (m : Int) := by omega
    have b2 : (m : Int) < (l.length : Int) := by omega
    have hsw : W0.heap.size ≤ wr.heap.size := hB.size
    have N := nilAhead_Name
    have M := method_Name
    clear low hcell h0
    have HB := Lib.hid hB
    clear hB
    obtain ⟨y, hy⟩ : ∃ y, y = l[m] := ⟨_, rfl⟩
    rw [← hy] at q0
    have HY := Lib.hid hy
    clear hy
    have hbw : b < wr.heap.size := by omega
    have hgw : g < wr.heap.size := by omega
    go_upto_region 4 with (fail)
    rw [E1.out]
    go_wp2_with fail
    refine (cmp_name y x _).mono ?_
    rintro e w1 ⟨rfl, hb1⟩
    have HB1 : Below W0.heap.size W0 w1 := HB.out.trans (hb1.mono hsw)
    clear r0 q0 N M
    have HB1' := Lib.hid HB1
    clear HB1
    by_cases hc : cmpName y x = 0
    · have HC := Lib.hid hc
      have t1 : (cmpName y x == 0) = true := by simp [hc]
      clear hc
      go_wp2_with fail
      go_ret2
      have e := HC.out
      rw [HY.out] at e
      refine ⟨?_, HB0.out.trans (HB1'.out.mono (by omega))⟩
      rw [rank_some tc_name HS.out hml e, (at_some tc_name HS.out hml e).2.2.1]
      rfl
    · have t1 : (cmpName y x == 0) = false := by simp [hc]
      by_cases hc2 : cmpName y x < 0
      · have HC := Lib.hid hc2
        have t2 : decide (cmpName y x < 0) = true := by simpa using hc2
        clear hc hc2
        go_wp2_with fail
        go_roundw
        case rel =>
         refine ⟨m + 1, j, by go_num, rfl, by omega, hj, fun k h1 h2 => ?_, HHI.out, HB1'.out⟩
         have e := HC.out
         rw [HY.out] at e
         rcases Nat.lt_or_ge k m with h3 | h3
         · exact tc_name.lt_of_lt_of_le (HS.out.lt h3 hml) (by omega)
         · obtain rfl : k = m := by omega
           exact e
        case measure => simp [intOf]; omega
      · have t2 : decide (cmpName y x < 0) = false := by simpa using hc2
        have hc3 : 0 < cmpName y x := by omega
        have HC := Lib.hid hc3
        clear hc hc2 hc3
        go_wp2_with fail
        go_roundw
        case rel =>
         refine ⟨i, m, rfl, rfl, by omega, by omega, HLO.out, fun k h1 h2 => ?_, HB1'.out⟩
         have e := HC.out
         rw [HY.out] at e
         rcases Nat.lt_or_ge m k with h3 | h3
         · exact (tc_name.symm _ _).1 (tc_name.lt_trans ((tc_name.symm _ _).2 e) (HS.out.lt h3 h1))
         · obtain rfl : k = m := by omega
           exact e
        case measure => simp [intOf]; omega
  · obtain rfl : i = j := by omega
    have HB := Lib.hid hB
    clear hB
    go_wp2_with fail
    go_ret2
    refine ⟨?_, HB0.out.trans (HB.out.mono (by omega))⟩
    rw [rank_none hj HLO.out HHI.out, (at_none HLO.out HHI.out).2.2]
    rfl
end Go.Proofs.YtpndmjabjjbefaaGreat
namespace Go.Proofs.YtpndmjabjjbefaaGreat
open Go.RowKit
theorem info_Name : (Tryz.prog.info? 125).map (fun i => (i.zero, i.size, i.bytes)) = some (some (.string ⟨#[]⟩), 1, 16) := by kernel_rfl
theorem Name.one (x : Name) : ∀ u ∈ Name.cells x, u.oneCell' = true := by intro u hu; simp [Name.cells] at hu; rcases hu with rfl <;> rfl
theorem Name.oneAll (l : List Name) : ∀ u ∈ l.flatMap Name.cells, u.oneCell' = true := by intro u hu; obtain ⟨x, _, hx⟩ := List.mem_flatMap.1 hu; exact Name.one x u hx
def OwnPostName (w : World) (b : Nat) (sn : Bool) (A : Option Addr) (l : List Name) (e : Ending) (w' : World) : Prop :=
 e = .returned (.tuple #[]) ∧ ∃ A' c', NameSet w' b false A' c' l ∧ Fr (· = b) w w' ∧ Moved w sn A false A'
set_option maxRecDepth 100000 in
set_option maxHeartbeats 1000000 in
theorem own_no_Name (b c : Nat) (A : Option Addr) (l : List Name) (w : World) (hS : NameSet w b false A c l) :
 Calls Tryz.prog 119 #[.pointer (some ⟨b, 0, none⟩)] w (OwnPostName w b false A l) := by
 have h1 := hS.cell1
 have HS := Lib.hid hS
 clear hS
 go_enter Tryz.func119, Tryz.ntmps119
 go_wp2
 go_end0
 exact ⟨rfl, A, c, HS.out, Fr.refl _ _, .inl ⟨rfl, rfl⟩⟩
set_option maxRecDepth 100000 in
set_option maxHeartbeats 1000000 in
theorem own_yes_Name (b c : Nat) (A : Option Addr) (l : List Name) (w : World) (hS : NameSet w b true A c l) (hl : (l.length : Int) ≤ 1000000000) :
 Calls Tryz.prog 119 #[.pointer (some ⟨b, 0, none⟩)] w (OwnPostName w b true A l) := by
 obtain ⟨i0, hi, hz0, hz1, hz2⟩ := info_parts info_Name
 have h0 := hS.cell0
 have h1 := hS.cell1
 have hb := hS.lt
 have f0 := hS.blk.frozen 0
 have f1 := hS.blk.frozen 1
 have hrd := hS.rd Name.cells_length
 have HB := Lib.hid hS.blk
 have HRD := Lib.hid hrd
 clear hS hrd
 have e1 : IntKind.i64.wrap ((l.length : Int) + 1) = (l.length : Int) + 1 := IntWalk.i64_in _ (by omega)
 have hmk : ∀ W : World, (Instr.makeSlice 153 (.int .i64 0) (.int .i64 ((l.length : Int) + 1))).run Tryz.prog W = .ok (.slice (some ⟨W.heap.size, 0, none⟩) 0 (l.length + 1)) (W.alloc (.cells (madeCells (Value.cells (.string ⟨#[]⟩)) ((l.length + 1))) 125)) := fun W => by
  have h := run_make (P := Tryz.prog) W 153 125 i0 _ Tryz.underlying153 hi hz0 .i64 .i64 0 ((l.length : Int) + 1) (by omega) (by omega) (by rw [hz2]; omega) (by omega)
  rw [hz1] at h
  simpa [show ((l.length : Int) + 1).toNat = l.length + 1 by omega] using h
 go_enter Tryz.func119, Tryz.ntmps119
 go_wp2_with fail
 refine wp_region_E (fun w9 => Below w.heap.size w w9) [(0, 0), (1, 0), (2, 0), (3, 0), (4, 1), (5, 0), (6, 0), (8, 0), (9, 0), (10, 0), (11, 1), (7, 2), (12, 2), (13, 0), (14, 0), (15, 2)] (by kernel_rfl) (by kernel_rfl) (fun KK hKK => ?_)
 simp only [beside, List.filterMap_cons, List.filterMap_nil, List.getElem?_toArray, List.getElem?_cons_zero, List.getElem?_cons_succ, Option.map_some]
 repeat ((first | (refine wpX_w ?_ (Or.inl ⟨by rfl, fun w9 => ?_⟩) ?_; rotate_left 1; go_simp; with_reducible rfl) | (refine wpX_l ?_ (((Below.refl _ _).drew)) (Or.inl ⟨by rfl, fun w9 hw9 => ?_⟩) ?_; rotate_left 1; obtain ⟨hc9, hf9⟩ := bcell hw9; go_simp; with_reducible rfl) | refine wpX_w undef (Or.inr ⟨by rfl, rfl⟩) ?_ | refine wpX_l undef (((Below.refl _ _).drew)) (Or.inr ⟨by rfl, rfl⟩) ?_); go_frame)
 refine wpX_es (fun K9 hK9 => ?_)
 go_simp
 refine hK9 _ _ (((Below.refl _ _).drew).alloc (Nat.le_refl _) _) ?_
 clear hK9 K9
 refine wpX_e (by kernel_rfl) (fun K9 hK9 => ?_)
 refine step_append_src _ (by rfl) _ _ _ (by rfl) 125 i0 _ 1 16 Tryz.underlying153 hi hz0 hz1 hz2 rfl (by omega) _ 0 [] (by rfl) (World.ownsRow_made _ _ _ (Nat.zero_le _) (by unfold maxLen; omega) (by simp [madeCells])) A l.length c (l.flatMap Name.cells) (by rfl) (flat_length Name.cells_length l)
  ((HRD.out.drew.alloc _).news Name.cells_length (by omega)) (Name.oneAll l) (by unfold maxLen; omega) (by omega) ?_
 intro v2 w2 hown hgr hnil hat
 refine hK9 _ _ ?_
 clear hK9 K9
 rw [Nat.zero_add, List.nil_append] at hown
 obtain ⟨A', c', rfl, _, _, hz⟩ := own_form2 hown
 have HB1 := (HB.out.drew.alloc (.cells (madeCells (Value.cells (.string ⟨#[]⟩)) ((l.length + 1))) 125)).grown hgr (by simp [Value.ownBlock]; omega)
 have c0 := (HB1.cell 0).trans rfl
 have c1 := (HB1.cell 1).trans rfl
 have z0 := HB1.frozen 0
 have z1 := HB1.frozen 1
 have HB2 := Lib.hid HB1
 clear HB1
 repeat ((first | (refine wpX_w ?_ (Or.inl ⟨by rfl, fun w9 => ?_⟩) ?_; rotate_left 1; go_simp; with_reducible rfl) | (refine wpX_l ?_ (((Below.refl _ _).drew).alloc (Nat.le_refl _) _) (Or.inl ⟨by rfl, fun w9 hw9 => ?_⟩) ?_; rotate_left 1; obtain ⟨hc9, hf9⟩ := bcell hw9; go_simp; with_reducible rfl) | refine wpX_w undef (Or.inr ⟨by rfl, rfl⟩) ?_ | refine wpX_l undef (((Below.refl _ _).drew).alloc (Nat.le_refl _) _) (Or.inr ⟨by rfl, rfl⟩) ?_); go_frame)
 refine wpX_e (by kernel_rfl) (fun K9 hK9 => ?_)
 go_simp
 refine hK9 _ _ ?_
 clear hK9 K9
 refine wpX_nil ?_
 simp only [OnlyN_normal]
 refine hKK _ _ ?_
 clear hKK KK
 go_wp2
 go_end0
 have hb2 : (Value.slice A' l.length c').ownBlock = some w.heap.size ∨ (Value.slice A' l.length c').ownBlock = some (w.heap.size + 1) := by
  rcases hat with h | h
  · left; rw [h]; rfl
  · right; rw [h]; simp
 have hA : ∃ g, w.heap.size ≤ g ∧ A' = some ⟨g, 0, none⟩ := by
  rcases A' with _ | a
  · exfalso; simp [Value.ownBlock] at hb2
  · obtain ⟨g, rfl⟩ := hz a rfl
    refine ⟨g, ?_, rfl⟩
    simp [Value.ownBlock] at hb2
    omega
 obtain ⟨g, hg, rfl⟩ := hA
 have HB1 := HB2.out
 have HF : Fr (· = b) w w2 := ((Fr.refl (· = b) w).drew.alloc _).grown hgr (fun k e => by simp [Value.ownBlock] at e; right; omega)
 refine ⟨rfl, some ⟨g, 0, none⟩, c', ⟨(HB1.set_ 0 _).set_ 1 _, ?_⟩, (HF.setCell (p := ⟨b, 0, none⟩) (.inl rfl) _).setCell (p := ⟨b, 1, none⟩) (.inl rfl) _, .inr ⟨rfl, g, hg, rfl⟩⟩
 have hne : (Value.slice (some ⟨g, 0, none⟩) l.length c').ownBlock ≠ some b := by simp [Value.ownBlock]; omega
 exact ownsRow_setCell_other (a := ⟨b, 1, none⟩) (ownsRow_setCell_other (a := ⟨b, 0, none⟩) hown hne _) hne _
theorem own_Name (b c : Nat) (sn : Bool) (A : Option Addr) (l : List Name) (w : World) (hS : NameSet w b sn A c l) (hl : (l.length : Int) ≤ 1000000000) :
 Calls Tryz.prog 119 #[.pointer (some ⟨b, 0, none⟩)] w (OwnPostName w b sn A l) := by
 cases sn
 · exact own_no_Name b c A l w hS
 · exact own_yes_Name b c A l w hS hl
end Go.Proofs.YtpndmjabjjbefaaGreat
namespace Go.Proofs.YtpndmjabjjbefaaGreat
open Go.RowKit
def PutPostName (w : World) (b : Nat) (sn : Bool) (A : Option Addr) (l : List Name) (x : Name) (e : Ending) (w' : World) : Prop :=
 e = .returned (.bool (!has cmpName l x)) ∧ ∃ sn' A' c', NameSet w' b sn' A' c' (put cmpName l x) ∧ Fr (SetMod b sn A) w w' ∧ Moved w sn A sn' A'
set_option maxRecDepth 100000 in
set_option maxHeartbeats 1000000 in
theorem put_there_Name (b c : Nat) (sn : Bool) (A : Option Addr) (l : List Name) (x : Name) (w : World) (hS : NameSet w b sn A c l) (hs : Srt cmpName l) (hl : (l.length : Int) ≤ 100000000) (hh : has cmpName l x = true) :
 Calls Tryz.prog 97 #[.pointer (some ⟨b, 0, none⟩), .string x] w (PutPostName w b sn A l x) := by
 have HS := Lib.hid hS
 have HO := Lib.hid hs
 clear hS hs
 go_enter Tryz.func97, Tryz.ntmps97
 go_wp2_with fail
 refine (find_Name b c sn A l x _ (HS.out.new_ (Below.refl _ _)) HO.out (by omega)).mono ?_
 rintro e w1 ⟨rfl, hb1⟩
 go_wp2_with fail
 go_ret
 refine ⟨by rw [hh]; rfl, sn, A, c, ?_, Fr.of_new ((Below.refl _ _).trans (hb1.mono (by simp))), .inl ⟨rfl, rfl⟩⟩
 rw [put_has hh]
 exact HS.out.new_ ((Below.refl _ _).trans (hb1.mono (by simp)))
set_option maxRecDepth 100000 in
set_option maxHeartbeats 4000000 in
theorem put_new_Name (b c : Nat) (sn : Bool) (A : Option Addr) (l : List Name) (x : Name) (w : World) (hS : NameSet w b sn A c l) (hs : Srt cmpName l) (hl : (l.length : Int) ≤ 100000000) (hh : has cmpName l x = false) :
 Calls Tryz.prog 97 #[.pointer (some ⟨b, 0, none⟩), .string x] w (PutPostName w b sn A l x) := by
 obtain ⟨i0, hi, hz0, hz1, hz2⟩ := info_parts info_Name
 have HS := Lib.hid hS
 have HO := Lib.hid hs
 have hb := hS.lt
 clear hS hs
 have hrk := rank_le (cmp := cmpName) l x
 go_enter Tryz.func97, Tryz.ntmps97
 go_wp2_with fail
 have hSa := HS.out.new_ (Below.refl w.heap.size w)
 have HSa := Lib.hid hSa
 clear hSa
 refine (find_Name b c sn A l x _ HSa.out HO.out (by omega)).mono ?_
 rintro e w1 ⟨rfl, hb1⟩
 have HS1 := Lib.hid (HSa.out.new_ hb1)
 have hsz1 : w.heap.size ≤ w1.heap.size := by have := hb1.size; (try simp at this); omega
 have HB1 := Lib.hid hb1
 clear hb1
 go_wp2_with fail
 refine (own_Name b c sn A l _ HS1.out (by omega)).mono ?_
 rintro e w2 ⟨rfl, A1, c1, hS2, hF2, hM2⟩
 have hsz2 : w1.heap.size ≤ w2.heap.size := hF2.size
 have s0 := hS2.cell0
 have f0 := hS2.blk.frozen 0
 have hb2 : b < w2.heap.size := by omega
 have HS2 := Lib.hid hS2
 have HF2 := Lib.hid hF2
 have HM2 := Lib.hid hM2
 clear hS2 hF2 hM2 
 go_upto_region 8 with
  (at_builtin; refine wpList_append_src (w2.alloc (.cells #[Value.string x] 125)) rfl (.tmp 23) (.tmp 25) 153 rfl 125 i0 _ 1 16 Tryz.underlying153 hi hz0 hz1 hz2 rfl (by omega) (.slice A1 l.length c1) l.length (l.flatMap Name.cells) rfl (ownsRow_new HS2.out.row ((Below.refl _ _).alloc (Nat.le_refl _) _)) (some ⟨w2.heap.size, 0, none⟩) 1 1 (Name.cells x) rfl rfl (fun _ => ⟨_, rfl, World.news_of_block (heap_alloc_new _ _)⟩) (Name.one x) (by unfold maxLen; omega) (by omega) ?_;
   intro v2 w3 hown hgr hnil hat;
   obtain ⟨g, c2, rfl⟩ : ∃ g c2, v2 = .slice (some ⟨g, 0, none⟩) (l.length + 1) c2 := (by
    rcases ownsRow_form hown with ⟨_, h0, _⟩ | ⟨g, c2, h, _⟩
    · omega
    · exact ⟨g, c2, h⟩);
   have HB3' := (HS2.out.blk.alloc (.cells #[Value.string x] 125)).grown hgr (own_blk_ne HS2.out.row HS2.out.blk (by decide));
   have c0 := (HB3'.cell 0).trans rfl;
   have z0 := HB3'.frozen 0;
   have HB3 := Lib.hid HB3';
   have HOWN := Lib.hid hown;
   have HGR := Lib.hid hgr;
   clear HB3' hown hgr)
 have hlg : ((l.length + 1 : Nat) : Int) = (l.length : Int) + 1 := by omega
 have hG : (SetMod b sn A g ∨ w.heap.size ≤ g) ∧ Moved w sn A false (some ⟨g, 0, none⟩) ∧ True ∧ g ≠ b := by
  rcases hat with h | h
  · rcases A1 with _ | a1
    · simp [Value.ownBlock] at h
    · obtain ⟨A', c', hv, _, _, hz⟩ := own_form2 HS2.out.row
      injection hv with hv _ _
      obtain ⟨g', rfl⟩ := hz a1 hv.symm
      have hgg : g' = g := by simpa [Value.ownBlock] using h.symm
      subst hgg
      have hne : g' ≠ b := HS2.out.row_ne (by decide) _ rfl
      rcases HM2.out with ⟨hsn, hA⟩ | ⟨_, g2, hg2, hA⟩
      · have h1 := HS.out.row_lt _ hA.symm
        exact ⟨.inl (.inr ⟨hsn.symm, _, hA.symm, rfl⟩), .inl ⟨hsn, hA⟩, True.intro, hne⟩
      · injection hA with hA
        injection hA with hA
        subst hA
        exact ⟨.inr (by omega), .inr ⟨rfl, _, by omega, rfl⟩, True.intro, hne⟩
  · have hgg : g = w2.heap.size + 1 := by simpa [Value.ownBlock] using h
    subst hgg
    exact ⟨.inr (by omega), .inr ⟨rfl, _, by omega, rfl⟩, True.intro, by omega⟩
 obtain ⟨hgM, hgMv, hgk1, hgb⟩ := hG
 obtain ⟨w4, hw4⟩ : ∃ w4, w4 = w3.setCell ⟨b, 0, none⟩ (.slice (some ⟨g, 0, none⟩) (l.length + 1) c2) := ⟨_, rfl⟩
 have hB4 : Blk w4 b 155 #[.slice (some ⟨g, 0, none⟩) (l.length + 1) c2, .bool false] := by rw [hw4]; exact HB3.out.set_ 0 _
 have hR4 : w4.ownsRow 0 125 1 (.slice (some ⟨g, 0, none⟩) (l.length + 1) c2) (l.length + 1) ((shiftAt l x l.length).flatMap Name.cells) := by
  rw [hw4, shiftAt_start]
  refine ownsRow_setCell_other (a := ⟨b, 0, none⟩) ?_ (by simpa [Value.ownBlock] using hgb) _
  rw [List.flatMap_append, List.flatMap_singleton]
  exact HOWN.out
 have hF4 : Fr (SetMod b sn A) w w4 := by
  rw [hw4]
  have h1 : Fr (SetMod b sn A) w w1 := Fr.of_new ((Below.refl _ _).trans (HB1.out.mono (by simp)))
  have h2 : Fr (SetMod b sn A) w w2 := h1.trans (HF2.out.mono (fun k _ h => .inl h))
  refine ((h2.alloc _).grown HGR.out (fun k hk => ?_)).setCell (p := ⟨b, 0, none⟩) (.inl (.inl rfl)) _
  rcases A1 with _ | a1
  · cases hk
  · simp only [Value.ownBlock, Option.some.injEq] at hk
    subst hk
    rcases HM2.out with ⟨hsn, hA⟩ | ⟨_, g', hg', hA⟩
    · left; right; exact ⟨hsn.symm, a1, hA.symm, rfl⟩
    · injection hA with hA
      subst hA
      right; dsimp only; omega
 rw [← hw4]
 have HgM := Lib.hid hgM
 have HgMv := Lib.hid hgMv
 have HB4 := Lib.hid hB4
 have HR4 := Lib.hid hR4
 have HF4 := Lib.hid hF4
 have s4 := hB4.cell 0
 have s4' : w4.cell? ⟨b, 0, none⟩ = some (.slice (some ⟨g, 0, none⟩) (l.length + 1) c2) := s4
 clear s4 hw4 hB4 hR4 hF4 hat hgM hgMv hnil  s0 f0
 go_wp2_with fail
 go_loopw [7] (fun s wr => ∃ i : Nat, s = .int .i64 i ∧ rank cmpName l x ≤ i ∧ i ≤ l.length ∧ wr.ownsRow 0 125 1 (.slice (some ⟨g, 0, none⟩) (l.length + 1) c2) (l.length + 1) ((shiftAt l x i).flatMap Name.cells) ∧ Fr (· = g) w4 wr) (fun s wr => (intOf s).toNat)
 case atStart => exact ⟨l.length, by go_num, hrk, Nat.le_refl _, HR4.out, Fr.refl _ _⟩
 case round =>
  obtain ⟨i, rfl, hi1, hi2, hown, hfr⟩ := hrel
  have hgw : g < wr.heap.size := (hown.lt g rfl).2
  have r0 : wr.cell? ⟨b, 0, none⟩ = some (.slice (some ⟨g, 0, none⟩) (l.length + 1) c2) := (hfr.cell (p := ⟨b, 0, none⟩) HB4.out.lt (fun h => hgb h.symm)).trans s4'
  have fz : ∀ o, wr.frozen? ⟨g, o, none⟩ = false := fun o => hown.frozenAt o
  have HOW := Lib.hid hown
  have HFR := Lib.hid hfr
  clear hown hfr
  by_cases hlt : rank cmpName l x < i
  · obtain ⟨j, rfl⟩ : ∃ j, i = j + 1 := ⟨i - 1, by omega⟩
    have hj : j < l.length := by omega
    have hrd := ownsRow_rd (A := some ⟨g, 0, none⟩) (c := c2) (l := shiftAt l x (j + 1)) Name.cells_length (by rw [shiftAt_length l x hi2]; exact HOW.out)
    obtain ⟨g', o', hgo, _, hcell⟩ := hrd.at_ (k := j) (by rw [shiftAt_length l x hi2]; omega)
    injection hgo with hgo
    injection hgo with hg1 hg2
    subst hg1; subst hg2
    rw [shiftAt_read l x hj] at hcell
    have q0 : wr.cell? ⟨g, j, none⟩ = some (.string l[j]) := by simpa using hcell 0 _ rfl
    have rmj : Room wr g 125 (c2 * 1) ∧ l.length + 1 ≤ c2 := by
     rcases ownsRow_form HOW.out with ⟨hv, _⟩ | ⟨g', cap, hv, hn, _, hr, _⟩
     · cases hv
     · injection hv with hA _ hc
       injection hA with hA
       injection hA with hA
       subst hA; subst hc
       exact ⟨hr, hn⟩
    obtain ⟨hrm, hcap⟩ := rmj
    obtain ⟨u0, t0⟩ := hrm.cell (i := (j + 1)) (by omega)
    have b0 : (0 : Int) ≤ (j : Int) + 1 := by omega
    have b1 : (0 : Int) ≤ (j : Int) := by omega
    have b4 : (j : Int) < (l.length : Int) := by omega
    have b2 : (j : Int) < (l.length : Int) + 1 := by omega
    have b3 : (j : Int) + 1 < (l.length : Int) + 1 := by omega
    have w1 : IntKind.i64.wrap ((j : Int)) = (j : Int) := IntWalk.i64_in _ (by omega)
    have w2 : IntKind.i64.wrap ((j : Int) + 1 - 1) = (j : Int) := by rw [IntWalk.i64_in _ (by omega)]; omega
    clear hcell hrd hrm
    obtain ⟨y, hy⟩ : ∃ y, y = l[j] := ⟨_, rfl⟩
    rw [← hy] at q0
    have HY := Lib.hid hy
    have hbw : b < wr.heap.size := World.block_lt_of_cell? wr _ r0
    clear hy
    go_wp2_with fail
    refine wp_region_E (fun w9 => Below wr.heap.size wr w9) [(0, 0), (1, 0), (2, 0), (3, 1), (4, 0), (5, 0), (6, 0), (7, 0), (8, 1), (9, 0), (10, 0), (11, 0), (12, 1), (13, 0), (14, 2)] (by kernel_rfl) (by kernel_rfl) (fun KK hKK => ?_)
    simp only [beside, List.filterMap_cons, List.filterMap_nil, List.getElem?_toArray, List.getElem?_cons_zero, List.getElem?_cons_succ, Option.map_some]
    repeat ((first | (refine wpX_w ?_ (Or.inl ⟨by rfl, fun w9 => ?_⟩) ?_; rotate_left 1; go_simp; with_reducible rfl) | (refine wpX_l ?_ (((Below.refl _ _).drew)) (Or.inl ⟨by rfl, fun w9 hw9 => ?_⟩) ?_; rotate_left 1; obtain ⟨hc9, hf9⟩ := bcell hw9; go_simp; with_reducible rfl) | refine wpX_w undef (Or.inr ⟨by rfl, rfl⟩) ?_ | refine wpX_l undef (((Below.refl _ _).drew)) (Or.inr ⟨by rfl, rfl⟩) ?_); go_frame)
    refine wpX_e (by kernel_rfl) (fun K9 hK9 => ?_)
    go_simp
    refine hK9 _ _ ?_
    clear hK9 K9
    refine wpX_nil ?_
    simp only [OnlyN_normal]
    refine hKK _ _ ?_
    clear hKK KK
    go_wp2_with fail
    go_roundw
    case rel =>
     refine ⟨j, by go_num, by omega, by omega, ?_, Fr.drew ((HFR.out).setCell (p := ⟨g, (j + 1), none⟩) (.inl rfl) (_))⟩
     have hst := ((HOW.out).stored ((j + 1)) (.string y)).1
     have he : setAll ((shiftAt l x (j + 1)).flatMap Name.cells) ((j + 1)) (Name.cells y) = (shiftAt l x j).flatMap Name.cells := by
      rw [flat_set1 Name.cells_length (by omega) _ (j + 1) (by rw [shiftAt_length l x hi2]; omega), HY.out, shiftAt_step l x hj]
     rw [← he]
     exact hst
    case measure => simp [intOf] <;> omega
  · obtain rfl : i = rank cmpName l x := by omega
    have rmj : Room wr g 125 (c2 * 1) ∧ l.length + 1 ≤ c2 := by
     rcases ownsRow_form HOW.out with ⟨hv, _⟩ | ⟨g', cap, hv, hn, _, hr, _⟩
     · cases hv
     · injection hv with hA _ hc
       injection hA with hA
       injection hA with hA
       subst hA; subst hc
       exact ⟨hr, hn⟩
    obtain ⟨hrm, hcap⟩ := rmj
    obtain ⟨k, hk⟩ : ∃ k, k = rank cmpName l x := ⟨_, rfl⟩
    rw [← hk] at hi2 hlt ⊢
    obtain ⟨u0, t0⟩ := hrm.cell (i := k) (by omega)
    have b1 : (0 : Int) ≤ (k : Int) := by omega
    have b2 : (k : Int) < (l.length : Int) + 1 := by omega
    have HK := Lib.hid hk
    have hbw : b < wr.heap.size := World.block_lt_of_cell? wr _ r0
    clear hrm hk 
    go_wp2_with fail
    go_ret
    have HOWk := HOW.out
    rw [← HK.out] at HOWk
    have hst := ((HOWk).stored (k) (.string x)).1
    have he : setAll ((shiftAt l x k).flatMap Name.cells) (k) (Name.cells x) = (put cmpName l x).flatMap Name.cells := by
     rw [flat_set1 Name.cells_length (by omega) _ k (by rw [shiftAt_length l x hi2]; omega), shiftAt_end l x hi2, put_eq tc_name HO.out hh, HK.out]
    have hln := length_put tc_name HO.out hh
    refine ⟨by rw [hh]; rfl, false, some ⟨g, 0, none⟩, c2, ⟨?_, ?_⟩, ?_, ?_⟩
    · rw [hln]
      exact (HB4.out.fr HFR.out (fun h => hgb h.symm)).far (p := ⟨g, k, none⟩) (fun h => hgb h.symm) _
    · rw [hln, ← he]
      exact hst
    · exact HF4.out.into (((HFR.out).setCell (p := ⟨g, k, none⟩) (.inl rfl) (_))) (fun k hk => by subst hk; exact HgM.out)
    · exact HgMv.out
theorem put_Name (b c : Nat) (sn : Bool) (A : Option Addr) (l : List Name) (x : Name) (w : World) (hS : NameSet w b sn A c l) (hs : Srt cmpName l) (hl : (l.length : Int) ≤ 100000000) :
 Calls Tryz.prog 97 #[.pointer (some ⟨b, 0, none⟩), .string x] w (PutPostName w b sn A l x) := by
 cases hh : has cmpName l x
 · exact put_new_Name b c sn A l x w hS hs hl hh
 · exact put_there_Name b c sn A l x w hS hs hl hh
end Go.Proofs.YtpndmjabjjbefaaGreat
namespace Go.Proofs.YtpndmjabjjbefaaGreat
open Go.RowKit
set_option maxRecDepth 100000 in
set_option maxHeartbeats 400000 in
theorem place_Name (b c : Nat) (sn : Bool) (A : Option Addr) (l : List Name) (x : Name) (w : World) (hS : NameSet w b sn A c l) (hs : Srt cmpName l) (hl : (l.length : Int) ≤ 1000000000) :
 Calls Tryz.prog 123 #[.pointer (some ⟨b, 0, none⟩), .string x] w (FoundName l x w) := by
 have HS := Lib.hid hS
 have HO := Lib.hid hs
 clear hS hs
 go_enter Tryz.func123, Tryz.ntmps123
 go_wp2_with fail
 refine (find_Name b c sn A l x _ (HS.out.new_ (Below.refl _ _)) HO.out (by omega)).mono ?_
 rintro e w1 ⟨rfl, hb1⟩
 go_wp2_with fail
 go_ret2
 exact ⟨rfl, (Below.refl _ _).trans (hb1.mono (by simp))⟩
def ClonePostName (w : World) (b : Nat) (A : Option Addr) (c : Nat) (l : List Name) (e : Ending) (w' : World) : Prop :=
 ∃ k, e = .returned (.pointer (some ⟨k, 0, none⟩)) ∧ w.heap.size ≤ k ∧ NameSet w' b true A c l ∧ NameSet w' k true A c l ∧ Fr (· = b) w w'
set_option maxRecDepth 100000 in
set_option maxHeartbeats 1000000 in
theorem clone_Name (b c : Nat) (sn : Bool) (A : Option Addr) (l : List Name) (w : World) (hS : NameSet w b sn A c l) :
 Calls Tryz.prog 120 #[.pointer (some ⟨b, 0, none⟩)] w (ClonePostName w b A c l) := by
 have s0 := hS.cell0
 have s1 := hS.cell1
 have f1 := hS.blk.frozen 1
 have hb := hS.lt
 have HS := Lib.hid hS
 clear hS
 go_enter Tryz.func120, Tryz.ntmps120
 go_wp2
 go_ret
 have h1 : NameSet (w.setCell ⟨b, 1, none⟩ (.bool true)) b true A c l := ⟨HS.out.blk.set_ 1 _, ownsRow_setCell_other HS.out.row (own_blk_ne HS.out.row HS.out.blk (by decide)) _⟩
 refine ⟨w.heap.size, by simp, Nat.le_refl _, h1.new_ ((Below.refl _ _).alloc (Nat.le_refl _) _), ⟨?_, ownsRow_new h1.row ((Below.refl _ _).alloc (Nat.le_refl _) _)⟩, ((Fr.refl (· = b) w).setCell (p := ⟨b, 1, none⟩) (.inl rfl) _).alloc _⟩
 have h2 := Blk.new (w.setCell ⟨b, 1, none⟩ (.bool true)) 155 #[.slice A l.length c, .bool true]
 simpa using h2
end Go.Proofs.YtpndmjabjjbefaaGreat
namespace Go.Proofs.YtpndmjabjjbefaaGreat
open Go.RowKit
def NewPostName (w : World) (xs : List Name) (e : Ending) (w' : World) : Prop :=
 ∃ k, e = .returned (.pointer (some ⟨k, 0, none⟩)) ∧ w.heap.size ≤ k ∧ ∃ sn A c, NameSet w' k sn A c (puts cmpName [] xs) ∧ AIn A (w.heap.size ≤ ·) ∧ Below w.heap.size w w'
set_option maxRecDepth 100000 in
set_option maxHeartbeats 2000000 in
theorem new_Name (A : Option Addr) (c : Nat) (xs : List Name) (w : World) (hrd : RowRd w 1 Name.cells A c xs) (hl : (xs.length : Int) ≤ 10000000) :
 Calls Tryz.prog 70 #[.slice A xs.length c] w (NewPostName w xs) := by
 have HRD := Lib.hid hrd
 clear hrd
 go_enter Tryz.func70, Tryz.ntmps70
 go_wp2_with fail
 obtain ⟨W0, hW0⟩ : ∃ W0, W0 = w.alloc (.cells #[.slice none 0 0, .bool false] 155) := ⟨_, rfl⟩
 have hb0 : Below w.heap.size w W0 := by rw [hW0]; exact (Below.refl _ _).alloc (Nat.le_refl _) _
 have hS0 : NameSet W0 w.heap.size false none 0 [] := ⟨by rw [hW0]; exact Blk.new _ _ _, ⟨by simp, .inl ⟨rfl, rfl⟩⟩⟩
 rw [← hW0]
 clear hW0
 have HB0 := Lib.hid hb0
 have HS0 := Lib.hid hS0
 clear hb0 hS0
 go_loopw [10] (fun s wr => ∃ i : Nat, s = .int .i64 i ∧ i ≤ xs.length ∧ ∃ sn A' c', NameSet wr w.heap.size sn A' c' (puts cmpName [] (xs.take i)) ∧ AIn A' (w.heap.size ≤ ·) ∧ Below w.heap.size w wr) (fun s wr => xs.length - (intOf s).toNat)
 case atStart => exact ⟨0, rfl, Nat.zero_le _, false, none, 0, HS0.out, AIn.none_ _, HB0.out⟩
 case round =>
  obtain ⟨i, rfl, hi, sn, A', c', hS, hA', hB⟩ := hrel
  have HS := Lib.hid hS
  have HA := Lib.hid hA'
  have HB := Lib.hid hB
  clear hS hA' hB
  by_cases hlt : i < xs.length
  · obtain ⟨x, hx⟩ : ∃ x, x = xs[i] := ⟨_, rfl⟩
    obtain ⟨g, off, rfl, hgs, hcell⟩ := (HRD.out.fr (Fr.of_new (M := fun _ => False) HB.out) (fun _ _ h => h)).at_ hlt
    rw [← hx] at hcell
    have q0 : wr.cell? ⟨g, off + i, none⟩ = some (.string x) := by simpa using hcell 0 _ rfl
    have b1 : (0 : Int) ≤ (i : Int) := by omega
    have b2 : (i : Int) < (xs.length : Int) := by omega
    have HX := Lib.hid hx
    clear hcell hx
    go_wp2_with fail
    have hsr := Srt.puts tc_name (xs.take i) (Srt.nil (cmp := cmpName))
    have hlen : (((puts cmpName [] (xs.take i)).length : Nat) : Int) ≤ 100000000 := by
     have := length_puts_le tc_name (xs.take i) (Srt.nil (cmp := cmpName))
     simp at this
     omega
    refine (put_Name w.heap.size c' sn A' _ x _ (HS.out.new_ (Below.refl _ _)) hsr hlen).mono ?_
    rintro e w1 ⟨rfl, sn2, A2, c2, hS2, hF2, hM2⟩
    have hB1 : Below w.heap.size w w1 := (HB.out).trans (hF2.below (by have := HB.out.size; (try simp); omega) (fun k hk hm => by
     rcases hm with hm | ⟨_, a, ha, hm⟩
     · omega
     · have := HA.out a ha; omega))
    have hA2 : AIn A2 (w.heap.size ≤ ·) := by
     rcases hM2 with ⟨_, rfl⟩ | ⟨_, g2, hg2, rfl⟩
     · exact HA.out
     · intro a ha; cases ha; have := HB.out.size; (try simp at hg2 ⊢); omega
    have HS2 := Lib.hid hS2
    have HB1 := Lib.hid hB1
    have HA2 := Lib.hid hA2
    clear hS2 hB1 hA2 hF2 hM2 hsr hlen q0
    go_wp2_with fail
    go_roundw
    case rel =>
     refine ⟨i + 1, by go_num, by omega, sn2, A2, c2, ?_, HA2.out, HB1.out⟩
     rw [List.take_add_one, List.getElem?_eq_getElem hlt, ← HX.out]
     simp only [Option.toList_some, puts_snoc]
     exact HS2.out
    case measure => simp [intOf] <;> omega
  · have hie : i = xs.length := by omega
    subst hie
    go_wp2_with fail
    go_ret
    refine ⟨w.heap.size, rfl, Nat.le_refl _, sn, A', c', ?_, HA.out, HB.out⟩
    have := HS.out
    rwa [List.take_length] at this
end Go.Proofs.YtpndmjabjjbefaaGreat
namespace Go.Proofs.YtpndmjabjjbefaaGreat
open Go.RowKit
abbrev NameSets := Sets (α := Name) 155 125 1 Name.cells cmpName
section
variable {D : Nat → Prop} {w : World} {S : Nat → Option (List Name)} {σ : Nat → St} {b : Nat} {l : List Name}
def ChangedName (D : Nat → Prop) (w : World) (S : Nat → Option (List Name)) (σ : Nat → St) (b : Nat) (l : List Name) (w' : World) : Prop :=
 ∃ σ', NameSets D w' (upd S b (some l)) σ' ∧ (∀ k, k ≠ b → σ' k = σ k) ∧ Fr (fun k => ¬ D k) w w' ∧ Fr (SetMod b (σ b).sn (σ b).A) w w'
theorem sPut_Name (x : Name) (h : NameSets D w S σ) (hb : S b = some l) (hl : (l.length : Int) ≤ 100000000) :
 Calls Tryz.prog 97 #[.pointer (some ⟨b, 0, none⟩), .string x] w fun e w' => e = .returned (.bool (!has cmpName l x)) ∧ ChangedName D w S σ b (put cmpName l x) w' := by
 refine (put_Name b _ _ _ l x w (h.at_ b l hb) (h.srt b l hb) hl).mono ?_
 rintro e w' ⟨he, sn', A', c', h1, hF, hM⟩
 exact ⟨he, _, h.moved (by decide) hb h1 ((h.srt b l hb).put tc_name x) hF hM, fun k hk => upd_ne _ _ hk, h.mod hb hF, hF⟩
def MadeName (D : Nat → Prop) (w : World) (S : Nat → Option (List Name)) (_ : Nat → St) (l : List Name) (e : Ending) (w' : World) : Prop :=
 ∃ k, e = .returned (.pointer (some ⟨k, 0, none⟩)) ∧ w.heap.size ≤ k ∧ (∀ b l, S b = some l → b ≠ k) ∧ ∃ σ', NameSets D w' (upd S k (some l)) σ' ∧ Fr (fun k => ¬ D k) w w'
theorem sNew_Name (A : Option Addr) (c : Nat) (xs : List Name) (h : NameSets D w S σ) (hrd : RowRd w 1 Name.cells A c xs) (hl : (xs.length : Int) ≤ 10000000) :
 Calls Tryz.prog 70 #[.slice A xs.length c] w fun e w' => MadeName D w S σ (puts cmpName [] xs) e w' ∧ Below w.heap.size w w' := by
 refine (new_Name A c xs w hrd hl).mono ?_
 rintro e w' ⟨k, he, hk, sn, A', c', h1, hA, hB⟩
 exact ⟨⟨k, he, hk, fun b l hb e => by have := h.lt hb; omega, _, h.add hk h1 (Srt.puts tc_name xs Srt.nil) (.inl hA) hB, Fr.of_new hB⟩, hB⟩
theorem sClone_Name (h : NameSets D w S σ) (hb : S b = some l) :
 Calls Tryz.prog 120 #[.pointer (some ⟨b, 0, none⟩)] w fun e w' => ∃ k, e = .returned (.pointer (some ⟨k, 0, none⟩)) ∧ w.heap.size ≤ k ∧ (∀ b l, S b = some l → b ≠ k) ∧
  ∃ σ', NameSets D w' (upd S k (some l)) σ' ∧ (∀ j, j ≠ k → j ≠ b → σ' j = σ j) ∧ (σ' b).sn = true ∧ (σ' b).A = (σ b).A ∧ (σ' k).sn = true ∧ (σ' k).A = (σ b).A ∧ Fr (fun k => ¬ D k) w w' ∧ Fr (· = b) w w' := by
 refine (clone_Name b _ _ _ l w (h.at_ b l hb)).mono ?_
 rintro e w' ⟨k, he, hk, h1, h2, hF⟩
 have hnb : b ≠ k := fun e => by have := h.lt hb; omega
 have hD : Fr (fun k => ¬ D k) w w' := hF.mono (fun k _ hk => by rw [hk]; exact (h.out b l hb).1)
 have hs := h.seen (by decide) hb h1 hF
 have hrow := (h.at_ b l hb).row_lt
 refine ⟨k, he, hk, fun b l hb e => by have := h.lt hb; omega, upd (upd σ b ⟨true, (σ b).A, (σ b).c⟩) k ⟨true, (σ b).A, (σ b).c⟩, ⟨fun j m hj => ?_, fun j m hj => ?_, fun j m hj => ?_, fun j m j' m' hj hj' hjj hsj a a' ha ha' => ?_, hs.low⟩, fun j h1 h2 => by rw [upd_ne _ _ h1, upd_ne _ _ h2], by rw [upd_ne _ _ hnb, upd_same], by rw [upd_ne _ _ hnb, upd_same], by rw [upd_same], by rw [upd_same], hD, hF⟩
 · by_cases e : j = k
   · subst e; rw [upd_same] at hj ⊢; cases hj; exact h2
   · rw [upd_ne _ _ e] at hj ⊢; exact hs.at_ j m hj
 · by_cases e : j = k
   · subst e; rw [upd_same] at hj; cases hj; exact h.srt b l hb
   · rw [upd_ne _ _ e] at hj; exact h.srt j m hj
 · by_cases e : j = k
   · subst e; rw [upd_same] at hj ⊢; cases hj
     exact ⟨fun hd => by have := h.low _ hd; omega, fun hs2 => by cases hs2⟩
   · rw [upd_ne _ _ e] at hj ⊢; exact hs.out j m hj
 · by_cases e : j = k
   · subst e; rw [upd_same] at hsj; cases hsj
   · rw [upd_ne _ _ e] at hj hsj ha
     by_cases e2 : j' = k
     · subst e2
       rw [upd_same] at ha'
       by_cases e3 : j = b
       · subst e3; rw [upd_same] at hsj; cases hsj
       · exact hs.apart j m b l hj hb e3 hsj a a' ha (by rw [upd_same]; exact ha')
     · rw [upd_ne _ _ e2] at hj' ha'
       exact hs.apart j m j' m' hj hj' hjj hsj a a' ha ha'
end
end Go.Proofs.YtpndmjabjjbefaaGreat
namespace Go.Proofs.YtpndmjabjjbefaaGreat
open Go.RowKit Go.Shelf
structure KnS (W : World) (S : Nat → Option (List Name)) (kb sb : Nat) (K : Kn) (A : Option Addr) (c : Nat) : Prop where
 blk : Blk W kb 127 #[.pointer (some ⟨sb, 0, none⟩), .slice A K.2.length c]
 row : W.ownsRow 0 9 1 (.slice A K.2.length c) K.2.length (K.2.map Value.string)
 set : S sb = some K.1
set_option maxHeartbeats 2000000 in
theorem khas_is {D : Nat → Prop} {W : World} {S : Nat → Option (List Name)} {σ : Nat → St} {kb sb : Nat} {K : Kn} {A : Option Addr} {c : Nat} (v : ByteArray) (hN : NameSets D W S σ) (hK : KnS W S kb sb K A c) (hl : (K.1.length : Int) ≤ 1000000) :
 Calls Tryz.prog 100 #[.pointer (some ⟨kb, 0, none⟩), .string v] W fun e W' => e = .returned (.bool (hasK K v)) ∧ Below W.heap.size W W' := by
 have s0 : W.cell? ⟨kb, 0, none⟩ = some (.pointer (some ⟨sb, 0, none⟩)) := (hK.blk.cell 0).trans rfl
 have hkl := hK.blk.lt
 have HS := Lib.hid (hN.at_ sb K.1 hK.set)
 have HO := Lib.hid (hN.srt sb K.1 hK.set)
 clear hN hK
 go_enter Tryz.func100, Tryz.ntmps100
 go_wp2_with fail
 refine (place_Name sb _ _ _ K.1 v _ HS.out HO.out (by omega)).mono ?_
 rintro e w1 ⟨rfl, hb1⟩
 go_wp2_with fail
 go_ret
 exact ⟨rfl, hb1⟩
set_option maxHeartbeats 2000000 in
theorem kinner_is {D : Nat → Prop} {W : World} {S : Nat → Option (List Name)} {σ : Nat → St} {kb sb : Nat} {K : Kn} {A : Option Addr} {c : Nat} (hN : NameSets D W S σ) (hK : KnS W S kb sb K A c) :
 Calls Tryz.prog 98 #[.pointer (some ⟨kb, 0, none⟩)] W fun e W' => ∃ kb' sb', e = .returned (.pointer (some ⟨kb', 0, none⟩)) ∧ W.heap.size ≤ kb' ∧ W.heap.size ≤ sb' ∧ (∃ σ', NameSets D W' (upd S sb' (some K.1)) σ') ∧ KnS W' (upd S sb' (some K.1)) kb' sb' (K.1, []) none 0 ∧ Fr (fun j => ¬ D j) W W' ∧ Fr (· = sb) W W' := by
 have s0 : W.cell? ⟨kb, 0, none⟩ = some (.pointer (some ⟨sb, 0, none⟩)) := (hK.blk.cell 0).trans rfl
 have hkl := hK.blk.lt
 have HN := Lib.hid hN
 have HS := Lib.hid hK.set
 clear hN hK
 go_enter Tryz.func98, Tryz.ntmps98
 go_wp2_with fail
 refine (sClone_Name HN.out HS.out).mono ?_
 rintro e w1 ⟨k, rfl, hk, _, σ', h1, _, _, _, _, _, hF, hFb⟩
 have H1 := Lib.hid h1
 have HF := Lib.hid hF
 have HFb := Lib.hid hFb
 clear h1 hF hFb
 go_wp2_with fail
 go_ret
 have hn : Below w1.heap.size w1 (w1.alloc (.cells #[.pointer (some ⟨k, 0, none⟩), .slice none 0 0] 127)) := (Below.refl _ _).alloc (Nat.le_refl _) _
 exact ⟨w1.heap.size, k, rfl, HF.out.size, hk, ⟨σ', H1.out.below hn⟩, ⟨Blk.new _ _ _, owns_nil _ _ _ _, upd_same _ _ _⟩, HF.out.trans (Fr.of_new hn), HFb.out.trans (Fr.of_new hn)⟩
end Go.Proofs.YtpndmjabjjbefaaGreat
namespace Go.Proofs.YtpndmjabjjbefaaGreat
open Go.RowKit Go.Shelf
theorem Sets.off_of {α : Type} {tSet tE size : Nat} {cells : α → List Value} {cmp : α → α → Int} {D : Nat → Prop} {w : World} {S : Nat → Option (List α)} {σ : Nat → St} {k : Nat} {t : TypeId} {cs : Array Value} (h : Sets tSet tE size cells cmp D w S σ) (hB : Blk w k t cs) (n1 : t ≠ tSet) (n2 : t ≠ tE) : Off k S σ :=
 fun b l hb => ⟨fun e => hB.ne_ (h.at_ b l hb).blk n1 e.symm, fun a ha e => by
  have := own_blk_ne (h.at_ b l hb).row hB (Ne.symm n2)
  rw [ha] at this
  exact this (by simp [Value.ownBlock, e])⟩
theorem Sets.offM {α : Type} {tSet tE size : Nat} {cells : α → List Value} {cmp : α → α → Int} {D M : Nat → Prop} {w w' : World} {S : Nat → Option (List α)} {σ : Nat → St} (h : Sets tSet tE size cells cmp D w S σ) (ho : ∀ q, M q → Off q S σ) (hF : Fr M w w') : Sets tSet tE size cells cmp D w' S σ :=
 ⟨fun b l hb => (h.at_ b l hb).fr hF (fun hd => (ho b hd b l hb).1 rfl) (fun a ha hd => (ho _ hd b l hb).2 a ha rfl), h.srt, h.out, h.apart, fun k hk => Nat.lt_of_lt_of_le (h.low k hk) hF.size⟩
theorem owns_far {α : Type} {tSet tE size : Nat} {cells : α → List Value} {w w' : World} {b : Nat} {sn : Bool} {A : Option Addr} {c : Nat} {l : List α} {e sz n : Nat} {v : Value} {xs : List Value} (hS : SetAt tSet tE size cells w b sn A c l) (h : w.ownsRow 0 e sz v n xs) (n1 : e ≠ tSet) (n2 : e ≠ tE) (hF : Fr (SetMod b sn A) w w') : w'.ownsRow 0 e sz v n xs :=
 ⟨h.1, h.2.imp id fun ⟨g, cap, cur, hv, h0, hg, hr⟩ => ⟨g, cap, cur, hv, h0, Blk.fr (t := e) hg hF (blk_far hS hg n1 n2), hr⟩⟩
theorem news_one {Y : World} {t : TypeId} {cs : List Value} {k : Nat} (hk : Y.heap.size = k) : ∀ (j : Nat) (u : Value), cs[j]? = some u → (Y.alloc (.cells cs.toArray t)).cell? ((⟨k, 0, none⟩ : Addr).add j) = some u := by
 subst hk
 exact World.news_of_block (heap_alloc_new _ _)
def MetTo (D : Nat → Prop) (W : World) (S : Nat → Option (List Name)) (kb sb : Nat) (K : Kn) (v : ByteArray) (W' : World) : Prop :=
 ∃ σ' A' c', NameSets D W' (upd S sb (some (metK K v).1)) σ' ∧ KnS W' (upd S sb (some (metK K v).1)) kb sb (metK K v) A' c' ∧ AIn A' (fun j => ¬ D j) ∧ Fr (fun j => ¬ D j) W W'
theorem info_str : (Tryz.prog.info? 9).map (fun i => (i.zero, i.size, i.bytes)) = some (some (.string ⟨#[]⟩), 1, 16) := by kernel_rfl
set_option maxRecDepth 100000 in
set_option maxHeartbeats 4000000 in
theorem kmet_is {D : Nat → Prop} {W : World} {S : Nat → Option (List Name)} {σ : Nat → St} {kb sb : Nat} {K : Kn} {A : Option Addr} {c : Nat} (v : ByteArray) (hN : NameSets D W S σ) (hK : KnS W S kb sb K A c) (hkD : ¬ D kb) (hAD : AIn A (fun j => ¬ D j)) (hl : (K.1.length : Int) ≤ 1000000) (hl2 : (K.2.length : Int) ≤ 1000000) :
 Calls Tryz.prog 121 #[.pointer (some ⟨kb, 0, none⟩), .string v] W fun e W' => e = .returned (.tuple #[]) ∧ MetTo D W S kb sb K v W' := by
 obtain ⟨i0, hi0, hz0, hz1, hz2⟩ := info_parts info_str
 have s0 : W.cell? ⟨kb, 0, none⟩ = some (.pointer (some ⟨sb, 0, none⟩)) := (hK.blk.cell 0).trans rfl
 have hkl := hK.blk.lt
 have HN := Lib.hid hN
 have HK := Lib.hid hK
 have HAD := Lib.hid hAD
 have HKD := Lib.hid hkD
 have HSA := Lib.hid (hN.at_ sb K.1 hK.set)
 clear hN hK hAD hkD
 go_enter Tryz.func121, Tryz.ntmps121
 go_wp2_with fail
 refine (sPut_Name v HN.out HK.out.set (by omega)).mono ?_
 rintro e w1 ⟨rfl, σ', h1, _, hF, hFb⟩
 have hkb1 := HK.out.blk.fr hFb (blk_far HSA.out HK.out.blk (by decide) (by decide))
 have hrw1 := owns_far HSA.out HK.out.row (by decide) (by decide) hFb
 have H1 := Lib.hid h1
 have HF := Lib.hid hF
 have HKB := Lib.hid hkb1
 have HRW := Lib.hid hrw1
 clear h1 hF hFb
 cases hh : has cmpName K.1 v
 · have hm : metK K v = (put cmpName K.1 v, K.2 ++ [v]) := by unfold metK; rw [hh]; rfl
   have HM := Lib.hid hm
   have s1 : w1.cell? ⟨kb, 1, none⟩ = some (.slice A K.2.length c) := (hkb1.cell 1).trans rfl
   have f1 := hkb1.frozen 1
   have hkl1 := hkb1.lt
   have hlt1 := HF.out.size
   clear hm hh hkb1 hrw1 s0
   go_wp2_with (at_builtin; refine wpList_append_src _ rfl (.tmp 14) (.tmp 16) 47 rfl 9 i0 _ 1 16 Tryz.underlying47 hi0 hz0 hz1 hz2 rfl (by omega) (.slice A K.2.length c) K.2.length (K.2.map Value.string) rfl (ownsRow_new HRW.out ((Below.refl _ _).alloc (Nat.le_refl _) _)) _ 1 1 [Value.string v] rfl rfl (fun _ => ⟨_, rfl, news_one (by simp)⟩) (by intro u hu; simp at hu; subst hu; rfl) (by unfold maxLen; omega) (by omega) ?_; intro v' w4 hown hg hnil hat; obtain ⟨A', c', rfl, _, _, _⟩ := own_form2 hown; have hkb4 := (HKB.out.alloc (.cells #[.string v] 9)).grown hg (own_blk_ne HRW.out HKB.out (by decide)); have s1 := (hkb4.cell 1).trans rfl; have f1 := hkb4.frozen 1; have hkl1 := hkb4.lt; have HKB4 := Lib.hid hkb4; have HO4 := Lib.hid hown; have HG4 := Lib.hid hg; have HAT := Lib.hid hat; clear hkb4 hown hg hnil hat)
   go_end0
   refine ⟨rfl, ?_⟩
   unfold MetTo
   rw [HM.out]
   have hfr : Fr (fun j => (Value.slice A K.2.length c).ownBlock = some j ∨ j = kb) w1 (w4.setCell ⟨kb, 1, none⟩ (.slice A' (K.2.length + 1) c')) := (((Fr.refl _ w1).alloc _).grown HG4.out (fun k hk => .inl (.inl hk))).setCell (p := ⟨kb, 1, none⟩) (.inl (.inr rfl)) _
   have hoff : ∀ k, ((Value.slice A K.2.length c).ownBlock = some k ∨ k = kb) → Off k (upd S sb (some (put cmpName K.1 v))) σ' := by
    intro k hk
    rcases hk with hk | rfl
    · rcases HRW.out.2 with ⟨hv, _⟩ | ⟨g, cap, cur, hv, _, hg, _⟩
      · rw [hv] at hk; simp [Value.ownBlock] at hk
      · rw [hv] at hk
        have e : g = k := by simpa [Value.ownBlock] using hk
        subst e
        exact H1.out.off_of (t := 9) hg (by decide) (by decide)
    · exact H1.out.off_of HKB.out (by decide) (by decide)
   refine ⟨σ', A', c', H1.out.offM hoff hfr, ⟨?_, ?_, upd_same _ _ _⟩, ?_, HF.out.trans (hfr.mono (fun j _ hj => ?_))⟩
   · have := HKB4.out.set_ 1 (.slice A' (K.2.length + 1) c')
     rw [List.length_append]
     exact this
   · have h9 := ownsRow_setCell_other (a := ⟨kb, 1, none⟩) HO4.out (own_blk_ne HO4.out HKB4.out (by decide)) (.slice A' (K.2.length + 1) c')
     rw [List.length_append, List.map_append]
     exact h9
   · intro a ha hd
     subst ha
     have hlow := H1.out.low _ hd
     rcases HAT.out with h | h
     · rcases A with _ | b
       · simp [Value.ownBlock] at h
       · have e : a.block = b.block := by simpa [Value.ownBlock] using h
         exact HAD.out b rfl (e ▸ hd)
     · have e : a.block = w1.heap.size + 1 := by simpa [Value.ownBlock] using h
       omega
   · rcases hj with hj | rfl
     · rcases A with _ | b
       · simp [Value.ownBlock] at hj
       · have e : b.block = j := by simpa [Value.ownBlock] using hj
         exact fun hd => HAD.out b rfl (e ▸ hd)
     · exact HKD.out
 · have hm : metK K v = (put cmpName K.1 v, K.2) := by unfold metK; rw [hh]; rfl
   have HM := Lib.hid hm
   clear hm hh
   go_wp2_with fail
   go_end0
   refine ⟨rfl, ?_⟩
   unfold MetTo
   rw [HM.out]
   exact ⟨σ', A, c, H1.out, ⟨HKB.out, HRW.out, upd_same _ _ _⟩, HAD.out, HF.out⟩
end Go.Proofs.YtpndmjabjjbefaaGreat
namespace Go.Proofs.YtpndmjabjjbefaaGreat
open Go.RowKit Go.Shelf
theorem upd_twice {α : Type} (S : Nat → α) (b : Nat) (x y : α) : upd (upd S b x) b y = upd S b y := by
 funext k
 by_cases e : k = b
 · subst e; rw [upd_same, upd_same]
 · rw [upd_ne _ _ e, upd_ne _ _ e, upd_ne _ _ e]
def KSt (D : Nat → Prop) (W : World) (S : Nat → Option (List Name)) (kb sb : Nat) (K : Kn) (W' : World) : Prop :=
 ∃ σ' A' c', NameSets D W' (upd S sb (some K.1)) σ' ∧ KnS W' (upd S sb (some K.1)) kb sb K A' c' ∧ AIn A' (fun j => ¬ D j) ∧ Fr (fun j => ¬ D j) W W'
theorem KSt.below {D : Nat → Prop} {W W1 W2 : World} {S : Nat → Option (List Name)} {kb sb : Nat} {K : Kn} (h : KSt D W S kb sb K W1) (hb : Below W1.heap.size W1 W2) : KSt D W S kb sb K W2 := by
 obtain ⟨σ', A', c', h1, h2, h3, h4⟩ := h
 exact ⟨σ', A', c', h1.below hb, ⟨h2.blk.new_ hb, ownsRow_new h2.row hb, h2.set⟩, h3, h4.trans (Fr.of_new hb)⟩
theorem metK_len (K : Kn) (v : ByteArray) (hs : Srt cmpName K.1) : (metK K v).1.length ≤ K.1.length + 1 ∧ (metK K v).2.length ≤ K.2.length + 1 := by
 unfold metK
 cases h : has cmpName K.1 v
 · simp [length_put tc_name hs h]
 · simp [put_has h]
theorem KSt.met {D : Nat → Prop} {W W1 : World} {S : Nat → Option (List Name)} {kb sb : Nat} {K : Kn} (v : ByteArray) (h : KSt D W S kb sb K W1) (hkD : ¬ D kb) (hl : (K.1.length : Int) ≤ 1000000) (hl2 : (K.2.length : Int) ≤ 1000000) :
 Calls Tryz.prog 121 #[.pointer (some ⟨kb, 0, none⟩), .string v] W1 fun e W' => e = .returned (.tuple #[]) ∧ KSt D W S kb sb (metK K v) W' ∧ (metK K v).1.length ≤ K.1.length + 1 ∧ (metK K v).2.length ≤ K.2.length + 1 := by
 obtain ⟨σ', A', c', h1, h2, h3, h4⟩ := h
 refine (kmet_is v h1 h2 hkD h3 hl hl2).mono ?_
 rintro e W' ⟨he, σ2, A2, c2, g1, g2, g3, g4⟩
 rw [upd_twice] at g1 g2
 exact ⟨he, ⟨σ2, A2, c2, g1, g2, g3, h4.trans g4⟩, metK_len K v (h1.srt sb _ (upd_same _ _ _))⟩
theorem KSt.has_ {D : Nat → Prop} {W W1 : World} {S : Nat → Option (List Name)} {kb sb : Nat} {K : Kn} (v : ByteArray) (h : KSt D W S kb sb K W1) (hl : (K.1.length : Int) ≤ 1000000) :
 Calls Tryz.prog 100 #[.pointer (some ⟨kb, 0, none⟩), .string v] W1 fun e W' => e = .returned (.bool (hasK K v)) ∧ Below W1.heap.size W1 W' := by
 obtain ⟨σ', A', c', h1, h2, h3, h4⟩ := h
 exact khas_is v h1 h2 hl
theorem drop_one {α : Type} {l : List α} {i : Nat} (h : i < l.length) : l.drop i = l[i] :: l.drop (i + 1) := List.drop_eq_getElem_cons h
theorem fieldK_cons (k : Kn) (t : TestT) (l : List TestT) : fieldK k (t :: l) = if t.rel = 8 ∨ t.var.toList = [] then fieldK k l else if t.rel = 1 then fieldK (metK k t.var) l else if hasK k t.var = true then fieldK k l else (false, k) := rfl
set_option maxRecDepth 100000 in
set_option maxHeartbeats 8000000 in
theorem kfield_is {D : Nat → Prop} {W : World} {S : Nat → Option (List Name)} {kb sb : Nat} {K : Kn} {A : Option Addr} {c : Nat} (l : List TestT) (h : KSt D W S kb sb K W) (hkD : ¬ D kb) (hrd : RowR repTestT D W A c l) (hl : (K.1.length : Int) + l.length ≤ 1000000) (hl2 : (K.2.length : Int) + l.length ≤ 1000000) :
 Calls Tryz.prog 122 #[.pointer (some ⟨kb, 0, none⟩), .slice A l.length c] W fun e W' => e = .returned (.bool (fieldK K l).1) ∧ KSt D W S kb sb (fieldK K l).2 W' ∧ (fieldK K l).2.1.length ≤ K.1.length + l.length ∧ (fieldK K l).2.2.length ≤ K.2.length + l.length := by
 have H0 := Lib.hid h
 have HR := Lib.hid hrd
 have HKD := Lib.hid hkD
 have hlc := hrd.cap
 clear h hrd hkD
 go_enter Tryz.func122, Tryz.ntmps122
 go_wp2_with fail
 go_loopw [9] (fun s wr => ∃ (i : Nat) (K' : Kn), s = .int .i64 i ∧ i ≤ l.length ∧ fieldK K l = fieldK K' (l.drop i) ∧ KSt D W S kb sb K' wr ∧ K'.1.length ≤ K.1.length + i ∧ K'.2.length ≤ K.2.length + i) (fun s wr => l.length - (intOf s).toNat)
 case atStart => exact ⟨0, K, rfl, Nat.zero_le _, rfl, H0.out, Nat.le_refl _, Nat.le_refl _⟩
 case round =>
  obtain ⟨i, K', rfl, hi, hfk, hst, hk1, hk2⟩ := hrel
  have HFK := Lib.hid hfk
  have HST := Lib.hid hst
  have HF := Lib.hid (show Fr (fun j => ¬ D j) W wr from by obtain ⟨_, _, _, _, _, _, h4⟩ := hst; exact h4)
  clear hfk hst
  by_cases hlt : i < l.length
  · obtain ⟨y, hy⟩ : ∃ y, y = l[i] := ⟨_, rfl⟩
    have hdr := drop_one hlt
    rw [← hy] at hdr
    obtain ⟨g, off, A1, c1, rfl, _, hg, q0, q1, q2, q3, q4, q5, hrow⟩ := at_TestT (HR.out.fr HF.out (fun j hd hn => hn hd)) hlt
    rw [← hy] at q0 q1 q2 q3 q4 q5
    have HDR := Lib.hid hdr
    have b1 : (0 : Int) ≤ (i : Int) := by omega
    have b2 : (i : Int) < (l.length : Int) := by omega
    clear hy hrow hdr
    by_cases h8 : y.rel = 8
    · have r1 : (y.rel == 8) = true := by simp [h8]
      have r2 : decide (y.rel = 8) = true := by simp [h8]
      have HS := Lib.hid (show fieldK K' (y :: l.drop (i + 1)) = fieldK K' (l.drop (i + 1)) by rw [fieldK_cons, if_pos (.inl h8)])
      clear h8
      go_wp2_with fail
      go_roundw
      case rel => exact ⟨i + 1, K', by go_num, by omega, by rw [HFK.out, HDR.out, HS.out], HST.out.below (by (repeat (first | exact Below.refl _ _ | refine Below.drew ?_ | refine Below.al ?_ _ | refine Below.sc ?_ _))), by omega, by omega⟩
      case measure => simp [intOf] <;> omega
    have r1 : (y.rel == 8) = false := by simp [h8]
    have r2 : decide (y.rel = 8) = false := by simp [h8]
    by_cases hv : y.var.toList = []
    · have v1 : (y.var.toList == []) = true := by simp [hv]
      have v2 : y.var.toList.isEmpty = true := by simp [hv]
      have v3 : decide (y.var.toList = []) = true := by simp [hv]
      have HS := Lib.hid (show fieldK K' (y :: l.drop (i + 1)) = fieldK K' (l.drop (i + 1)) by rw [fieldK_cons, if_pos (.inr hv)])
      clear h8 hv
      go_wp2_with fail
      go_roundw
      case rel => exact ⟨i + 1, K', by go_num, by omega, by rw [HFK.out, HDR.out, HS.out], HST.out.below (by (repeat (first | exact Below.refl _ _ | refine Below.drew ?_ | refine Below.al ?_ _ | refine Below.sc ?_ _))), by omega, by omega⟩
      case measure => simp [intOf] <;> omega
    have v1 : (y.var.toList == []) = false := by simp [hv]
    have v2 : y.var.toList.isEmpty = false := by simp [hv]
    have v3 : decide (y.var.toList = []) = false := by simp [hv]
    have hnot : ¬ (y.rel = 8 ∨ y.var.toList = []) := fun h => h.elim h8 hv
    by_cases h1 : y.rel = 1
    · have s1 : (y.rel == 1) = true := by simp [h1]
      have s2 : decide (y.rel = 1) = true := by simp [h1]
      have HS := Lib.hid (show fieldK K' (y :: l.drop (i + 1)) = fieldK (metK K' y.var) (l.drop (i + 1)) by rw [fieldK_cons, if_neg hnot, if_pos h1])
      clear h8 hv hnot h1
      go_wp2_with fail
      refine (KSt.met y.var (HST.out.below (by (repeat (first | exact Below.refl _ _ | refine Below.drew ?_ | refine Below.al ?_ _ | refine Below.sc ?_ _)))) HKD.out (by omega) (by omega)).mono ?_
      rintro e w5 ⟨rfl, hst5, hl5, hl6⟩
      have HST5 := Lib.hid hst5
      clear hst5 q0 q1 q2 q3 q4 q5
      go_wp2_with fail
      go_roundw
      case rel => exact ⟨i + 1, metK K' y.var, by go_num, by omega, by rw [HFK.out, HDR.out, HS.out], HST5.out, by omega, by omega⟩
      case measure => simp [intOf] <;> omega
    have s1 : (y.rel == 1) = false := by simp [h1]
    have s2 : decide (y.rel = 1) = false := by simp [h1]
    cases hh : hasK K' y.var
    · have HS := Lib.hid (show fieldK K' (y :: l.drop (i + 1)) = (false, K') by rw [fieldK_cons, if_neg hnot, if_neg h1, hh]; rfl)
      clear h8 hv hnot h1
      go_wp2_with fail
      refine (KSt.has_ y.var (HST.out.below (by (repeat (first | exact Below.refl _ _ | refine Below.drew ?_ | refine Below.al ?_ _ | refine Below.sc ?_ _)))) (by omega)).mono ?_
      rintro e w5 ⟨rfl, hb5⟩
      rw [hh]
      have hb5' := Below.trans (show Below wr.heap.size wr _ from (by (repeat (first | exact Below.refl _ _ | refine Below.drew ?_ | refine Below.al ?_ _ | refine Below.sc ?_ _)))) (hb5.mono (by simp))
      have HST5 := Lib.hid (HST.out.below hb5')
      have HE := Lib.hid (show fieldK K l = (false, K') by rw [HFK.out, HDR.out, HS.out])
      clear hb5 hb5' hh q0 q1 q2 q3 q4 q5
      go_wp2_with fail
      go_ret
      rw [HE.out]
      exact ⟨rfl, HST5.out, by dsimp only; omega, by dsimp only; omega⟩
    · have HS := Lib.hid (show fieldK K' (y :: l.drop (i + 1)) = fieldK K' (l.drop (i + 1)) by rw [fieldK_cons, if_neg hnot, if_neg h1, hh]; rfl)
      clear h8 hv hnot h1
      go_wp2_with fail
      refine (KSt.has_ y.var (HST.out.below (by (repeat (first | exact Below.refl _ _ | refine Below.drew ?_ | refine Below.al ?_ _ | refine Below.sc ?_ _)))) (by omega)).mono ?_
      rintro e w5 ⟨rfl, hb5⟩
      rw [hh]
      have hb5' := Below.trans (show Below wr.heap.size wr _ from (by (repeat (first | exact Below.refl _ _ | refine Below.drew ?_ | refine Below.al ?_ _ | refine Below.sc ?_ _)))) (hb5.mono (by simp))
      have HST5 := Lib.hid (HST.out.below hb5')
      clear hb5 hb5' hh q0 q1 q2 q3 q4 q5
      go_wp2_with fail
      go_roundw
      case rel => exact ⟨i + 1, K', by go_num, by omega, by rw [HFK.out, HDR.out, HS.out], HST5.out, by omega, by omega⟩
      case measure => simp [intOf] <;> omega
  · have hie : i = l.length := by omega
    subst hie
    have hend : fieldK K l = (true, K') := by rw [HFK.out, List.drop_length]; rfl
    have HE := Lib.hid hend
    clear hend
    go_wp2_with fail
    go_ret
    rw [HE.out]
    exact ⟨rfl, HST.out, hk1, hk2⟩
end Go.Proofs.YtpndmjabjjbefaaGreat
namespace Go.Proofs.YtpndmjabjjbefaaGreat
open Go.RowKit Go.Shelf
theorem KSt.fr_ {D : Nat → Prop} {W W1 : World} {S : Nat → Option (List Name)} {kb sb : Nat} {K : Kn} (h : KSt D W S kb sb K W1) : Fr (fun j => ¬ D j) W W1 := by
 obtain ⟨_, _, _, _, _, _, h4⟩ := h
 exact h4
theorem KSt.start {D : Nat → Prop} {W : World} {S : Nat → Option (List Name)} {σ : Nat → St} {kb sb : Nat} {K : Kn} {A : Option Addr} {c : Nat} (hN : NameSets D W S σ) (hK : KnS W S kb sb K A c) (hA : AIn A (fun j => ¬ D j)) : KSt D W S kb sb K W := by
 have e : upd S sb (some K.1) = S := upd_id _ _ _ hK.set
 exact ⟨σ, A, c, by rw [e]; exact hN, by rw [e]; exact hK, hA, Fr.refl _ _⟩
theorem KSt.lt {D : Nat → Prop} {W W1 : World} {S : Nat → Option (List Name)} {kb sb : Nat} {K : Kn} (h : KSt D W S kb sb K W1) : kb < W1.heap.size := by
 obtain ⟨_, _, _, _, h2, _, _⟩ := h
 exact h2.blk.lt
theorem row_low {W : World} {e size n : Nat} {A : Option Addr} {c : Nat} {xs : List Value} (h : W.ownsRow 0 e size (.slice A n c) n xs) : AIn A (· < W.heap.size) := by
 intro a ha
 rcases h.2 with ⟨hv, _⟩ | ⟨g, cap, cur, hv, _, hg, _⟩
 · simp only [Value.slice.injEq] at hv; rw [hv.1] at ha; cases ha
 · simp only [Value.slice.injEq] at hv; rw [hv.1] at ha; cases ha
   exact Blk.lt (t := e) (cs := cur) hg
theorem KSt.prot {D : Nat → Prop} {W W1 W2 : World} {S : Nat → Option (List Name)} {kb sb : Nat} {K : Kn} (h : KSt D W S kb sb K W1) (hb : Below W1.heap.size W1 W2) :
 KSt (fun k => D k ∨ (W1.heap.size ≤ k ∧ k < W2.heap.size)) W2 S kb sb K W2 := by
 obtain ⟨σ', A', c', h1, h2, h3, _⟩ := h
 refine ⟨σ', A', c', h1.protect hb, ⟨h2.blk.new_ hb, ownsRow_new h2.row hb, h2.set⟩, fun a ha hd => ?_, Fr.refl _ _⟩
 rcases hd with hd | hd
 · exact h3 a ha hd
 · have := row_low h2.row a ha; omega
theorem KSt.unprot {D D' : Nat → Prop} {W W1 W2 : World} {S : Nat → Option (List Name)} {kb sb : Nat} {K : Kn} (h : KSt D' W1 S kb sb K W2) (hF : Fr (fun j => ¬ D j) W W1) (hD : ∀ k, D k → D' k) : KSt D W S kb sb K W2 := by
 obtain ⟨σ', A', c', h1, h2, h3, h4⟩ := h
 exact ⟨σ', A', c', h1.weaken hD, h2, h3.mono (fun k hk hd => hk (hD k hd)), hF.trans (h4.mono (fun k _ hk hd => hk (hD k hd)))⟩
theorem KSt.prot0 {D : Nat → Prop} {W W1 : World} {S : Nat → Option (List Name)} {kb sb : Nat} {K : Kn} (h : KSt D W S kb sb K W1) : KSt D W1 S kb sb K W1 := by
 obtain ⟨σ', A', c', h1, h2, h3, _⟩ := h
 exact ⟨σ', A', c', h1, h2, h3, Fr.refl _ _⟩
theorem KSt.join {D : Nat → Prop} {W W1 W2 : World} {S : Nat → Option (List Name)} {kb sb : Nat} {K K' : Kn} (h : KSt D W1 S kb sb K W2) (h0 : KSt D W S kb sb K' W1) : KSt D W S kb sb K W2 := by
 obtain ⟨σ', A', c', h1, h2, h3, h4⟩ := h
 exact ⟨σ', A', c', h1, h2, h3, h0.fr_.trans h4⟩
set_option maxRecDepth 100000 in
set_option maxHeartbeats 8000000 in
theorem kone_is {D : Nat → Prop} {W : World} {S : Nat → Option (List Name)} {kb sb : Nat} {K : Kn} {A1 A2 A3 : Option Addr} {c1 c2 c3 : Nat} (x : CondT) (h : KSt D W S kb sb K W) (hkD : ¬ D kb) (h1 : RowR repTestT D W A1 c1 x.attr) (h2 : RowR repTestT D W A2 c2 x.value) (hl : (K.1.length : Int) + (1 + x.attr.length + x.value.length) ≤ 1000000) (hl2 : (K.2.length : Int) + (1 + x.attr.length + x.value.length) ≤ 1000000) :
 Calls Tryz.prog 99 #[.pointer (some ⟨kb, 0, none⟩), .agg #[.int .i64 x.kind, .bool x.goal, .string x.id, .slice A1 x.attr.length c1, .slice A2 x.value.length c2, .bool x.acc, .slice A3 x.conds.length c3]] W fun e W' => e = .returned (.bool (oneK K x).1) ∧ KSt D W S kb sb (oneK K x).2 W' ∧ (oneK K x).2.1.length ≤ K.1.length + (1 + x.attr.length + x.value.length) ∧ (oneK K x).2.2.length ≤ K.2.length + (1 + x.attr.length + x.value.length) := by
 have H0 := Lib.hid h
 have HKD := Lib.hid hkD
 have H1 := Lib.hid h1
 have H2 := Lib.hid h2
 have hl1c := h1.cap
 have hl2c := h2.cap
 clear h hkD h1 h2
 by_cases hg : x.goal = true
 · have g1 := hg
   have hgk : (if x.goal = true then metK K x.id else K) = metK K x.id := if_pos hg
   have H_g := Lib.hid g1
   have HG := Lib.hid hgk
   clear g1 hg hgk
   go_enter Tryz.func99, Tryz.ntmps99
   go_upto_region 1 with fail
   obtain ⟨W1, hW1⟩ : ∃ W1, W1 = W.alloc (.cells #[.int .i64 x.kind, .bool x.goal, .string x.id, .slice A1 x.attr.length c1, .slice A2 x.value.length c2, .bool x.acc, .slice A3 x.conds.length c3] 62) := ⟨_, rfl⟩
   rw [← hW1]
   have hbk : Blk W1 W.heap.size 62 #[.int .i64 x.kind, .bool x.goal, .string x.id, .slice A1 x.attr.length c1, .slice A2 x.value.length c2, .bool x.acc, .slice A3 x.conds.length c3] := by rw [hW1]; exact Blk.new _ _ _
   have hB : Below W.heap.size W W1 := by rw [hW1]; exact (Below.refl _ _).alloc (Nat.le_refl _) _
   have hsz : W1.heap.size = W.heap.size + 1 := by rw [hW1, World.size_alloc]
   have hst1 := H0.out.prot hB
   have hbD : (fun k => D k ∨ (W.heap.size ≤ k ∧ k < W1.heap.size)) W.heap.size := .inr ⟨Nat.le_refl _, by omega⟩
   have hkD1 : ¬ (fun k => D k ∨ (W.heap.size ≤ k ∧ k < W1.heap.size)) kb := fun hd => hd.elim HKD.out (fun hd => by have := H0.out.lt; omega)
   obtain ⟨D1, hD1⟩ : ∃ D1, D1 = (fun k => D k ∨ (W.heap.size ≤ k ∧ k < W1.heap.size)) := ⟨_, rfl⟩
   rw [← hD1] at hst1 hbD hkD1
   have HR1 := Lib.hid (show RowR repTestT D1 W1 A1 c1 x.attr from (H1.out.new_ hB).weaken (fun k hk => by rw [hD1]; exact .inl hk))
   have HR2 := Lib.hid (show RowR repTestT D1 W1 A2 c2 x.value from (H2.out.new_ hB).weaken (fun k hk => by rw [hD1]; exact .inl hk))
   have HDD := Lib.hid (show ∀ k, D k → D1 k from fun k hk => by rw [hD1]; exact .inl hk)
   have HFB := Lib.hid (show Fr (fun j => ¬ D j) W W1 from Fr.of_new hB)
   have HST := Lib.hid hst1
   have HBD := Lib.hid hbD
   have HK1 := Lib.hid hkD1
   have HBK := Lib.hid hbk
   have hlo := hbk.lt
   have e1 : W1.cell? ⟨W.heap.size, 1, none⟩ = some (.bool x.goal) := (hbk.cell 1).trans rfl
   have e2 : W1.cell? ⟨W.heap.size, 2, none⟩ = some (.string x.id) := (hbk.cell 2).trans rfl
   have e3 : W1.cell? ⟨W.heap.size, 3, none⟩ = some (.slice A1 x.attr.length c1) := (hbk.cell 3).trans rfl
   have e4 : W1.cell? ⟨W.heap.size, 4, none⟩ = some (.slice A2 x.value.length c2) := (hbk.cell 4).trans rfl
   clear hW1 hbk hB hsz hst1 hbD hkD1 hD1
   have g1 := H_g.out
   go_wp2_with fail
   refine (KSt.met x.id HST.out HK1.out (by omega) (by omega)).mono ?_
   rintro e w4 ⟨rfl, hst4, hl4, hl5⟩
   have HST4 := Lib.hid hst4
   clear hst4 e1 e2 e3 e4 hlo
   have hbk := HBK.out.fr (HST4.out).fr_ (fun hn => hn HBD.out)
   have hlo := hbk.lt
   have hzw : W.heap.size ≤ w4.heap.size := Nat.le_trans HFB.out.size (HST4.out).fr_.size
   have e2 : w4.cell? ⟨W.heap.size, 2, none⟩ = some (.string x.id) := (hbk.cell 2).trans rfl
   have e3 : w4.cell? ⟨W.heap.size, 3, none⟩ = some (.slice A1 x.attr.length c1) := (hbk.cell 3).trans rfl
   have e4 : w4.cell? ⟨W.heap.size, 4, none⟩ = some (.slice A2 x.value.length c2) := (hbk.cell 4).trans rfl
   clear hbk
   go_wp2_with fail
   cases hh : hasK (metK K x.id) x.id
   · skip
     have hhx := KSt.has_ x.id (HST4.out) (by omega)
     rw [hh] at hhx
     refine hhx.mono ?_
     rintro e w5 ⟨rfl, hb5⟩
     have HST5 := Lib.hid ((HST4.out).below (hb5))
     clear hhx hb5
     have HA := Lib.hid (show oneK K x = (false, metK K x.id) by unfold oneK; simp only [HG.out]; simp [hh])
     clear hh
     go_wp2_with fail
     go_ret
     rw [HA.out]
     exact ⟨rfl, (HST5.out).unprot HFB.out HDD.out, by dsimp only; omega, by dsimp only; omega⟩
   · skip
     have hhx := KSt.has_ x.id (HST4.out) (by omega)
     rw [hh] at hhx
     refine hhx.mono ?_
     rintro e w5 ⟨rfl, hb5⟩
     have HST5 := Lib.hid ((HST4.out).below (hb5))
     clear hhx hb5
     have hbk := HBK.out.fr (HST5.out).fr_ (fun hn => hn HBD.out)
     have hlo := hbk.lt
     have hzw : W.heap.size ≤ w5.heap.size := Nat.le_trans HFB.out.size (HST5.out).fr_.size
     have e2 : w5.cell? ⟨W.heap.size, 2, none⟩ = some (.string x.id) := (hbk.cell 2).trans rfl
     have e3 : w5.cell? ⟨W.heap.size, 3, none⟩ = some (.slice A1 x.attr.length c1) := (hbk.cell 3).trans rfl
     have e4 : w5.cell? ⟨W.heap.size, 4, none⟩ = some (.slice A2 x.value.length c2) := (hbk.cell 4).trans rfl
     clear hbk
     obtain ⟨b2, k2, hf⟩ : ∃ b k, fieldK (metK K x.id) x.attr = (b, k) := ⟨_, _, rfl⟩
     have hfa := kfield_is x.attr (A := A1) (c := c1) (HST5.out.prot0) HK1.out (HR1.out.fr HST5.out.fr_ (fun k hk hn => hn hk)) (by omega) (by omega)
     rw [hf] at hfa
     have HFA := Lib.hid hfa
     clear hfa
     cases b2
     · skip
       have HA := Lib.hid (show oneK K x = (false, k2) by unfold oneK; simp only [HG.out]; simp [hh, hf])
       clear hh hf
       go_wp2_with fail
       refine HFA.out.mono ?_
       rintro e w6 ⟨rfl, hst6, hl6, hl7⟩
       have HST6 := Lib.hid (hst6.join HST5.out)
       clear hst6
       go_wp2_with fail
       go_ret
       rw [HA.out]
       exact ⟨rfl, (HST6.out).unprot HFB.out HDD.out, by dsimp only; omega, by dsimp only; omega⟩
     · skip
       obtain ⟨b3, k3, hf3⟩ : ∃ b k, fieldK k2 x.value = (b, k) := ⟨_, _, rfl⟩
       have HA := Lib.hid (show oneK K x = (b3, k3) by unfold oneK; simp only [HG.out]; simp [hh, hf, hf3])
       clear hh hf
       go_wp2_with fail
       refine HFA.out.mono ?_
       rintro e w6 ⟨rfl, hst6, hl6, hl7⟩
       have HST6 := Lib.hid (hst6.join HST5.out)
       clear hst6
       have hbk := HBK.out.fr (HST6.out).fr_ (fun hn => hn HBD.out)
       have hlo := hbk.lt
       have hzw : W.heap.size ≤ w6.heap.size := Nat.le_trans HFB.out.size (HST6.out).fr_.size
       have e2 : w6.cell? ⟨W.heap.size, 2, none⟩ = some (.string x.id) := (hbk.cell 2).trans rfl
       have e3 : w6.cell? ⟨W.heap.size, 3, none⟩ = some (.slice A1 x.attr.length c1) := (hbk.cell 3).trans rfl
       have e4 : w6.cell? ⟨W.heap.size, 4, none⟩ = some (.slice A2 x.value.length c2) := (hbk.cell 4).trans rfl
       clear hbk
       have hfa := kfield_is x.value (A := A2) (c := c2) (HST6.out.prot0) HK1.out (HR2.out.fr HST6.out.fr_ (fun k hk hn => hn hk)) (by omega) (by omega)
       rw [hf3] at hfa
       have HFA := Lib.hid hfa
       clear hfa hf3
       go_wp2_with fail
       refine HFA.out.mono ?_
       rintro e w7 ⟨rfl, hst7, hl8, hl9⟩
       have HST7 := Lib.hid (hst7.join HST6.out)
       clear hst7
       go_wp2_with fail
       go_ret
       rw [HA.out]
       exact ⟨rfl, (HST7.out).unprot HFB.out HDD.out, by dsimp only; omega, by dsimp only; omega⟩
 · have g1 : x.goal = false := by simpa using hg
   have hgk : (if x.goal = true then metK K x.id else K) = K := if_neg hg
   have H_g := Lib.hid g1
   have HG := Lib.hid hgk
   clear g1 hg hgk
   go_enter Tryz.func99, Tryz.ntmps99
   go_upto_region 1 with fail
   obtain ⟨W1, hW1⟩ : ∃ W1, W1 = W.alloc (.cells #[.int .i64 x.kind, .bool x.goal, .string x.id, .slice A1 x.attr.length c1, .slice A2 x.value.length c2, .bool x.acc, .slice A3 x.conds.length c3] 62) := ⟨_, rfl⟩
   rw [← hW1]
   have hbk : Blk W1 W.heap.size 62 #[.int .i64 x.kind, .bool x.goal, .string x.id, .slice A1 x.attr.length c1, .slice A2 x.value.length c2, .bool x.acc, .slice A3 x.conds.length c3] := by rw [hW1]; exact Blk.new _ _ _
   have hB : Below W.heap.size W W1 := by rw [hW1]; exact (Below.refl _ _).alloc (Nat.le_refl _) _
   have hsz : W1.heap.size = W.heap.size + 1 := by rw [hW1, World.size_alloc]
   have hst1 := H0.out.prot hB
   have hbD : (fun k => D k ∨ (W.heap.size ≤ k ∧ k < W1.heap.size)) W.heap.size := .inr ⟨Nat.le_refl _, by omega⟩
   have hkD1 : ¬ (fun k => D k ∨ (W.heap.size ≤ k ∧ k < W1.heap.size)) kb := fun hd => hd.elim HKD.out (fun hd => by have := H0.out.lt; omega)
   obtain ⟨D1, hD1⟩ : ∃ D1, D1 = (fun k => D k ∨ (W.heap.size ≤ k ∧ k < W1.heap.size)) := ⟨_, rfl⟩
   rw [← hD1] at hst1 hbD hkD1
   have HR1 := Lib.hid (show RowR repTestT D1 W1 A1 c1 x.attr from (H1.out.new_ hB).weaken (fun k hk => by rw [hD1]; exact .inl hk))
   have HR2 := Lib.hid (show RowR repTestT D1 W1 A2 c2 x.value from (H2.out.new_ hB).weaken (fun k hk => by rw [hD1]; exact .inl hk))
   have HDD := Lib.hid (show ∀ k, D k → D1 k from fun k hk => by rw [hD1]; exact .inl hk)
   have HFB := Lib.hid (show Fr (fun j => ¬ D j) W W1 from Fr.of_new hB)
   have HST := Lib.hid hst1
   have HBD := Lib.hid hbD
   have HK1 := Lib.hid hkD1
   have HBK := Lib.hid hbk
   have hlo := hbk.lt
   have e1 : W1.cell? ⟨W.heap.size, 1, none⟩ = some (.bool x.goal) := (hbk.cell 1).trans rfl
   have e2 : W1.cell? ⟨W.heap.size, 2, none⟩ = some (.string x.id) := (hbk.cell 2).trans rfl
   have e3 : W1.cell? ⟨W.heap.size, 3, none⟩ = some (.slice A1 x.attr.length c1) := (hbk.cell 3).trans rfl
   have e4 : W1.cell? ⟨W.heap.size, 4, none⟩ = some (.slice A2 x.value.length c2) := (hbk.cell 4).trans rfl
   clear hW1 hbk hB hsz hst1 hbD hkD1 hD1
   have g1 := H_g.out
   go_wp2_with fail
   cases hh : hasK (K) x.id
   · skip
     have hhx := KSt.has_ x.id (HST.out) (by omega)
     rw [hh] at hhx
     refine hhx.mono ?_
     rintro e w5 ⟨rfl, hb5⟩
     have HST5 := Lib.hid ((HST.out).below (hb5))
     clear hhx hb5
     have HA := Lib.hid (show oneK K x = (false, K) by unfold oneK; simp only [HG.out]; simp [hh])
     clear hh
     go_wp2_with fail
     go_ret
     rw [HA.out]
     exact ⟨rfl, (HST5.out).unprot HFB.out HDD.out, by dsimp only; omega, by dsimp only; omega⟩
   · skip
     have hhx := KSt.has_ x.id (HST.out) (by omega)
     rw [hh] at hhx
     refine hhx.mono ?_
     rintro e w5 ⟨rfl, hb5⟩
     have HST5 := Lib.hid ((HST.out).below (hb5))
     clear hhx hb5
     have hbk := HBK.out.fr (HST5.out).fr_ (fun hn => hn HBD.out)
     have hlo := hbk.lt
     have hzw : W.heap.size ≤ w5.heap.size := Nat.le_trans HFB.out.size (HST5.out).fr_.size
     have e2 : w5.cell? ⟨W.heap.size, 2, none⟩ = some (.string x.id) := (hbk.cell 2).trans rfl
     have e3 : w5.cell? ⟨W.heap.size, 3, none⟩ = some (.slice A1 x.attr.length c1) := (hbk.cell 3).trans rfl
     have e4 : w5.cell? ⟨W.heap.size, 4, none⟩ = some (.slice A2 x.value.length c2) := (hbk.cell 4).trans rfl
     clear hbk
     obtain ⟨b2, k2, hf⟩ : ∃ b k, fieldK (K) x.attr = (b, k) := ⟨_, _, rfl⟩
     have hfa := kfield_is x.attr (A := A1) (c := c1) (HST5.out.prot0) HK1.out (HR1.out.fr HST5.out.fr_ (fun k hk hn => hn hk)) (by omega) (by omega)
     rw [hf] at hfa
     have HFA := Lib.hid hfa
     clear hfa
     cases b2
     · skip
       have HA := Lib.hid (show oneK K x = (false, k2) by unfold oneK; simp only [HG.out]; simp [hh, hf])
       clear hh hf
       go_wp2_with fail
       refine HFA.out.mono ?_
       rintro e w6 ⟨rfl, hst6, hl6, hl7⟩
       have HST6 := Lib.hid (hst6.join HST5.out)
       clear hst6
       go_wp2_with fail
       go_ret
       rw [HA.out]
       exact ⟨rfl, (HST6.out).unprot HFB.out HDD.out, by dsimp only; omega, by dsimp only; omega⟩
     · skip
       obtain ⟨b3, k3, hf3⟩ : ∃ b k, fieldK k2 x.value = (b, k) := ⟨_, _, rfl⟩
       have HA := Lib.hid (show oneK K x = (b3, k3) by unfold oneK; simp only [HG.out]; simp [hh, hf, hf3])
       clear hh hf
       go_wp2_with fail
       refine HFA.out.mono ?_
       rintro e w6 ⟨rfl, hst6, hl6, hl7⟩
       have HST6 := Lib.hid (hst6.join HST5.out)
       clear hst6
       have hbk := HBK.out.fr (HST6.out).fr_ (fun hn => hn HBD.out)
       have hlo := hbk.lt
       have hzw : W.heap.size ≤ w6.heap.size := Nat.le_trans HFB.out.size (HST6.out).fr_.size
       have e2 : w6.cell? ⟨W.heap.size, 2, none⟩ = some (.string x.id) := (hbk.cell 2).trans rfl
       have e3 : w6.cell? ⟨W.heap.size, 3, none⟩ = some (.slice A1 x.attr.length c1) := (hbk.cell 3).trans rfl
       have e4 : w6.cell? ⟨W.heap.size, 4, none⟩ = some (.slice A2 x.value.length c2) := (hbk.cell 4).trans rfl
       clear hbk
       have hfa := kfield_is x.value (A := A2) (c := c2) (HST6.out.prot0) HK1.out (HR2.out.fr HST6.out.fr_ (fun k hk hn => hn hk)) (by omega) (by omega)
       rw [hf3] at hfa
       have HFA := Lib.hid hfa
       clear hfa hf3
       go_wp2_with fail
       refine HFA.out.mono ?_
       rintro e w7 ⟨rfl, hst7, hl8, hl9⟩
       have HST7 := Lib.hid (hst7.join HST6.out)
       clear hst7
       go_wp2_with fail
       go_ret
       rw [HA.out]
       exact ⟨rfl, (HST7.out).unprot HFB.out HDD.out, by dsimp only; omega, by dsimp only; omega⟩
end Go.Proofs.YtpndmjabjjbefaaGreat
