/-
  The walk of a table's own put: a right symbol is known behind it, and its letter's next number stands above its own.
-/
import Derived.Test.YtlkffnmmphehdaaTabNew
namespace Go.Proofs.Ytlkffnmmphehdaa
open Go.RowKit
def idc (t : ByteArray) : UInt8 := t.data.toList.headD 0
theorem idc_eq {t : ByteArray} (h : 0 < t.size) : idc t = t[0] := by
  obtain ⟨r, hr⟩ : ∃ r, t.data.toList = t[0] :: r := by
    have hs : t.data.toList.length = t.size := Array.length_toList
    refine ⟨t.data.toList.drop 1, ?_⟩
    have e : t[0] = t.data.toList[0]'(by omega) := by rw [Array.getElem_toList]; rfl
    rw [e, List.getElem_cons_drop, List.drop_zero]
  unfold idc
  rw [hr]; rfl
/-- The map of next numbers behind a symbol's put. -/
def tputM (m : List Page) (s : Sym) : List Page := if s.kind = 1 ∧ nextB m (idc s.text) ≤ s.n then mput m ⟨idc s.text, s.n + 1⟩ else m
/-- Behind a table's put. -/
def TabPut (D : Nat → Prop) (w : World) (S : Nat → Option (List Sym)) (σ : Nat → St) (S2 : Nat → Option (List Page)) (σ2 : Nat → St) (T : TB) (l : List Sym) (m : List Page) (w' : World) : Prop :=
  (∃ σ' σ2', Tabs D w' (upd S T.bs (some l)) σ' (upd S2 T.bp (some m)) σ2' ∧ ∀ k, k < w.heap.size → Off k S σ → Off k S2 σ2 → Off k (upd S T.bs (some l)) σ' ∧ Off k (upd S2 T.bp (some m)) σ2') ∧ KB w w' ∧ Fr (fun k => ¬ D k) w w'
section
variable {D : Nat → Prop} {w : World} {S : Nat → Option (List Sym)} {σ : Nat → St} {S2 : Nat → Option (List Page)} {σ2 : Nat → St}
theorem Tabs.noop {b : Nat} {m : List Page} (h : Tabs D w S σ S2 σ2) (hb : S2 b = some m) : Tabs D w S σ (upd S2 b (some m)) σ2 := by rw [upd_id _ _ _ hb]; exact h

set_option maxRecDepth 100000 in
set_option maxHeartbeats 4000000 in
theorem tabput_other (T : TB) (l : List Sym) (m : List Page) (k : Int) (t : ByteArray) (n : Int) (hT : Tabs D w S σ S2 σ2) (hB : TabBlk w T) (hb : S T.bs = some l) (hb2 : S2 T.bp = some m) (hk : ¬ k = 1) (hl : (l.length : Int) ≤ 1000000) (hl2 : (m.length : Int) ≤ 1000000) :
    Calls Try.prog 53 #[.pointer (some ⟨T.b, 0, none⟩), .agg #[.int .i64 k, .string t, .int .i64 n]] w fun e w' => e = .returned (.tuple #[]) ∧ TabPut D w S σ S2 σ2 T (put cmpSym l ⟨k, t, n⟩) m w' := by
  have hA0 := (hT.syms.at_ T.bs l hb).row_lt
  have hbs := (hT.syms.at_ T.bs l hb).lt
  have HT := Lib.hid hT
  have HB := Lib.hid hB
  have HS := Lib.hid hb
  have HP := Lib.hid hb2
  have HA0 := Lib.hid hA0
  have t1 : (k == 1) = false := by simp [hk]
  clear hk
  clear hT hB hb hb2 hA0
  go_enter Try.func53, Try.ntmps53
  go_wp2_with fail
  obtain ⟨W, hW⟩ : ∃ W, W = w.alloc (Obj.cells #[Value.int IntKind.i64 k, Value.string t, Value.int IntKind.i64 n] 23) := ⟨_, rfl⟩
  have hX : Blk W w.heap.size 23 #[.int .i64 k, .string t, .int .i64 n] := by rw [hW]; exact Blk.new _ _ _
  have hB0 : Below w.heap.size w W := by rw [hW]; exact (Below.refl _ _).alloc (Nat.le_refl _) _
  rw [← hW]
  clear hW
  have y0 := (hX.cell 0).trans rfl
  have y1 := (hX.cell 1).trans rfl
  have y2 := (hX.cell 2).trans rfl
  have hxl := hX.lt
  have hT0 := HT.out.below hB0
  have hBk := HB.out.below hB0
  have s1 := (hBk.1.cell 1).trans rfl
  have hbl := hBk.1.lt
  have HX := Lib.hid hX
  have HB0 := Lib.hid hB0
  have HT0 := Lib.hid hT0
  have HBk := Lib.hid hBk
  clear hX hB0 hT0 hBk
  refine wp_region_E (fun w9 => Below W.heap.size W w9) [(0, 0), (1, 0), (2, 0), (3, 1), (4, 1), (5, 2)] (by kernel_rfl) (by kernel_rfl) (fun KK hKK => ?_)
  simp only [beside, List.filterMap_cons, List.filterMap_nil, List.getElem?_toArray, List.getElem?_cons_zero, List.getElem?_cons_succ, Option.map_some]
  repeat (first | (refine wpX_w ?_ (Or.inl ⟨by rfl, fun w9 => ?_⟩) ?_; rotate_left 1; go_simp; with_reducible rfl; simp only [Act.put, List.setIfInBounds_toArray, List.set_cons_zero, List.set_cons_succ]) | (refine wpX_l ?_ (((Below.refl _ _).drew)) (Or.inl ⟨by rfl, fun w9 hw9 => ?_⟩) ?_; rotate_left 1; obtain ⟨hc9, hf9⟩ := bcell hw9; go_simp; with_reducible rfl; simp only [Act.put, List.setIfInBounds_toArray, List.set_cons_zero, List.set_cons_succ]) | (refine wpX_w undef (Or.inr ⟨by rfl, rfl⟩) ?_; simp only [Act.put, List.setIfInBounds_toArray, List.set_cons_zero, List.set_cons_succ]) | (refine wpX_l undef (((Below.refl _ _).drew)) (Or.inr ⟨by rfl, rfl⟩) ?_; simp only [Act.put, List.setIfInBounds_toArray, List.set_cons_zero, List.set_cons_succ]))
  refine wpX_e (by kernel_rfl) (fun K9 hK9 => ?_)
  go_simp
  refine (tPut_Sym ⟨k, t, n⟩ (HT0.out.below ((Below.refl _ _).drew)) HS.out (by omega)).mono ?_
  rintro e w1 ⟨rfl, hch⟩
  have HP1 := Lib.hid hch
  obtain ⟨_, _, _, hM1⟩ := hch
  have hng : ¬ SetMod T.bs (σ T.bs).sn (σ T.bs).A w.heap.size := (by
    rintro (h | ⟨_, a, ha, h⟩)
    · omega
    · have := HA0.out a ha; omega)
  have hX1 := HX.out.drew.fr hM1 hng
  have z0 := (hX1.cell 0).trans rfl
  have z1 := (hX1.cell 1).trans rfl
  have z2 := (hX1.cell 2).trans rfl
  have hxl1 := hX1.lt
  have hBk1 : TabBlk w1 T := TabBlk.kb HBk.out HP1.out.2.1
  have r2 := (hBk1.1.cell 2).trans rfl
  have hbl1 := hBk1.1.lt
  obtain ⟨σ1, hT1, hO1⟩ := HP1.out.1
  have HT1 := Lib.hid hT1
  have HO1 := Lib.hid hO1
  have HX1 := Lib.hid hX1
  have HBk1 := Lib.hid hBk1
  clear hM1 hng hX1 hBk1 hT1 hO1 y0 y1 y2 s1
  refine hK9 _ _ ?_
  clear hK9 K9
  refine wpX_nil ?_
  simp only [OnlyN_normal]
  refine hKK _ _ ?_
  clear hKK KK
  go_wp2_with fail
  refine wp_region_E (fun w9 => Below w1.heap.size w1 w9) [(0, 0), (1, 1), (2, 0), (3, 0), (4, 0), (5, 1), (6, 0), (7, 0), (8, 1), (9, 0), (10, 2), (11, 0), (12, 0)] (by kernel_rfl) (by kernel_rfl) (fun KK hKK => ?_)
  simp only [beside, List.filterMap_cons, List.filterMap_nil, List.getElem?_toArray, List.getElem?_cons_zero, List.getElem?_cons_succ, Option.map_some]
  repeat (first | (refine wpX_w ?_ (Or.inl ⟨by rfl, fun w9 => ?_⟩) ?_; rotate_left 1; go_simp; with_reducible rfl; simp only [Act.put, List.setIfInBounds_toArray, List.set_cons_zero, List.set_cons_succ]) | (refine wpX_l ?_ (((Below.refl _ _).drew)) (Or.inl ⟨by rfl, fun w9 hw9 => ?_⟩) ?_; rotate_left 1; obtain ⟨hc9, hf9⟩ := bcell hw9; go_simp; with_reducible rfl; simp only [Act.put, List.setIfInBounds_toArray, List.set_cons_zero, List.set_cons_succ]) | (refine wpX_w undef (Or.inr ⟨by rfl, rfl⟩) ?_; simp only [Act.put, List.setIfInBounds_toArray, List.set_cons_zero, List.set_cons_succ]) | (refine wpX_l undef (((Below.refl _ _).drew)) (Or.inr ⟨by rfl, rfl⟩) ?_; simp only [Act.put, List.setIfInBounds_toArray, List.set_cons_zero, List.set_cons_succ]))
  refine wpX_es (fun K9 hK9 => ?_)
  go_simp
  have HB2 := Lib.hid ((Below.refl w1.heap.size w1).drew)
  refine hK9 _ _ HB2.out ?_
  clear hK9 K9
  repeat (first | (refine wpX_w ?_ (Or.inl ⟨by rfl, fun w9 => ?_⟩) ?_; rotate_left 1; go_simp; with_reducible rfl; simp only [Act.put, List.setIfInBounds_toArray, List.set_cons_zero, List.set_cons_succ]) | (refine wpX_l ?_ (HB2.out) (Or.inl ⟨by rfl, fun w9 hw9 => ?_⟩) ?_; rotate_left 1; obtain ⟨hc9, hf9⟩ := bcell hw9; go_simp; with_reducible rfl; simp only [Act.put, List.setIfInBounds_toArray, List.set_cons_zero, List.set_cons_succ]) | (refine wpX_w undef (Or.inr ⟨by rfl, rfl⟩) ?_; simp only [Act.put, List.setIfInBounds_toArray, List.set_cons_zero, List.set_cons_succ]) | (refine wpX_l undef (HB2.out) (Or.inr ⟨by rfl, rfl⟩) ?_; simp only [Act.put, List.setIfInBounds_toArray, List.set_cons_zero, List.set_cons_succ]))
  refine wpX_nil ?_
  simp only [OnlyN_normal]
  refine hKK _ _ ?_
  clear hKK KK
  go_wp2_with fail
  go_end0
  have hz0 := HB0.out.size
  refine ⟨rfl, ⟨σ1, _, (HT1.out.below HB2.out).noop HP.out, fun k hk ho ho2 => ⟨HO1.out k (by simp; omega) ho, by rw [upd_id _ _ _ HP.out]; exact ho2⟩⟩, ((KB.of_below HB0.out).trans HP1.out.2.1).trans (KB.of_below HB2.out), (((Fr.of_new HB0.out).trans ((Fr.refl _ W).drew.trans HP1.out.2.2.1)).trans (Fr.of_new HB2.out))⟩

set_option maxRecDepth 100000 in
set_option maxHeartbeats 4000000 in
theorem tabput_low (T : TB) (l : List Sym) (m : List Page) (t : ByteArray) (n : Int) (hT : Tabs D w S σ S2 σ2) (hB : TabBlk w T) (hb : S T.bs = some l) (hb2 : S2 T.bp = some m) (ht : t.size = 1) (hc : ¬ nextB m (t[0]'(by omega)) ≤ n) (hl : (l.length : Int) ≤ 1000000) (hl2 : (m.length : Int) ≤ 1000000) :
    Calls Try.prog 53 #[.pointer (some ⟨T.b, 0, none⟩), .agg #[.int .i64 1, .string t, .int .i64 n]] w fun e w' => e = .returned (.tuple #[]) ∧ TabPut D w S σ S2 σ2 T (put cmpSym l ⟨1, t, n⟩) m w' := by
  have hA0 := (hT.syms.at_ T.bs l hb).row_lt
  have hbs := (hT.syms.at_ T.bs l hb).lt
  have HT := Lib.hid hT
  have HB := Lib.hid hB
  have HS := Lib.hid hb
  have HP := Lib.hid hb2
  have HA0 := Lib.hid hA0
  have h0 : 0 < t.size := by omega
  have t1 : decide (nextB m t[0] ≤ n) = false := by simpa using hc
  clear hc
  clear hT hB hb hb2 hA0
  go_enter Try.func53, Try.ntmps53
  go_wp2_with fail
  obtain ⟨W, hW⟩ : ∃ W, W = w.alloc (Obj.cells #[Value.int IntKind.i64 1, Value.string t, Value.int IntKind.i64 n] 23) := ⟨_, rfl⟩
  have hX : Blk W w.heap.size 23 #[.int .i64 1, .string t, .int .i64 n] := by rw [hW]; exact Blk.new _ _ _
  have hB0 : Below w.heap.size w W := by rw [hW]; exact (Below.refl _ _).alloc (Nat.le_refl _) _
  rw [← hW]
  clear hW
  have y0 := (hX.cell 0).trans rfl
  have y1 := (hX.cell 1).trans rfl
  have y2 := (hX.cell 2).trans rfl
  have hxl := hX.lt
  have hT0 := HT.out.below hB0
  have hBk := HB.out.below hB0
  have s1 := (hBk.1.cell 1).trans rfl
  have hbl := hBk.1.lt
  have HX := Lib.hid hX
  have HB0 := Lib.hid hB0
  have HT0 := Lib.hid hT0
  have HBk := Lib.hid hBk
  clear hX hB0 hT0 hBk
  refine wp_region_E (fun w9 => Below W.heap.size W w9) [(0, 0), (1, 0), (2, 0), (3, 1), (4, 1), (5, 2)] (by kernel_rfl) (by kernel_rfl) (fun KK hKK => ?_)
  simp only [beside, List.filterMap_cons, List.filterMap_nil, List.getElem?_toArray, List.getElem?_cons_zero, List.getElem?_cons_succ, Option.map_some]
  repeat (first | (refine wpX_w ?_ (Or.inl ⟨by rfl, fun w9 => ?_⟩) ?_; rotate_left 1; go_simp; with_reducible rfl; simp only [Act.put, List.setIfInBounds_toArray, List.set_cons_zero, List.set_cons_succ]) | (refine wpX_l ?_ (((Below.refl _ _).drew)) (Or.inl ⟨by rfl, fun w9 hw9 => ?_⟩) ?_; rotate_left 1; obtain ⟨hc9, hf9⟩ := bcell hw9; go_simp; with_reducible rfl; simp only [Act.put, List.setIfInBounds_toArray, List.set_cons_zero, List.set_cons_succ]) | (refine wpX_w undef (Or.inr ⟨by rfl, rfl⟩) ?_; simp only [Act.put, List.setIfInBounds_toArray, List.set_cons_zero, List.set_cons_succ]) | (refine wpX_l undef (((Below.refl _ _).drew)) (Or.inr ⟨by rfl, rfl⟩) ?_; simp only [Act.put, List.setIfInBounds_toArray, List.set_cons_zero, List.set_cons_succ]))
  refine wpX_e (by kernel_rfl) (fun K9 hK9 => ?_)
  go_simp
  refine (tPut_Sym ⟨1, t, n⟩ (HT0.out.below ((Below.refl _ _).drew)) HS.out (by omega)).mono ?_
  rintro e w1 ⟨rfl, hch⟩
  have HP1 := Lib.hid hch
  obtain ⟨_, _, _, hM1⟩ := hch
  have hng : ¬ SetMod T.bs (σ T.bs).sn (σ T.bs).A w.heap.size := (by
    rintro (h | ⟨_, a, ha, h⟩)
    · omega
    · have := HA0.out a ha; omega)
  have hX1 := HX.out.drew.fr hM1 hng
  have z0 := (hX1.cell 0).trans rfl
  have z1 := (hX1.cell 1).trans rfl
  have z2 := (hX1.cell 2).trans rfl
  have hxl1 := hX1.lt
  have hBk1 : TabBlk w1 T := TabBlk.kb HBk.out HP1.out.2.1
  have r2 := (hBk1.1.cell 2).trans rfl
  have hbl1 := hBk1.1.lt
  obtain ⟨σ1, hT1, hO1⟩ := HP1.out.1
  have HT1 := Lib.hid hT1
  have HO1 := Lib.hid hO1
  have HX1 := Lib.hid hX1
  have HBk1 := Lib.hid hBk1
  clear hM1 hng hX1 hBk1 hT1 hO1 y0 y1 y2 s1
  refine hK9 _ _ ?_
  clear hK9 K9
  refine wpX_nil ?_
  simp only [OnlyN_normal]
  refine hKK _ _ ?_
  clear hKK KK
  go_wp2_with fail
  refine wp_region_E (fun w9 => Below w1.heap.size w1 w9) [(0, 0), (1, 1), (2, 0), (3, 0), (4, 0), (5, 1), (6, 0), (7, 0), (8, 1), (9, 0), (10, 2), (11, 0), (12, 0)] (by kernel_rfl) (by kernel_rfl) (fun KK hKK => ?_)
  simp only [beside, List.filterMap_cons, List.filterMap_nil, List.getElem?_toArray, List.getElem?_cons_zero, List.getElem?_cons_succ, Option.map_some]
  repeat (first | (refine wpX_w ?_ (Or.inl ⟨by rfl, fun w9 => ?_⟩) ?_; rotate_left 1; go_simp; with_reducible rfl; simp only [Act.put, List.setIfInBounds_toArray, List.set_cons_zero, List.set_cons_succ]) | (refine wpX_l ?_ (((Below.refl _ _).drew)) (Or.inl ⟨by rfl, fun w9 hw9 => ?_⟩) ?_; rotate_left 1; obtain ⟨hc9, hf9⟩ := bcell hw9; go_simp; with_reducible rfl; simp only [Act.put, List.setIfInBounds_toArray, List.set_cons_zero, List.set_cons_succ]) | (refine wpX_w undef (Or.inr ⟨by rfl, rfl⟩) ?_; simp only [Act.put, List.setIfInBounds_toArray, List.set_cons_zero, List.set_cons_succ]) | (refine wpX_l undef (((Below.refl _ _).drew)) (Or.inr ⟨by rfl, rfl⟩) ?_; simp only [Act.put, List.setIfInBounds_toArray, List.set_cons_zero, List.set_cons_succ]))
  refine wpX_es (fun K9 hK9 => ?_)
  go_simp
  refine (next_is T m t[0] (HT1.out.below ((Below.refl _ _).drew)) (HBk1.out.below ((Below.refl _ _).drew)) HP.out hl2).mono ?_
  rintro e w2 ⟨rfl, hb2⟩
  have HB2 := Lib.hid ((Below.refl w1.heap.size w1).drew.trans (hb2.mono (by simp)))
  clear hb2
  refine hK9 _ _ HB2.out ?_
  clear hK9 K9
  repeat (first | (refine wpX_w ?_ (Or.inl ⟨by rfl, fun w9 => ?_⟩) ?_; rotate_left 1; go_simp; with_reducible rfl; simp only [Act.put, List.setIfInBounds_toArray, List.set_cons_zero, List.set_cons_succ]) | (refine wpX_l ?_ (HB2.out) (Or.inl ⟨by rfl, fun w9 hw9 => ?_⟩) ?_; rotate_left 1; obtain ⟨hc9, hf9⟩ := bcell hw9; go_simp; with_reducible rfl; simp only [Act.put, List.setIfInBounds_toArray, List.set_cons_zero, List.set_cons_succ]) | (refine wpX_w undef (Or.inr ⟨by rfl, rfl⟩) ?_; simp only [Act.put, List.setIfInBounds_toArray, List.set_cons_zero, List.set_cons_succ]) | (refine wpX_l undef (HB2.out) (Or.inr ⟨by rfl, rfl⟩) ?_; simp only [Act.put, List.setIfInBounds_toArray, List.set_cons_zero, List.set_cons_succ]))
  refine wpX_nil ?_
  simp only [OnlyN_normal]
  refine hKK _ _ ?_
  clear hKK KK
  go_wp2_with fail
  go_end0
  have hz0 := HB0.out.size
  refine ⟨rfl, ⟨σ1, _, (HT1.out.below HB2.out).noop HP.out, fun k hk ho ho2 => ⟨HO1.out k (by simp; omega) ho, by rw [upd_id _ _ _ HP.out]; exact ho2⟩⟩, ((KB.of_below HB0.out).trans HP1.out.2.1).trans (KB.of_below HB2.out), (((Fr.of_new HB0.out).trans ((Fr.refl _ W).drew.trans HP1.out.2.2.1)).trans (Fr.of_new HB2.out))⟩

set_option maxRecDepth 100000 in
set_option maxHeartbeats 4000000 in
theorem tabput_high (T : TB) (l : List Sym) (m : List Page) (t : ByteArray) (n : Int) (hT : Tabs D w S σ S2 σ2) (hB : TabBlk w T) (hb : S T.bs = some l) (hb2 : S2 T.bp = some m) (ht : t.size = 1) (hc : nextB m (t[0]'(by omega)) ≤ n) (hn1 : 1 ≤ n) (hn2 : n ≤ 1048576) (hl : (l.length : Int) ≤ 1000000) (hl2 : (m.length : Int) ≤ 1000000) :
    Calls Try.prog 53 #[.pointer (some ⟨T.b, 0, none⟩), .agg #[.int .i64 1, .string t, .int .i64 n]] w fun e w' => e = .returned (.tuple #[]) ∧ TabPut D w S σ S2 σ2 T (put cmpSym l ⟨1, t, n⟩) (mput m ⟨t[0]'(by omega), n + 1⟩) w' := by
  have hA0 := (hT.syms.at_ T.bs l hb).row_lt
  have hbs := (hT.syms.at_ T.bs l hb).lt
  have HT := Lib.hid hT
  have HB := Lib.hid hB
  have HS := Lib.hid hb
  have HP := Lib.hid hb2
  have HA0 := Lib.hid hA0
  have h0 : 0 < t.size := by omega
  have t1 : decide (nextB m t[0] ≤ n) = true := by simpa using hc
  have v1 : IntKind.i64.wrap (n + 1) = n + 1 := IntWalk.i64_in _ (by omega)
  clear hc
  clear hT hB hb hb2 hA0
  go_enter Try.func53, Try.ntmps53
  go_wp2_with fail
  obtain ⟨W, hW⟩ : ∃ W, W = w.alloc (Obj.cells #[Value.int IntKind.i64 1, Value.string t, Value.int IntKind.i64 n] 23) := ⟨_, rfl⟩
  have hX : Blk W w.heap.size 23 #[.int .i64 1, .string t, .int .i64 n] := by rw [hW]; exact Blk.new _ _ _
  have hB0 : Below w.heap.size w W := by rw [hW]; exact (Below.refl _ _).alloc (Nat.le_refl _) _
  rw [← hW]
  clear hW
  have y0 := (hX.cell 0).trans rfl
  have y1 := (hX.cell 1).trans rfl
  have y2 := (hX.cell 2).trans rfl
  have hxl := hX.lt
  have hT0 := HT.out.below hB0
  have hBk := HB.out.below hB0
  have s1 := (hBk.1.cell 1).trans rfl
  have hbl := hBk.1.lt
  have HX := Lib.hid hX
  have HB0 := Lib.hid hB0
  have HT0 := Lib.hid hT0
  have HBk := Lib.hid hBk
  clear hX hB0 hT0 hBk
  refine wp_region_E (fun w9 => Below W.heap.size W w9) [(0, 0), (1, 0), (2, 0), (3, 1), (4, 1), (5, 2)] (by kernel_rfl) (by kernel_rfl) (fun KK hKK => ?_)
  simp only [beside, List.filterMap_cons, List.filterMap_nil, List.getElem?_toArray, List.getElem?_cons_zero, List.getElem?_cons_succ, Option.map_some]
  repeat (first | (refine wpX_w ?_ (Or.inl ⟨by rfl, fun w9 => ?_⟩) ?_; rotate_left 1; go_simp; with_reducible rfl; simp only [Act.put, List.setIfInBounds_toArray, List.set_cons_zero, List.set_cons_succ]) | (refine wpX_l ?_ (((Below.refl _ _).drew)) (Or.inl ⟨by rfl, fun w9 hw9 => ?_⟩) ?_; rotate_left 1; obtain ⟨hc9, hf9⟩ := bcell hw9; go_simp; with_reducible rfl; simp only [Act.put, List.setIfInBounds_toArray, List.set_cons_zero, List.set_cons_succ]) | (refine wpX_w undef (Or.inr ⟨by rfl, rfl⟩) ?_; simp only [Act.put, List.setIfInBounds_toArray, List.set_cons_zero, List.set_cons_succ]) | (refine wpX_l undef (((Below.refl _ _).drew)) (Or.inr ⟨by rfl, rfl⟩) ?_; simp only [Act.put, List.setIfInBounds_toArray, List.set_cons_zero, List.set_cons_succ]))
  refine wpX_e (by kernel_rfl) (fun K9 hK9 => ?_)
  go_simp
  refine (tPut_Sym ⟨1, t, n⟩ (HT0.out.below ((Below.refl _ _).drew)) HS.out (by omega)).mono ?_
  rintro e w1 ⟨rfl, hch⟩
  have HP1 := Lib.hid hch
  obtain ⟨_, _, _, hM1⟩ := hch
  have hng : ¬ SetMod T.bs (σ T.bs).sn (σ T.bs).A w.heap.size := (by
    rintro (h | ⟨_, a, ha, h⟩)
    · omega
    · have := HA0.out a ha; omega)
  have hX1 := HX.out.drew.fr hM1 hng
  have z0 := (hX1.cell 0).trans rfl
  have z1 := (hX1.cell 1).trans rfl
  have z2 := (hX1.cell 2).trans rfl
  have hxl1 := hX1.lt
  have hBk1 : TabBlk w1 T := TabBlk.kb HBk.out HP1.out.2.1
  have r2 := (hBk1.1.cell 2).trans rfl
  have hbl1 := hBk1.1.lt
  obtain ⟨σ1, hT1, hO1⟩ := HP1.out.1
  have HT1 := Lib.hid hT1
  have HO1 := Lib.hid hO1
  have HX1 := Lib.hid hX1
  have HBk1 := Lib.hid hBk1
  clear hM1 hng hX1 hBk1 hT1 hO1 y0 y1 y2 s1
  refine hK9 _ _ ?_
  clear hK9 K9
  refine wpX_nil ?_
  simp only [OnlyN_normal]
  refine hKK _ _ ?_
  clear hKK KK
  go_wp2_with fail
  refine wp_region_E (fun w9 => Below w1.heap.size w1 w9) [(0, 0), (1, 1), (2, 0), (3, 0), (4, 0), (5, 1), (6, 0), (7, 0), (8, 1), (9, 0), (10, 2), (11, 0), (12, 0)] (by kernel_rfl) (by kernel_rfl) (fun KK hKK => ?_)
  simp only [beside, List.filterMap_cons, List.filterMap_nil, List.getElem?_toArray, List.getElem?_cons_zero, List.getElem?_cons_succ, Option.map_some]
  repeat (first | (refine wpX_w ?_ (Or.inl ⟨by rfl, fun w9 => ?_⟩) ?_; rotate_left 1; go_simp; with_reducible rfl; simp only [Act.put, List.setIfInBounds_toArray, List.set_cons_zero, List.set_cons_succ]) | (refine wpX_l ?_ (((Below.refl _ _).drew)) (Or.inl ⟨by rfl, fun w9 hw9 => ?_⟩) ?_; rotate_left 1; obtain ⟨hc9, hf9⟩ := bcell hw9; go_simp; with_reducible rfl; simp only [Act.put, List.setIfInBounds_toArray, List.set_cons_zero, List.set_cons_succ]) | (refine wpX_w undef (Or.inr ⟨by rfl, rfl⟩) ?_; simp only [Act.put, List.setIfInBounds_toArray, List.set_cons_zero, List.set_cons_succ]) | (refine wpX_l undef (((Below.refl _ _).drew)) (Or.inr ⟨by rfl, rfl⟩) ?_; simp only [Act.put, List.setIfInBounds_toArray, List.set_cons_zero, List.set_cons_succ]))
  refine wpX_es (fun K9 hK9 => ?_)
  go_simp
  refine (next_is T m t[0] (HT1.out.below ((Below.refl _ _).drew)) (HBk1.out.below ((Below.refl _ _).drew)) HP.out hl2).mono ?_
  rintro e w2 ⟨rfl, hb2⟩
  have HB2 := Lib.hid ((Below.refl w1.heap.size w1).drew.trans (hb2.mono (by simp)))
  clear hb2
  refine hK9 _ _ HB2.out ?_
  clear hK9 K9
  repeat (first | (refine wpX_w ?_ (Or.inl ⟨by rfl, fun w9 => ?_⟩) ?_; rotate_left 1; go_simp; with_reducible rfl; simp only [Act.put, List.setIfInBounds_toArray, List.set_cons_zero, List.set_cons_succ]) | (refine wpX_l ?_ (HB2.out) (Or.inl ⟨by rfl, fun w9 hw9 => ?_⟩) ?_; rotate_left 1; obtain ⟨hc9, hf9⟩ := bcell hw9; go_simp; with_reducible rfl; simp only [Act.put, List.setIfInBounds_toArray, List.set_cons_zero, List.set_cons_succ]) | (refine wpX_w undef (Or.inr ⟨by rfl, rfl⟩) ?_; simp only [Act.put, List.setIfInBounds_toArray, List.set_cons_zero, List.set_cons_succ]) | (refine wpX_l undef (HB2.out) (Or.inr ⟨by rfl, rfl⟩) ?_; simp only [Act.put, List.setIfInBounds_toArray, List.set_cons_zero, List.set_cons_succ]))
  refine wpX_nil ?_
  simp only [OnlyN_normal]
  refine hKK _ _ ?_
  clear hKK KK
  go_wp2_with fail
  have hX2 := HX1.out.new_ HB2.out
  have hT2 := HT1.out.below HB2.out
  have hBk2 := HBk1.out.below HB2.out
  have x0 := (hX2.cell 0).trans rfl
  have x1 := (hX2.cell 1).trans rfl
  have x2 := (hX2.cell 2).trans rfl
  have hxl2 := hX2.lt
  have q2 := (hBk2.1.cell 2).trans rfl
  have hbl2 := hBk2.1.lt
  have HT2 := Lib.hid hT2
  have HBk2 := Lib.hid hBk2
  clear hX2 hT2 hBk2 z0 z1 z2 r2
  refine wp_region_E (fun w9 => Below w2.heap.size w2 w9) [(0, 0), (1, 0), (2, 0), (3, 1), (4, 0), (5, 1), (6, 0), (7, 0), (8, 1), (9, 0), (10, 2)] (by kernel_rfl) (by kernel_rfl) (fun KK hKK => ?_)
  simp only [beside, List.filterMap_cons, List.filterMap_nil, List.getElem?_toArray, List.getElem?_cons_zero, List.getElem?_cons_succ, Option.map_some]
  repeat (first | (refine wpX_w ?_ (Or.inl ⟨by rfl, fun w9 => ?_⟩) ?_; rotate_left 1; go_simp; with_reducible rfl; simp only [Act.put, List.setIfInBounds_toArray, List.set_cons_zero, List.set_cons_succ]) | (refine wpX_l ?_ (((Below.refl _ _).drew)) (Or.inl ⟨by rfl, fun w9 hw9 => ?_⟩) ?_; rotate_left 1; obtain ⟨hc9, hf9⟩ := bcell hw9; go_simp; with_reducible rfl; simp only [Act.put, List.setIfInBounds_toArray, List.set_cons_zero, List.set_cons_succ]) | (refine wpX_w undef (Or.inr ⟨by rfl, rfl⟩) ?_; simp only [Act.put, List.setIfInBounds_toArray, List.set_cons_zero, List.set_cons_succ]) | (refine wpX_l undef (((Below.refl _ _).drew)) (Or.inr ⟨by rfl, rfl⟩) ?_; simp only [Act.put, List.setIfInBounds_toArray, List.set_cons_zero, List.set_cons_succ]))
  refine wpX_e (by kernel_rfl) (fun K9 hK9 => ?_)
  go_simp
  refine (mapput T.bm T.bp m t[0] (n + 1) (HT2.out.below ((Below.refl _ _).drew)) HP.out (HBk2.out.below ((Below.refl _ _).drew)).2 hl2).mono ?_
  rintro e w3 ⟨⟨r3, rfl⟩, h3⟩
  have H3 := Lib.hid h3
  clear h3
  refine hK9 _ _ ?_
  clear hK9 K9
  refine wpX_nil ?_
  simp only [OnlyN_normal]
  refine hKK _ _ ?_
  clear hKK KK
  go_wp2_with fail
  go_end0
  obtain ⟨⟨σ3, h3, h6⟩, h4, h5⟩ := H3.out
  have hz0 := HB0.out.size
  have hz1 := HP1.out.2.2.1.size
  have hz2 := HB2.out.size
  refine ⟨rfl, ⟨σ1, σ3, h3, fun k hk ho ho2 => ⟨HO1.out k (by simp; omega) ho, h6 k (by simp at hz1 ⊢; omega) ho2⟩⟩, (((KB.of_below HB0.out).trans HP1.out.2.1).trans (KB.of_below HB2.out)).trans h4, (((Fr.of_new HB0.out).trans ((Fr.refl _ W).drew.trans HP1.out.2.2.1)).trans (Fr.of_new HB2.out)).trans ((Fr.refl _ w2).drew.trans h5)⟩
/-- A right symbol is put. -/
theorem tabput (T : TB) (l : List Sym) (m : List Page) (s : Sym) (hT : Tabs D w S σ S2 σ2) (hB : TabBlk w T) (hb : S T.bs = some l) (hb2 : S2 T.bp = some m) (hv : validB s = true) (hl : (l.length : Int) ≤ 1000000) (hl2 : (m.length : Int) ≤ 1000000) :
    Calls Try.prog 53 #[.pointer (some ⟨T.b, 0, none⟩), .agg #[.int .i64 s.kind, .string s.text, .int .i64 s.n]] w fun e w' => e = .returned (.tuple #[]) ∧ TabPut D w S σ S2 σ2 T (put cmpSym l s) (tputM m s) w' := by
  obtain ⟨k, t, n⟩ := s
  by_cases hk : k = 1
  · subst hk
    obtain ⟨h1, _, h3, h4⟩ := validB_id hv
    have hi : idc t = t[0] := idc_eq (by omega)
    by_cases hc : nextB m t[0] ≤ n
    · have e : tputM m ⟨1, t, n⟩ = mput m ⟨t[0], n + 1⟩ := by unfold tputM; dsimp only; rw [hi, if_pos ⟨rfl, hc⟩]
      rw [e]
      exact tabput_high T l m t n hT hB hb hb2 h1 hc h3 h4 hl hl2
    · have e : tputM m ⟨1, t, n⟩ = m := by unfold tputM; dsimp only; rw [hi, if_neg (fun h => hc h.2)]
      rw [e]
      exact tabput_low T l m t n hT hB hb hb2 h1 hc hl hl2
  · have e : tputM m ⟨k, t, n⟩ = m := by unfold tputM; dsimp only; rw [if_neg (fun h => hk h.1)]
    rw [e]
    exact tabput_other T l m k t n hT hB hb hb2 hk hl hl2
end
end Go.Proofs.Ytlkffnmmphehdaa
