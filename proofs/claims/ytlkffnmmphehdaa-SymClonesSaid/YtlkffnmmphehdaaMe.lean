/-
  Texts put together: TabPut, TabFresh, TabHas, RangeP, SeqP, ListPSym, TabAll, KitSyms, RTabNext, RefBefore, Open.
-/
import Derived.Test.YtlkffnmmphehdaaMd
import Derived.Test.YtlkffnmmphehdaaMa
import Derived.Test.YtlkffnmmphehdaaMc
import Derived.ProofKit
import Derived.Carry
import Derived.ChangeSame
import Derived.Deep.Slices
import Derived.Deep.Strs

namespace Go.Proofs.Ytlkffnmmphehdaa
open Go.RowKit
def idc (t : ByteArray) : UInt8 := t.data.toList.headD 0
theorem idc_eq {t : ByteArray} (h : 0 < t.size) : idc t = t[0] := by
  obtain ⟨r, hr⟩ : ∃ r, t.data.toList = t[0] :: r := by
    have hs : t.data.toList.length = t.size := Array.length_toList
    refine ⟨t.data.toList.drop 1, ?_⟩
    have e : t[0] = t.data.toList[0]'(by omega) := by rw [Array.getElem_toList]; rfl
    rw [e, List.getElem_cons_drop, List.drop_zero]
  unfold idc
  rw [hr]; rfl
/-- The map of next numbers behind a symbol's put. -/
def tputM (m : List Page) (s : Sym) : List Page := if s.kind = 1 ∧ nextB m (idc s.text) ≤ s.n then mput m ⟨idc s.text, s.n + 1⟩ else m
/-- Behind a table's put. -/
def TabPut (D : Nat → Prop) (w : World) (S : Nat → Option (List Sym)) (σ : Nat → St) (S2 : Nat → Option (List Page)) (σ2 : Nat → St) (T : TB) (l : List Sym) (m : List Page) (w' : World) : Prop :=
  (∃ σ' σ2', Tabs D w' (upd S T.bs (some l)) σ' (upd S2 T.bp (some m)) σ2' ∧ ∀ k, k < w.heap.size → Off k S σ → Off k S2 σ2 → Off k (upd S T.bs (some l)) σ' ∧ Off k (upd S2 T.bp (some m)) σ2') ∧ KB w w' ∧ Fr (fun k => ¬ D k) w w'
section
variable {D : Nat → Prop} {w : World} {S : Nat → Option (List Sym)} {σ : Nat → St} {S2 : Nat → Option (List Page)} {σ2 : Nat → St}
theorem Tabs.noop {b : Nat} {m : List Page} (h : Tabs D w S σ S2 σ2) (hb : S2 b = some m) : Tabs D w S σ (upd S2 b (some m)) σ2 := by rw [upd_id _ _ _ hb]; exact h

set_option maxRecDepth 100000 in
set_option maxHeartbeats 4000000 in
theorem tabput_other (T : TB) (l : List Sym) (m : List Page) (k : Int) (t : ByteArray) (n : Int) (hT : Tabs D w S σ S2 σ2) (hB : TabBlk w T) (hb : S T.bs = some l) (hb2 : S2 T.bp = some m) (hk : ¬ k = 1) (hl : (l.length : Int) ≤ 1000000) (hl2 : (m.length : Int) ≤ 1000000) :
    Calls Try.prog 53 #[.pointer (some ⟨T.b, 0, none⟩), .agg #[.int .i64 k, .string t, .int .i64 n]] w fun e w' => e = .returned (.tuple #[]) ∧ TabPut D w S σ S2 σ2 T (put cmpSym l ⟨k, t, n⟩) m w' := by
  have hA0 := (hT.syms.at_ T.bs l hb).row_lt
  have hbs := (hT.syms.at_ T.bs l hb).lt
  have HT := Lib.hid hT
  have HB := Lib.hid hB
  have HS := Lib.hid hb
  have HP := Lib.hid hb2
  have HA0 := Lib.hid hA0
  have _hl := hl2
  have t1 : (k == 1) = false := by simp [hk]
  clear hk
  clear hT hB hb hb2 hA0
  go_enter Try.func53, Try.ntmps53
  go_wp2_with fail
  obtain ⟨W, hW⟩ : ∃ W, W = w.alloc (Obj.cells #[Value.int IntKind.i64 k, Value.string t, Value.int IntKind.i64 n] 23) := ⟨_, rfl⟩
  have hX : Blk W w.heap.size 23 #[.int .i64 k, .string t, .int .i64 n] := by rw [hW]; exact Blk.new _ _ _
  have hB0 : Below w.heap.size w W := by rw [hW]; exact (Below.refl _ _).alloc (Nat.le_refl _) _
  rw [← hW]
  clear hW
  have y0 := (hX.cell 0).trans rfl
  have y1 := (hX.cell 1).trans rfl
  have y2 := (hX.cell 2).trans rfl
  have hxl := hX.lt
  have hT0 := HT.out.below hB0
  have hBk := HB.out.below hB0
  have s1 := (hBk.1.cell 1).trans rfl
  have hbl := hBk.1.lt
  have HX := Lib.hid hX
  have HB0 := Lib.hid hB0
  have HT0 := Lib.hid hT0
  have HBk := Lib.hid hBk
  clear hX hB0 hT0 hBk
  refine wp_region_E (fun w9 => Below W.heap.size W w9) [(0, 0), (1, 0), (2, 0), (3, 1), (4, 1), (5, 2)] (by kernel_rfl) (by kernel_rfl) (fun KK hKK => ?_)
  simp only [beside, List.filterMap_cons, List.filterMap_nil, List.getElem?_toArray, List.getElem?_cons_zero, List.getElem?_cons_succ, Option.map_some]
  repeat (first | (refine wpX_w ?_ (Or.inl ⟨by rfl, fun w9 => ?_⟩) ?_; rotate_left 1; go_simp; with_reducible rfl; simp only [Act.put, List.setIfInBounds_toArray, List.set_cons_zero, List.set_cons_succ]) | (refine wpX_l ?_ (((Below.refl _ _).drew)) (Or.inl ⟨by rfl, fun w9 hw9 => ?_⟩) ?_; rotate_left 1; obtain ⟨hc9, hf9⟩ := bcell hw9; go_simp; with_reducible rfl; simp only [Act.put, List.setIfInBounds_toArray, List.set_cons_zero, List.set_cons_succ]) | (refine wpX_w undef (Or.inr ⟨by rfl, rfl⟩) ?_; simp only [Act.put, List.setIfInBounds_toArray, List.set_cons_zero, List.set_cons_succ]) | (refine wpX_l undef (((Below.refl _ _).drew)) (Or.inr ⟨by rfl, rfl⟩) ?_; simp only [Act.put, List.setIfInBounds_toArray, List.set_cons_zero, List.set_cons_succ]))
  refine wpX_e (by kernel_rfl) (fun K9 hK9 => ?_)
  go_simp
  refine (tPut_Sym ⟨k, t, n⟩ (HT0.out.below ((Below.refl _ _).drew)) HS.out (by omega)).mono ?_
  rintro e w1 ⟨rfl, hch⟩
  have HP1 := Lib.hid hch
  obtain ⟨_, _, _, hM1⟩ := hch
  have hng : ¬ SetMod T.bs (σ T.bs).sn (σ T.bs).A w.heap.size := (by
    rintro (h | ⟨_, a, ha, h⟩)
    · omega
    · have := HA0.out a ha; omega)
  have hX1 := HX.out.drew.fr hM1 hng
  have z0 := (hX1.cell 0).trans rfl
  have z1 := (hX1.cell 1).trans rfl
  have z2 := (hX1.cell 2).trans rfl
  have hxl1 := hX1.lt
  have hBk1 : TabBlk w1 T := TabBlk.kb HBk.out HP1.out.2.1
  have r2 := (hBk1.1.cell 2).trans rfl
  have hbl1 := hBk1.1.lt
  obtain ⟨σ1, hT1, hO1⟩ := HP1.out.1
  have HT1 := Lib.hid hT1
  have HO1 := Lib.hid hO1
  have HX1 := Lib.hid hX1
  have HBk1 := Lib.hid hBk1
  clear hM1 hng hX1 hBk1 hT1 hO1 y0 y1 y2 s1
  refine hK9 _ _ ?_
  clear hK9 K9
  refine wpX_nil ?_
  simp only [OnlyN_normal]
  refine hKK _ _ ?_
  clear hKK KK
  go_wp2_with fail
  refine wp_region_E (fun w9 => Below w1.heap.size w1 w9) [(0, 0), (1, 1), (2, 0), (3, 0), (4, 0), (5, 1), (6, 0), (7, 0), (8, 1), (9, 0), (10, 2), (11, 0), (12, 0)] (by kernel_rfl) (by kernel_rfl) (fun KK hKK => ?_)
  simp only [beside, List.filterMap_cons, List.filterMap_nil, List.getElem?_toArray, List.getElem?_cons_zero, List.getElem?_cons_succ, Option.map_some]
  repeat (first | (refine wpX_w ?_ (Or.inl ⟨by rfl, fun w9 => ?_⟩) ?_; rotate_left 1; go_simp; with_reducible rfl; simp only [Act.put, List.setIfInBounds_toArray, List.set_cons_zero, List.set_cons_succ]) | (refine wpX_l ?_ (((Below.refl _ _).drew)) (Or.inl ⟨by rfl, fun w9 hw9 => ?_⟩) ?_; rotate_left 1; obtain ⟨hc9, hf9⟩ := bcell hw9; go_simp; with_reducible rfl; simp only [Act.put, List.setIfInBounds_toArray, List.set_cons_zero, List.set_cons_succ]) | (refine wpX_w undef (Or.inr ⟨by rfl, rfl⟩) ?_; simp only [Act.put, List.setIfInBounds_toArray, List.set_cons_zero, List.set_cons_succ]) | (refine wpX_l undef (((Below.refl _ _).drew)) (Or.inr ⟨by rfl, rfl⟩) ?_; simp only [Act.put, List.setIfInBounds_toArray, List.set_cons_zero, List.set_cons_succ]))
  refine wpX_es (fun K9 hK9 => ?_)
  go_simp
  have HB2 := Lib.hid ((Below.refl w1.heap.size w1).drew)
  refine hK9 _ _ HB2.out ?_
  clear hK9 K9
  repeat (first | (refine wpX_w ?_ (Or.inl ⟨by rfl, fun w9 => ?_⟩) ?_; rotate_left 1; go_simp; with_reducible rfl; simp only [Act.put, List.setIfInBounds_toArray, List.set_cons_zero, List.set_cons_succ]) | (refine wpX_l ?_ (HB2.out) (Or.inl ⟨by rfl, fun w9 hw9 => ?_⟩) ?_; rotate_left 1; obtain ⟨hc9, hf9⟩ := bcell hw9; go_simp; with_reducible rfl; simp only [Act.put, List.setIfInBounds_toArray, List.set_cons_zero, List.set_cons_succ]) | (refine wpX_w undef (Or.inr ⟨by rfl, rfl⟩) ?_; simp only [Act.put, List.setIfInBounds_toArray, List.set_cons_zero, List.set_cons_succ]) | (refine wpX_l undef (HB2.out) (Or.inr ⟨by rfl, rfl⟩) ?_; simp only [Act.put, List.setIfInBounds_toArray, List.set_cons_zero, List.set_cons_succ]))
  refine wpX_nil ?_
  simp only [OnlyN_normal]
  refine hKK _ _ ?_
  clear hKK KK
  go_wp2_with fail
  go_end0
  have hz0 := HB0.out.size
  refine ⟨rfl, ⟨σ1, _, (HT1.out.below HB2.out).noop HP.out, fun k hk ho ho2 => ⟨HO1.out k (by simp; omega) ho, by rw [upd_id _ _ _ HP.out]; exact ho2⟩⟩, ((KB.of_below HB0.out).trans HP1.out.2.1).trans (KB.of_below HB2.out), (((Fr.of_new HB0.out).trans ((Fr.refl _ W).drew.trans HP1.out.2.2.1)).trans (Fr.of_new HB2.out))⟩

set_option maxRecDepth 100000 in
set_option maxHeartbeats 4000000 in
theorem tabput_low (T : TB) (l : List Sym) (m : List Page) (t : ByteArray) (n : Int) (hT : Tabs D w S σ S2 σ2) (hB : TabBlk w T) (hb : S T.bs = some l) (hb2 : S2 T.bp = some m) (ht : t.size = 1) (hc : ¬ nextB m (t[0]'(by omega)) ≤ n) (hl : (l.length : Int) ≤ 1000000) (hl2 : (m.length : Int) ≤ 1000000) :
    Calls Try.prog 53 #[.pointer (some ⟨T.b, 0, none⟩), .agg #[.int .i64 1, .string t, .int .i64 n]] w fun e w' => e = .returned (.tuple #[]) ∧ TabPut D w S σ S2 σ2 T (put cmpSym l ⟨1, t, n⟩) m w' := by
  have hA0 := (hT.syms.at_ T.bs l hb).row_lt
  have hbs := (hT.syms.at_ T.bs l hb).lt
  have HT := Lib.hid hT
  have HB := Lib.hid hB
  have HS := Lib.hid hb
  have HP := Lib.hid hb2
  have HA0 := Lib.hid hA0
  have h0 : 0 < t.size := by omega
  have t1 : decide (nextB m t[0] ≤ n) = false := by simpa using hc
  clear hc
  clear hT hB hb hb2 hA0
  go_enter Try.func53, Try.ntmps53
  go_wp2_with fail
  obtain ⟨W, hW⟩ : ∃ W, W = w.alloc (Obj.cells #[Value.int IntKind.i64 1, Value.string t, Value.int IntKind.i64 n] 23) := ⟨_, rfl⟩
  have hX : Blk W w.heap.size 23 #[.int .i64 1, .string t, .int .i64 n] := by rw [hW]; exact Blk.new _ _ _
  have hB0 : Below w.heap.size w W := by rw [hW]; exact (Below.refl _ _).alloc (Nat.le_refl _) _
  rw [← hW]
  clear hW
  have y0 := (hX.cell 0).trans rfl
  have y1 := (hX.cell 1).trans rfl
  have y2 := (hX.cell 2).trans rfl
  have hxl := hX.lt
  have hT0 := HT.out.below hB0
  have hBk := HB.out.below hB0
  have s1 := (hBk.1.cell 1).trans rfl
  have hbl := hBk.1.lt
  have HX := Lib.hid hX
  have HB0 := Lib.hid hB0
  have HT0 := Lib.hid hT0
  have HBk := Lib.hid hBk
  clear hX hB0 hT0 hBk
  refine wp_region_E (fun w9 => Below W.heap.size W w9) [(0, 0), (1, 0), (2, 0), (3, 1), (4, 1), (5, 2)] (by kernel_rfl) (by kernel_rfl) (fun KK hKK => ?_)
  simp only [beside, List.filterMap_cons, List.filterMap_nil, List.getElem?_toArray, List.getElem?_cons_zero, List.getElem?_cons_succ, Option.map_some]
  repeat (first | (refine wpX_w ?_ (Or.inl ⟨by rfl, fun w9 => ?_⟩) ?_; rotate_left 1; go_simp; with_reducible rfl; simp only [Act.put, List.setIfInBounds_toArray, List.set_cons_zero, List.set_cons_succ]) | (refine wpX_l ?_ (((Below.refl _ _).drew)) (Or.inl ⟨by rfl, fun w9 hw9 => ?_⟩) ?_; rotate_left 1; obtain ⟨hc9, hf9⟩ := bcell hw9; go_simp; with_reducible rfl; simp only [Act.put, List.setIfInBounds_toArray, List.set_cons_zero, List.set_cons_succ]) | (refine wpX_w undef (Or.inr ⟨by rfl, rfl⟩) ?_; simp only [Act.put, List.setIfInBounds_toArray, List.set_cons_zero, List.set_cons_succ]) | (refine wpX_l undef (((Below.refl _ _).drew)) (Or.inr ⟨by rfl, rfl⟩) ?_; simp only [Act.put, List.setIfInBounds_toArray, List.set_cons_zero, List.set_cons_succ]))
  refine wpX_e (by kernel_rfl) (fun K9 hK9 => ?_)
  go_simp
  refine (tPut_Sym ⟨1, t, n⟩ (HT0.out.below ((Below.refl _ _).drew)) HS.out (by omega)).mono ?_
  rintro e w1 ⟨rfl, hch⟩
  have HP1 := Lib.hid hch
  obtain ⟨_, _, _, hM1⟩ := hch
  have hng : ¬ SetMod T.bs (σ T.bs).sn (σ T.bs).A w.heap.size := (by
    rintro (h | ⟨_, a, ha, h⟩)
    · omega
    · have := HA0.out a ha; omega)
  have hX1 := HX.out.drew.fr hM1 hng
  have z0 := (hX1.cell 0).trans rfl
  have z1 := (hX1.cell 1).trans rfl
  have z2 := (hX1.cell 2).trans rfl
  have hxl1 := hX1.lt
  have hBk1 : TabBlk w1 T := TabBlk.kb HBk.out HP1.out.2.1
  have r2 := (hBk1.1.cell 2).trans rfl
  have hbl1 := hBk1.1.lt
  obtain ⟨σ1, hT1, hO1⟩ := HP1.out.1
  have HT1 := Lib.hid hT1
  have HO1 := Lib.hid hO1
  have HX1 := Lib.hid hX1
  have HBk1 := Lib.hid hBk1
  clear hM1 hng hX1 hBk1 hT1 hO1 y0 y1 y2 s1
  refine hK9 _ _ ?_
  clear hK9 K9
  refine wpX_nil ?_
  simp only [OnlyN_normal]
  refine hKK _ _ ?_
  clear hKK KK
  go_wp2_with fail
  refine wp_region_E (fun w9 => Below w1.heap.size w1 w9) [(0, 0), (1, 1), (2, 0), (3, 0), (4, 0), (5, 1), (6, 0), (7, 0), (8, 1), (9, 0), (10, 2), (11, 0), (12, 0)] (by kernel_rfl) (by kernel_rfl) (fun KK hKK => ?_)
  simp only [beside, List.filterMap_cons, List.filterMap_nil, List.getElem?_toArray, List.getElem?_cons_zero, List.getElem?_cons_succ, Option.map_some]
  repeat (first | (refine wpX_w ?_ (Or.inl ⟨by rfl, fun w9 => ?_⟩) ?_; rotate_left 1; go_simp; with_reducible rfl; simp only [Act.put, List.setIfInBounds_toArray, List.set_cons_zero, List.set_cons_succ]) | (refine wpX_l ?_ (((Below.refl _ _).drew)) (Or.inl ⟨by rfl, fun w9 hw9 => ?_⟩) ?_; rotate_left 1; obtain ⟨hc9, hf9⟩ := bcell hw9; go_simp; with_reducible rfl; simp only [Act.put, List.setIfInBounds_toArray, List.set_cons_zero, List.set_cons_succ]) | (refine wpX_w undef (Or.inr ⟨by rfl, rfl⟩) ?_; simp only [Act.put, List.setIfInBounds_toArray, List.set_cons_zero, List.set_cons_succ]) | (refine wpX_l undef (((Below.refl _ _).drew)) (Or.inr ⟨by rfl, rfl⟩) ?_; simp only [Act.put, List.setIfInBounds_toArray, List.set_cons_zero, List.set_cons_succ]))
  refine wpX_es (fun K9 hK9 => ?_)
  go_simp
  refine (next_is T m t[0] (HT1.out.below ((Below.refl _ _).drew)) (HBk1.out.below ((Below.refl _ _).drew)) HP.out hl2).mono ?_
  rintro e w2 ⟨rfl, hb2⟩
  have HB2 := Lib.hid ((Below.refl w1.heap.size w1).drew.trans (hb2.mono (by simp)))
  clear hb2
  refine hK9 _ _ HB2.out ?_
  clear hK9 K9
  repeat (first | (refine wpX_w ?_ (Or.inl ⟨by rfl, fun w9 => ?_⟩) ?_; rotate_left 1; go_simp; with_reducible rfl; simp only [Act.put, List.setIfInBounds_toArray, List.set_cons_zero, List.set_cons_succ]) | (refine wpX_l ?_ (HB2.out) (Or.inl ⟨by rfl, fun w9 hw9 => ?_⟩) ?_; rotate_left 1; obtain ⟨hc9, hf9⟩ := bcell hw9; go_simp; with_reducible rfl; simp only [Act.put, List.setIfInBounds_toArray, List.set_cons_zero, List.set_cons_succ]) | (refine wpX_w undef (Or.inr ⟨by rfl, rfl⟩) ?_; simp only [Act.put, List.setIfInBounds_toArray, List.set_cons_zero, List.set_cons_succ]) | (refine wpX_l undef (HB2.out) (Or.inr ⟨by rfl, rfl⟩) ?_; simp only [Act.put, List.setIfInBounds_toArray, List.set_cons_zero, List.set_cons_succ]))
  refine wpX_nil ?_
  simp only [OnlyN_normal]
  refine hKK _ _ ?_
  clear hKK KK
  go_wp2_with fail
  go_end0
  have hz0 := HB0.out.size
  refine ⟨rfl, ⟨σ1, _, (HT1.out.below HB2.out).noop HP.out, fun k hk ho ho2 => ⟨HO1.out k (by simp; omega) ho, by rw [upd_id _ _ _ HP.out]; exact ho2⟩⟩, ((KB.of_below HB0.out).trans HP1.out.2.1).trans (KB.of_below HB2.out), (((Fr.of_new HB0.out).trans ((Fr.refl _ W).drew.trans HP1.out.2.2.1)).trans (Fr.of_new HB2.out))⟩

set_option maxRecDepth 100000 in
set_option maxHeartbeats 4000000 in
theorem tabput_high (T : TB) (l : List Sym) (m : List Page) (t : ByteArray) (n : Int) (hT : Tabs D w S σ S2 σ2) (hB : TabBlk w T) (hb : S T.bs = some l) (hb2 : S2 T.bp = some m) (ht : t.size = 1) (hc : nextB m (t[0]'(by omega)) ≤ n) (hn1 : 1 ≤ n) (hn2 : n ≤ 1048576) (hl : (l.length : Int) ≤ 1000000) (hl2 : (m.length : Int) ≤ 1000000) :
    Calls Try.prog 53 #[.pointer (some ⟨T.b, 0, none⟩), .agg #[.int .i64 1, .string t, .int .i64 n]] w fun e w' => e = .returned (.tuple #[]) ∧ TabPut D w S σ S2 σ2 T (put cmpSym l ⟨1, t, n⟩) (mput m ⟨t[0]'(by omega), n + 1⟩) w' := by
  have hA0 := (hT.syms.at_ T.bs l hb).row_lt
  have hbs := (hT.syms.at_ T.bs l hb).lt
  have HT := Lib.hid hT
  have HB := Lib.hid hB
  have HS := Lib.hid hb
  have HP := Lib.hid hb2
  have HA0 := Lib.hid hA0
  have h0 : 0 < t.size := by omega
  have t1 : decide (nextB m t[0] ≤ n) = true := by simpa using hc
  have v1 : IntKind.i64.wrap (n + 1) = n + 1 := IntWalk.i64_in _ (by omega)
  clear hc
  clear hT hB hb hb2 hA0
  go_enter Try.func53, Try.ntmps53
  go_wp2_with fail
  obtain ⟨W, hW⟩ : ∃ W, W = w.alloc (Obj.cells #[Value.int IntKind.i64 1, Value.string t, Value.int IntKind.i64 n] 23) := ⟨_, rfl⟩
  have hX : Blk W w.heap.size 23 #[.int .i64 1, .string t, .int .i64 n] := by rw [hW]; exact Blk.new _ _ _
  have hB0 : Below w.heap.size w W := by rw [hW]; exact (Below.refl _ _).alloc (Nat.le_refl _) _
  rw [← hW]
  clear hW
  have y0 := (hX.cell 0).trans rfl
  have y1 := (hX.cell 1).trans rfl
  have y2 := (hX.cell 2).trans rfl
  have hxl := hX.lt
  have hT0 := HT.out.below hB0
  have hBk := HB.out.below hB0
  have s1 := (hBk.1.cell 1).trans rfl
  have hbl := hBk.1.lt
  have HX := Lib.hid hX
  have HB0 := Lib.hid hB0
  have HT0 := Lib.hid hT0
  have HBk := Lib.hid hBk
  clear hX hB0 hT0 hBk
  refine wp_region_E (fun w9 => Below W.heap.size W w9) [(0, 0), (1, 0), (2, 0), (3, 1), (4, 1), (5, 2)] (by kernel_rfl) (by kernel_rfl) (fun KK hKK => ?_)
  simp only [beside, List.filterMap_cons, List.filterMap_nil, List.getElem?_toArray, List.getElem?_cons_zero, List.getElem?_cons_succ, Option.map_some]
  repeat (first | (refine wpX_w ?_ (Or.inl ⟨by rfl, fun w9 => ?_⟩) ?_; rotate_left 1; go_simp; with_reducible rfl; simp only [Act.put, List.setIfInBounds_toArray, List.set_cons_zero, List.set_cons_succ]) | (refine wpX_l ?_ (((Below.refl _ _).drew)) (Or.inl ⟨by rfl, fun w9 hw9 => ?_⟩) ?_; rotate_left 1; obtain ⟨hc9, hf9⟩ := bcell hw9; go_simp; with_reducible rfl; simp only [Act.put, List.setIfInBounds_toArray, List.set_cons_zero, List.set_cons_succ]) | (refine wpX_w undef (Or.inr ⟨by rfl, rfl⟩) ?_; simp only [Act.put, List.setIfInBounds_toArray, List.set_cons_zero, List.set_cons_succ]) | (refine wpX_l undef (((Below.refl _ _).drew)) (Or.inr ⟨by rfl, rfl⟩) ?_; simp only [Act.put, List.setIfInBounds_toArray, List.set_cons_zero, List.set_cons_succ]))
  refine wpX_e (by kernel_rfl) (fun K9 hK9 => ?_)
  go_simp
  refine (tPut_Sym ⟨1, t, n⟩ (HT0.out.below ((Below.refl _ _).drew)) HS.out (by omega)).mono ?_
  rintro e w1 ⟨rfl, hch⟩
  have HP1 := Lib.hid hch
  obtain ⟨_, _, _, hM1⟩ := hch
  have hng : ¬ SetMod T.bs (σ T.bs).sn (σ T.bs).A w.heap.size := (by
    rintro (h | ⟨_, a, ha, h⟩)
    · omega
    · have := HA0.out a ha; omega)
  have hX1 := HX.out.drew.fr hM1 hng
  have z0 := (hX1.cell 0).trans rfl
  have z1 := (hX1.cell 1).trans rfl
  have z2 := (hX1.cell 2).trans rfl
  have hxl1 := hX1.lt
  have hBk1 : TabBlk w1 T := TabBlk.kb HBk.out HP1.out.2.1
  have r2 := (hBk1.1.cell 2).trans rfl
  have hbl1 := hBk1.1.lt
  obtain ⟨σ1, hT1, hO1⟩ := HP1.out.1
  have HT1 := Lib.hid hT1
  have HO1 := Lib.hid hO1
  have HX1 := Lib.hid hX1
  have HBk1 := Lib.hid hBk1
  clear hM1 hng hX1 hBk1 hT1 hO1 y0 y1 y2 s1
  refine hK9 _ _ ?_
  clear hK9 K9
  refine wpX_nil ?_
  simp only [OnlyN_normal]
  refine hKK _ _ ?_
  clear hKK KK
  go_wp2_with fail
  refine wp_region_E (fun w9 => Below w1.heap.size w1 w9) [(0, 0), (1, 1), (2, 0), (3, 0), (4, 0), (5, 1), (6, 0), (7, 0), (8, 1), (9, 0), (10, 2), (11, 0), (12, 0)] (by kernel_rfl) (by kernel_rfl) (fun KK hKK => ?_)
  simp only [beside, List.filterMap_cons, List.filterMap_nil, List.getElem?_toArray, List.getElem?_cons_zero, List.getElem?_cons_succ, Option.map_some]
  repeat (first | (refine wpX_w ?_ (Or.inl ⟨by rfl, fun w9 => ?_⟩) ?_; rotate_left 1; go_simp; with_reducible rfl; simp only [Act.put, List.setIfInBounds_toArray, List.set_cons_zero, List.set_cons_succ]) | (refine wpX_l ?_ (((Below.refl _ _).drew)) (Or.inl ⟨by rfl, fun w9 hw9 => ?_⟩) ?_; rotate_left 1; obtain ⟨hc9, hf9⟩ := bcell hw9; go_simp; with_reducible rfl; simp only [Act.put, List.setIfInBounds_toArray, List.set_cons_zero, List.set_cons_succ]) | (refine wpX_w undef (Or.inr ⟨by rfl, rfl⟩) ?_; simp only [Act.put, List.setIfInBounds_toArray, List.set_cons_zero, List.set_cons_succ]) | (refine wpX_l undef (((Below.refl _ _).drew)) (Or.inr ⟨by rfl, rfl⟩) ?_; simp only [Act.put, List.setIfInBounds_toArray, List.set_cons_zero, List.set_cons_succ]))
  refine wpX_es (fun K9 hK9 => ?_)
  go_simp
  refine (next_is T m t[0] (HT1.out.below ((Below.refl _ _).drew)) (HBk1.out.below ((Below.refl _ _).drew)) HP.out hl2).mono ?_
  rintro e w2 ⟨rfl, hb2⟩
  have HB2 := Lib.hid ((Below.refl w1.heap.size w1).drew.trans (hb2.mono (by simp)))
  clear hb2
  refine hK9 _ _ HB2.out ?_
  clear hK9 K9
  repeat (first | (refine wpX_w ?_ (Or.inl ⟨by rfl, fun w9 => ?_⟩) ?_; rotate_left 1; go_simp; with_reducible rfl; simp only [Act.put, List.setIfInBounds_toArray, List.set_cons_zero, List.set_cons_succ]) | (refine wpX_l ?_ (HB2.out) (Or.inl ⟨by rfl, fun w9 hw9 => ?_⟩) ?_; rotate_left 1; obtain ⟨hc9, hf9⟩ := bcell hw9; go_simp; with_reducible rfl; simp only [Act.put, List.setIfInBounds_toArray, List.set_cons_zero, List.set_cons_succ]) | (refine wpX_w undef (Or.inr ⟨by rfl, rfl⟩) ?_; simp only [Act.put, List.setIfInBounds_toArray, List.set_cons_zero, List.set_cons_succ]) | (refine wpX_l undef (HB2.out) (Or.inr ⟨by rfl, rfl⟩) ?_; simp only [Act.put, List.setIfInBounds_toArray, List.set_cons_zero, List.set_cons_succ]))
  refine wpX_nil ?_
  simp only [OnlyN_normal]
  refine hKK _ _ ?_
  clear hKK KK
  go_wp2_with fail
  have hX2 := HX1.out.new_ HB2.out
  have hT2 := HT1.out.below HB2.out
  have hBk2 := HBk1.out.below HB2.out
  have x0 := (hX2.cell 0).trans rfl
  have x1 := (hX2.cell 1).trans rfl
  have x2 := (hX2.cell 2).trans rfl
  have hxl2 := hX2.lt
  have q2 := (hBk2.1.cell 2).trans rfl
  have hbl2 := hBk2.1.lt
  have HT2 := Lib.hid hT2
  have HBk2 := Lib.hid hBk2
  clear hX2 hT2 hBk2 z0 z1 z2 r2
  refine wp_region_E (fun w9 => Below w2.heap.size w2 w9) [(0, 0), (1, 0), (2, 0), (3, 1), (4, 0), (5, 1), (6, 0), (7, 0), (8, 1), (9, 0), (10, 2)] (by kernel_rfl) (by kernel_rfl) (fun KK hKK => ?_)
  simp only [beside, List.filterMap_cons, List.filterMap_nil, List.getElem?_toArray, List.getElem?_cons_zero, List.getElem?_cons_succ, Option.map_some]
  repeat (first | (refine wpX_w ?_ (Or.inl ⟨by rfl, fun w9 => ?_⟩) ?_; rotate_left 1; go_simp; with_reducible rfl; simp only [Act.put, List.setIfInBounds_toArray, List.set_cons_zero, List.set_cons_succ]) | (refine wpX_l ?_ (((Below.refl _ _).drew)) (Or.inl ⟨by rfl, fun w9 hw9 => ?_⟩) ?_; rotate_left 1; obtain ⟨hc9, hf9⟩ := bcell hw9; go_simp; with_reducible rfl; simp only [Act.put, List.setIfInBounds_toArray, List.set_cons_zero, List.set_cons_succ]) | (refine wpX_w undef (Or.inr ⟨by rfl, rfl⟩) ?_; simp only [Act.put, List.setIfInBounds_toArray, List.set_cons_zero, List.set_cons_succ]) | (refine wpX_l undef (((Below.refl _ _).drew)) (Or.inr ⟨by rfl, rfl⟩) ?_; simp only [Act.put, List.setIfInBounds_toArray, List.set_cons_zero, List.set_cons_succ]))
  refine wpX_e (by kernel_rfl) (fun K9 hK9 => ?_)
  go_simp
  refine (mapput T.bm T.bp m t[0] (n + 1) (HT2.out.below ((Below.refl _ _).drew)) HP.out (HBk2.out.below ((Below.refl _ _).drew)).2 hl2).mono ?_
  rintro e w3 ⟨⟨r3, rfl⟩, h3⟩
  have H3 := Lib.hid h3
  clear h3
  refine hK9 _ _ ?_
  clear hK9 K9
  refine wpX_nil ?_
  simp only [OnlyN_normal]
  refine hKK _ _ ?_
  clear hKK KK
  go_wp2_with fail
  go_end0
  obtain ⟨⟨σ3, h3, h6⟩, h4, h5⟩ := H3.out
  have hz0 := HB0.out.size
  have hz1 := HP1.out.2.2.1.size
  have hz2 := HB2.out.size
  refine ⟨rfl, ⟨σ1, σ3, h3, fun k hk ho ho2 => ⟨HO1.out k (by simp; omega) ho, h6 k (by simp at hz1 ⊢; omega) ho2⟩⟩, (((KB.of_below HB0.out).trans HP1.out.2.1).trans (KB.of_below HB2.out)).trans h4, (((Fr.of_new HB0.out).trans ((Fr.refl _ W).drew.trans HP1.out.2.2.1)).trans (Fr.of_new HB2.out)).trans ((Fr.refl _ w2).drew.trans h5)⟩
/-- A right symbol is put. -/
theorem tabput (T : TB) (l : List Sym) (m : List Page) (s : Sym) (hT : Tabs D w S σ S2 σ2) (hB : TabBlk w T) (hb : S T.bs = some l) (hb2 : S2 T.bp = some m) (hv : validB s = true) (hl : (l.length : Int) ≤ 1000000) (hl2 : (m.length : Int) ≤ 1000000) :
    Calls Try.prog 53 #[.pointer (some ⟨T.b, 0, none⟩), .agg #[.int .i64 s.kind, .string s.text, .int .i64 s.n]] w fun e w' => e = .returned (.tuple #[]) ∧ TabPut D w S σ S2 σ2 T (put cmpSym l s) (tputM m s) w' := by
  obtain ⟨k, t, n⟩ := s
  by_cases hk : k = 1
  · subst hk
    obtain ⟨h1, _, h3, h4⟩ := validB_id hv
    have hi : idc t = t[0] := idc_eq (by omega)
    by_cases hc : nextB m t[0] ≤ n
    · have e : tputM m ⟨1, t, n⟩ = mput m ⟨t[0], n + 1⟩ := by unfold tputM; dsimp only; rw [hi, if_pos ⟨rfl, hc⟩]
      rw [e]
      exact tabput_high T l m t n hT hB hb hb2 h1 hc h3 h4 hl hl2
    · have e : tputM m ⟨1, t, n⟩ = m := by unfold tputM; dsimp only; rw [hi, if_neg (fun h => hc h.2)]
      rw [e]
      exact tabput_low T l m t n hT hB hb hb2 h1 hc hl hl2
  · have e : tputM m ⟨k, t, n⟩ = m := by unfold tputM; dsimp only; rw [if_neg (fun h => hk h.1)]
    rw [e]
    exact tabput_other T l m k t n hT hB hb hb2 hk hl hl2
end
end Go.Proofs.Ytlkffnmmphehdaa

namespace Go.Proofs.Ytlkffnmmphehdaa
open Go.RowKit
/-- A text of one byte. -/
def letB (c : UInt8) : ByteArray := ⟨#[c]⟩
theorem letB_size (c : UInt8) : (letB c).size = 1 := rfl
theorem letB_get (c : UInt8) : (letB c)[0]'(by rw [letB_size]; omega) = c := rfl
theorem convL (c : UInt8) (W : World) (g : Nat) (hc : W.cell? ⟨g, 0, none⟩ = some (.int .u8 (c.toNat : Int))) : (convert 58 9 (.slice (some ⟨g, 0, none⟩) 1 1)).run Try.prog W = .ok (.string (letB c)) W :=
  Lib.run_convert_whole (P := Try.prog) W 58 5 9 Try.underlying58 Try.underlying5 Try.underlying9 g 0 (letB c) (fun i hi => by
    have : i = 0 := by have := letB_size c; omega
    subst this
    rw [Nat.add_zero, hc]
    rfl) 1
theorem valid_let {c : UInt8} {n : Int} (h : greatB c = true) (h1 : 1 ≤ n) (h2 : n ≤ 1048576) : validB ⟨1, letB c, n⟩ = true := by
  have e : headB greatB (letB c) = true := by rw [headB_eq (by rw [letB_size]; omega)]; exact h
  simp [validB, letB_size, e, h1, h2]
section
variable {D : Nat → Prop} {w : World} {S : Nat → Option (List Sym)} {σ : Nat → St} {S2 : Nat → Option (List Page)} {σ2 : Nat → St}
set_option maxHeartbeats 1000000 in
theorem fresh_arg (T : TB) (c : UInt8) (hg : greatB c = false) : Calls Try.prog 25 #[.pointer (some ⟨T.b, 0, none⟩), .int .u8 (c.toNat : Int)] w fun e w' => e = .returned (.tuple #[.agg #[.int .i64 0, .string ⟨#[]⟩, .int .i64 0], .int .i64 1]) ∧ Below w.heap.size w w' := by
  go_enter Try.func25, Try.ntmps25
  go_wp2_with (go_at_call 37; refine (great_is _ _).mono ?_; rintro e w' ⟨rfl, rfl⟩)
  exact bodyPost_ret (v := .tuple #[.agg #[.int .i64 0, .string ⟨#[]⟩, .int .i64 0], .int .i64 1]) (by simp [results, Try.results25, go_sem]) rfl ⟨rfl, by (repeat (first | exact Below.refl _ _ | (refine Below.drew ?_) | (refine Below.alloc ?_ (by simp <;> omega) _) | (refine Below.setCell ?_ (by simp <;> omega) _)))⟩

set_option maxRecDepth 100000 in
set_option maxHeartbeats 4000000 in
theorem fresh_full (T : TB) (l : List Sym) (m : List Page) (c : UInt8) (hT : Tabs D w S σ S2 σ2) (hB : TabBlk w T) (hb : S T.bs = some l) (hb2 : S2 T.bp = some m) (hg : greatB c = true) (hf : T.room ≤ l.length) (hl2 : (m.length : Int) ≤ 1000000) :
    Calls Try.prog 25 #[.pointer (some ⟨T.b, 0, none⟩), .int .u8 (c.toNat : Int)] w fun e w' => e = .returned (.tuple #[.agg #[.int .i64 0, .string ⟨#[]⟩, .int .i64 0], .int .i64 20]) ∧ Below w.heap.size w w' := by
  have t1 : decide (T.room ≤ (l.length : Int)) = true := by simpa using hf
  clear hf
  have HT := Lib.hid hT
  have HB := Lib.hid hB
  have HS := Lib.hid hb
  have HP := Lib.hid hb2
  clear hT hB hb hb2
  go_enter Try.func25, Try.ntmps25
  go_wp2_with (go_at_call 37; refine (great_is _ _).mono ?_; rintro e w' ⟨rfl, rfl⟩)
  refine (next_is T m c (HT.out.below ((Below.refl _ _).alloc (Nat.le_refl _) _)) (HB.out.below ((Below.refl _ _).alloc (Nat.le_refl _) _)) HP.out hl2).mono ?_
  rintro e w1 ⟨rfl, hb1⟩
  have hZ : Blk w1 w.heap.size 23 #[.int .i64 0, .string ⟨#[]⟩, .int .i64 0] := (Blk.new _ _ _).new_ hb1
  have hB1 : Below w.heap.size w w1 := ((Below.refl w.heap.size w).alloc (Nat.le_refl _) _).trans (hb1.mono (by simp))
  have hT1 := HT.out.below hB1
  have hBk1 := HB.out.below hB1
  have s0 := (hBk1.1.cell 0).trans rfl
  have s1 := (hBk1.1.cell 1).trans rfl
  have hbl := hBk1.1.lt
  have hzl := hZ.lt
  have HZ := Lib.hid hZ
  have HB1 := Lib.hid hB1
  have HT1 := Lib.hid hT1
  have HBk1 := Lib.hid hBk1
  clear hb1 hZ hB1 hT1 hBk1
  go_wp2_with fail
  refine wp_region_E (fun w9 => Below w1.heap.size w1 w9) [(0, 0), (1, 0), (2, 0), (3, 1), (5, 0), (6, 0), (7, 0), (8, 1), (4, 2), (9, 0), (10, 0), (11, 0), (12, 0), (13, 0)] (by kernel_rfl) (by kernel_rfl) (fun KK hKK => ?_)
  simp only [beside, List.filterMap_cons, List.filterMap_nil, List.getElem?_toArray, List.getElem?_cons_zero, List.getElem?_cons_succ, Option.map_some]
  repeat (first | (refine wpX_w ?_ (Or.inl ⟨by rfl, fun w9 => ?_⟩) ?_; rotate_left 1; go_simp; with_reducible rfl; simp only [Act.put, List.setIfInBounds_toArray, List.set_cons_zero, List.set_cons_succ]) | (refine wpX_l ?_ (((Below.refl _ _).drew)) (Or.inl ⟨by rfl, fun w9 hw9 => ?_⟩) ?_; rotate_left 1; obtain ⟨hc9, hf9⟩ := bcell hw9; go_simp; with_reducible rfl; simp only [Act.put, List.setIfInBounds_toArray, List.set_cons_zero, List.set_cons_succ]) | (refine wpX_w undef (Or.inr ⟨by rfl, rfl⟩) ?_; simp only [Act.put, List.setIfInBounds_toArray, List.set_cons_zero, List.set_cons_succ]) | (refine wpX_l undef (((Below.refl _ _).drew)) (Or.inr ⟨by rfl, rfl⟩) ?_; simp only [Act.put, List.setIfInBounds_toArray, List.set_cons_zero, List.set_cons_succ]))
  refine wpX_es (fun K9 hK9 => ?_)
  go_simp
  refine (len_Sym T.bs _ _ _ l _ ((HT1.out.below ((Below.refl _ _).drew)).syms.at_ T.bs l HS.out)).mono ?_
  rintro e w2 ⟨rfl, rfl⟩
  refine hK9 _ _ ((Below.refl _ _).drew) ?_
  clear hK9 K9
  repeat (first | (refine wpX_w ?_ (Or.inl ⟨by rfl, fun w9 => ?_⟩) ?_; rotate_left 1; go_simp; with_reducible rfl; simp only [Act.put, List.setIfInBounds_toArray, List.set_cons_zero, List.set_cons_succ]) | (refine wpX_l ?_ (((Below.refl _ _).drew)) (Or.inl ⟨by rfl, fun w9 hw9 => ?_⟩) ?_; rotate_left 1; obtain ⟨hc9, hf9⟩ := bcell hw9; go_simp; with_reducible rfl; simp only [Act.put, List.setIfInBounds_toArray, List.set_cons_zero, List.set_cons_succ]) | (refine wpX_w undef (Or.inr ⟨by rfl, rfl⟩) ?_; simp only [Act.put, List.setIfInBounds_toArray, List.set_cons_zero, List.set_cons_succ]) | (refine wpX_l undef (((Below.refl _ _).drew)) (Or.inr ⟨by rfl, rfl⟩) ?_; simp only [Act.put, List.setIfInBounds_toArray, List.set_cons_zero, List.set_cons_succ]))
  refine wpX_nil ?_
  simp only [OnlyN_normal]
  refine hKK _ _ ?_
  clear hKK KK
  have z0 : w1.cell? ⟨w.heap.size, 0, none⟩ = some (.int .i64 0) := (HZ.out.cell 0).trans rfl
  have z1 : w1.cell? ⟨w.heap.size, 1, none⟩ = some (.string ⟨#[]⟩) := (HZ.out.cell 1).trans rfl
  have z2 : w1.cell? ⟨w.heap.size, 2, none⟩ = some (.int .i64 0) := (HZ.out.cell 2).trans rfl
  have f0 := HZ.out.frozen 0
  have f1 := HZ.out.frozen 1
  have f2 := HZ.out.frozen 2
  go_wp2_with fail
  exact bodyPost_ret (v := .tuple #[.agg #[.int .i64 0, .string ⟨#[]⟩, .int .i64 0], .int .i64 20]) (by simp [results, Try.results25, go_sem, z0, z1, z2]) rfl ⟨rfl, by (repeat (first | exact Below.refl _ _ | exact HB1.out | (refine Below.drew ?_) | (refine Below.alloc ?_ (by simp <;> omega) _) | (refine Below.setCell ?_ (by simp <;> omega) _)))⟩

set_option maxRecDepth 100000 in
set_option maxHeartbeats 4000000 in
theorem fresh_far (T : TB) (l : List Sym) (m : List Page) (c : UInt8) (hT : Tabs D w S σ S2 σ2) (hB : TabBlk w T) (hb : S T.bs = some l) (hb2 : S2 T.bp = some m) (hg : greatB c = true) (hf : ¬ T.room ≤ l.length) (hn : 1048576 < nextB m c) (hl2 : (m.length : Int) ≤ 1000000) :
    Calls Try.prog 25 #[.pointer (some ⟨T.b, 0, none⟩), .int .u8 (c.toNat : Int)] w fun e w' => e = .returned (.tuple #[.agg #[.int .i64 0, .string ⟨#[]⟩, .int .i64 0], .int .i64 20]) ∧ Below w.heap.size w w' := by
  have t1 : decide (T.room ≤ (l.length : Int)) = false := by simpa using hf
  have t2 : decide ((1048576 : Int) < nextB m c) = true := by simpa using hn
  clear hf
  have HT := Lib.hid hT
  have HB := Lib.hid hB
  have HS := Lib.hid hb
  have HP := Lib.hid hb2
  clear hT hB hb hb2
  go_enter Try.func25, Try.ntmps25
  go_wp2_with (go_at_call 37; refine (great_is _ _).mono ?_; rintro e w' ⟨rfl, rfl⟩)
  refine (next_is T m c (HT.out.below ((Below.refl _ _).alloc (Nat.le_refl _) _)) (HB.out.below ((Below.refl _ _).alloc (Nat.le_refl _) _)) HP.out hl2).mono ?_
  rintro e w1 ⟨rfl, hb1⟩
  have hZ : Blk w1 w.heap.size 23 #[.int .i64 0, .string ⟨#[]⟩, .int .i64 0] := (Blk.new _ _ _).new_ hb1
  have hB1 : Below w.heap.size w w1 := ((Below.refl w.heap.size w).alloc (Nat.le_refl _) _).trans (hb1.mono (by simp))
  have hT1 := HT.out.below hB1
  have hBk1 := HB.out.below hB1
  have s0 := (hBk1.1.cell 0).trans rfl
  have s1 := (hBk1.1.cell 1).trans rfl
  have hbl := hBk1.1.lt
  have hzl := hZ.lt
  have HZ := Lib.hid hZ
  have HB1 := Lib.hid hB1
  have HT1 := Lib.hid hT1
  have HBk1 := Lib.hid hBk1
  clear hb1 hZ hB1 hT1 hBk1
  go_wp2_with fail
  refine wp_region_E (fun w9 => Below w1.heap.size w1 w9) [(0, 0), (1, 0), (2, 0), (3, 1), (5, 0), (6, 0), (7, 0), (8, 1), (4, 2), (9, 0), (10, 0), (11, 0), (12, 0), (13, 0)] (by kernel_rfl) (by kernel_rfl) (fun KK hKK => ?_)
  simp only [beside, List.filterMap_cons, List.filterMap_nil, List.getElem?_toArray, List.getElem?_cons_zero, List.getElem?_cons_succ, Option.map_some]
  repeat (first | (refine wpX_w ?_ (Or.inl ⟨by rfl, fun w9 => ?_⟩) ?_; rotate_left 1; go_simp; with_reducible rfl; simp only [Act.put, List.setIfInBounds_toArray, List.set_cons_zero, List.set_cons_succ]) | (refine wpX_l ?_ (((Below.refl _ _).drew)) (Or.inl ⟨by rfl, fun w9 hw9 => ?_⟩) ?_; rotate_left 1; obtain ⟨hc9, hf9⟩ := bcell hw9; go_simp; with_reducible rfl; simp only [Act.put, List.setIfInBounds_toArray, List.set_cons_zero, List.set_cons_succ]) | (refine wpX_w undef (Or.inr ⟨by rfl, rfl⟩) ?_; simp only [Act.put, List.setIfInBounds_toArray, List.set_cons_zero, List.set_cons_succ]) | (refine wpX_l undef (((Below.refl _ _).drew)) (Or.inr ⟨by rfl, rfl⟩) ?_; simp only [Act.put, List.setIfInBounds_toArray, List.set_cons_zero, List.set_cons_succ]))
  refine wpX_es (fun K9 hK9 => ?_)
  go_simp
  refine (len_Sym T.bs _ _ _ l _ ((HT1.out.below ((Below.refl _ _).drew)).syms.at_ T.bs l HS.out)).mono ?_
  rintro e w2 ⟨rfl, rfl⟩
  refine hK9 _ _ ((Below.refl _ _).drew) ?_
  clear hK9 K9
  repeat (first | (refine wpX_w ?_ (Or.inl ⟨by rfl, fun w9 => ?_⟩) ?_; rotate_left 1; go_simp; with_reducible rfl; simp only [Act.put, List.setIfInBounds_toArray, List.set_cons_zero, List.set_cons_succ]) | (refine wpX_l ?_ (((Below.refl _ _).drew)) (Or.inl ⟨by rfl, fun w9 hw9 => ?_⟩) ?_; rotate_left 1; obtain ⟨hc9, hf9⟩ := bcell hw9; go_simp; with_reducible rfl; simp only [Act.put, List.setIfInBounds_toArray, List.set_cons_zero, List.set_cons_succ]) | (refine wpX_w undef (Or.inr ⟨by rfl, rfl⟩) ?_; simp only [Act.put, List.setIfInBounds_toArray, List.set_cons_zero, List.set_cons_succ]) | (refine wpX_l undef (((Below.refl _ _).drew)) (Or.inr ⟨by rfl, rfl⟩) ?_; simp only [Act.put, List.setIfInBounds_toArray, List.set_cons_zero, List.set_cons_succ]))
  refine wpX_nil ?_
  simp only [OnlyN_normal]
  refine hKK _ _ ?_
  clear hKK KK
  have z0 : w1.cell? ⟨w.heap.size, 0, none⟩ = some (.int .i64 0) := (HZ.out.cell 0).trans rfl
  have z1 : w1.cell? ⟨w.heap.size, 1, none⟩ = some (.string ⟨#[]⟩) := (HZ.out.cell 1).trans rfl
  have z2 : w1.cell? ⟨w.heap.size, 2, none⟩ = some (.int .i64 0) := (HZ.out.cell 2).trans rfl
  have f0 := HZ.out.frozen 0
  have f1 := HZ.out.frozen 1
  have f2 := HZ.out.frozen 2
  go_wp2_with fail
  exact bodyPost_ret (v := .tuple #[.agg #[.int .i64 0, .string ⟨#[]⟩, .int .i64 0], .int .i64 20]) (by simp [results, Try.results25, go_sem, z0, z1, z2]) rfl ⟨rfl, by (repeat (first | exact Below.refl _ _ | exact HB1.out | (refine Below.drew ?_) | (refine Below.alloc ?_ (by simp <;> omega) _) | (refine Below.setCell ?_ (by simp <;> omega) _)))⟩

set_option maxRecDepth 100000 in
set_option maxHeartbeats 4000000 in
theorem fresh_new (T : TB) (l : List Sym) (m : List Page) (c : UInt8) (hT : Tabs D w S σ S2 σ2) (hB : TabBlk w T) (hb : S T.bs = some l) (hb2 : S2 T.bp = some m) (hg : greatB c = true) (hf : ¬ T.room ≤ l.length) (hn : nextB m c ≤ 1048576) (hn1 : 1 ≤ nextB m c) (hl : (l.length : Int) ≤ 1000000) (hl2 : (m.length : Int) ≤ 1000000) :
    Calls Try.prog 25 #[.pointer (some ⟨T.b, 0, none⟩), .int .u8 (c.toNat : Int)] w fun e w' => e = .returned (.tuple #[.agg #[.int .i64 1, .string (letB c), .int .i64 (nextB m c)], .int .i64 0]) ∧ TabPut D w S σ S2 σ2 T (put cmpSym l ⟨1, letB c, nextB m c⟩) (tputM m ⟨1, letB c, nextB m c⟩) w' := by
  have t1 : decide (T.room ≤ (l.length : Int)) = false := by simpa using hf
  have t2 : decide ((1048576 : Int) < nextB m c) = false := by simpa using hn
  have HV := Lib.hid (valid_let hg hn1 hn)
  clear hf
  have HT := Lib.hid hT
  have HB := Lib.hid hB
  have HS := Lib.hid hb
  have HP := Lib.hid hb2
  clear hT hB hb hb2
  go_enter Try.func25, Try.ntmps25
  go_wp2_with (go_at_call 37; refine (great_is _ _).mono ?_; rintro e w' ⟨rfl, rfl⟩)
  refine (next_is T m c (HT.out.below ((Below.refl _ _).alloc (Nat.le_refl _) _)) (HB.out.below ((Below.refl _ _).alloc (Nat.le_refl _) _)) HP.out hl2).mono ?_
  rintro e w1 ⟨rfl, hb1⟩
  have hZ : Blk w1 w.heap.size 23 #[.int .i64 0, .string ⟨#[]⟩, .int .i64 0] := (Blk.new _ _ _).new_ hb1
  have hB1 : Below w.heap.size w w1 := ((Below.refl w.heap.size w).alloc (Nat.le_refl _) _).trans (hb1.mono (by simp))
  have hT1 := HT.out.below hB1
  have hBk1 := HB.out.below hB1
  have s0 := (hBk1.1.cell 0).trans rfl
  have s1 := (hBk1.1.cell 1).trans rfl
  have hbl := hBk1.1.lt
  have hzl := hZ.lt
  have HZ := Lib.hid hZ
  have HB1 := Lib.hid hB1
  have HT1 := Lib.hid hT1
  have HBk1 := Lib.hid hBk1
  clear hb1 hZ hB1 hT1 hBk1
  go_wp2_with fail
  refine wp_region_E (fun w9 => Below w1.heap.size w1 w9) [(0, 0), (1, 0), (2, 0), (3, 1), (5, 0), (6, 0), (7, 0), (8, 1), (4, 2), (9, 0), (10, 0), (11, 0), (12, 0), (13, 0)] (by kernel_rfl) (by kernel_rfl) (fun KK hKK => ?_)
  simp only [beside, List.filterMap_cons, List.filterMap_nil, List.getElem?_toArray, List.getElem?_cons_zero, List.getElem?_cons_succ, Option.map_some]
  repeat (first | (refine wpX_w ?_ (Or.inl ⟨by rfl, fun w9 => ?_⟩) ?_; rotate_left 1; go_simp; with_reducible rfl; simp only [Act.put, List.setIfInBounds_toArray, List.set_cons_zero, List.set_cons_succ]) | (refine wpX_l ?_ (((Below.refl _ _).drew)) (Or.inl ⟨by rfl, fun w9 hw9 => ?_⟩) ?_; rotate_left 1; obtain ⟨hc9, hf9⟩ := bcell hw9; go_simp; with_reducible rfl; simp only [Act.put, List.setIfInBounds_toArray, List.set_cons_zero, List.set_cons_succ]) | (refine wpX_w undef (Or.inr ⟨by rfl, rfl⟩) ?_; simp only [Act.put, List.setIfInBounds_toArray, List.set_cons_zero, List.set_cons_succ]) | (refine wpX_l undef (((Below.refl _ _).drew)) (Or.inr ⟨by rfl, rfl⟩) ?_; simp only [Act.put, List.setIfInBounds_toArray, List.set_cons_zero, List.set_cons_succ]))
  refine wpX_es (fun K9 hK9 => ?_)
  go_simp
  refine (len_Sym T.bs _ _ _ l _ ((HT1.out.below ((Below.refl _ _).drew)).syms.at_ T.bs l HS.out)).mono ?_
  rintro e w2 ⟨rfl, rfl⟩
  refine hK9 _ _ ((Below.refl _ _).drew) ?_
  clear hK9 K9
  repeat (first | (refine wpX_w ?_ (Or.inl ⟨by rfl, fun w9 => ?_⟩) ?_; rotate_left 1; go_simp; with_reducible rfl; simp only [Act.put, List.setIfInBounds_toArray, List.set_cons_zero, List.set_cons_succ]) | (refine wpX_l ?_ (((Below.refl _ _).drew)) (Or.inl ⟨by rfl, fun w9 hw9 => ?_⟩) ?_; rotate_left 1; obtain ⟨hc9, hf9⟩ := bcell hw9; go_simp; with_reducible rfl; simp only [Act.put, List.setIfInBounds_toArray, List.set_cons_zero, List.set_cons_succ]) | (refine wpX_w undef (Or.inr ⟨by rfl, rfl⟩) ?_; simp only [Act.put, List.setIfInBounds_toArray, List.set_cons_zero, List.set_cons_succ]) | (refine wpX_l undef (((Below.refl _ _).drew)) (Or.inr ⟨by rfl, rfl⟩) ?_; simp only [Act.put, List.setIfInBounds_toArray, List.set_cons_zero, List.set_cons_succ]))
  refine wpX_nil ?_
  simp only [OnlyN_normal]
  refine hKK _ _ ?_
  clear hKK KK
  have hcv := convL c
  go_wp2_with fail
  clear hcv s0 s1
  obtain ⟨X, hX⟩ : ∃ X, X = ((w1.alloc (Obj.cells #[Value.int IntKind.u8 (c.toNat : Int)] 5)).alloc (Obj.cells #[Value.int IntKind.i64 1, Value.string (letB c), Value.int IntKind.i64 (nextB m c)] 23)).drew := ⟨_, rfl⟩
  have hBX : Below w1.heap.size w1 X := by rw [hX]; exact (((Below.refl _ _).alloc (Nat.le_refl _) _).alloc (by simp) _).drew
  have hC : Blk X (w1.heap.size + 1) 23 #[.int .i64 1, .string (letB c), .int .i64 (nextB m c)] := by
    rw [hX]
    have := (Blk.new (w1.alloc (Obj.cells #[Value.int IntKind.u8 (c.toNat : Int)] 5)) 23 #[.int .i64 1, .string (letB c), .int .i64 (nextB m c)]).drew
    simpa using this
  rw [← hX]
  clear hX
  have hBX2 : Below w.heap.size w X := HB1.out.trans (hBX.mono HB1.out.size)
  have hzx := hBX.size
  have hcl := hC.lt
  have hTP := HT.out.protect hBX2
  refine (tabput T l m ⟨1, letB c, nextB m c⟩ hTP (HBk1.out.below hBX) HS.out HP.out HV.out hl hl2).mono ?_
  rintro e w8 ⟨rfl, ⟨σ8, σ9, h8, hO8⟩, hK8, hF8⟩
  have hz1 := HB1.out.size
  have hZ8 : Blk w8 w.heap.size 23 #[.int .i64 0, .string ⟨#[]⟩, .int .i64 0] := (HZ.out.new_ hBX).fr hF8 (fun h => h (.inr ⟨Nat.le_refl _, by omega⟩))
  have hC8 : Blk w8 (w1.heap.size + 1) 23 #[.int .i64 1, .string (letB c), .int .i64 (nextB m c)] := hC.fr hF8 (fun h => h (.inr ⟨by omega, hcl⟩))
  have hx8 := hF8.size
  have hof := Off.new_ HT.out.syms (Nat.le_refl _)
  have hof2 := Off.new_ HT.out.pages (Nat.le_refl _)
  have hO9 := hO8 w.heap.size (by omega) hof hof2
  have H8 := Lib.hid (h8.weaken (D' := D) (fun k hk => .inl hk))
  have HO8 := Lib.hid hO8
  have HO9 := Lib.hid hO9
  have HK8 := Lib.hid ((KB.of_below hBX2).trans hK8)
  have HF8 := Lib.hid ((Fr.of_new (M := fun k => ¬ D k) hBX2).trans (hF8.mono (fun k _ hk hd => hk (.inl hd))))
  have HZ8 := Lib.hid hZ8
  have z0 : w8.cell? ⟨w.heap.size, 0, none⟩ = some (.int .i64 0) := (hZ8.cell 0).trans rfl
  have z1 : w8.cell? ⟨w.heap.size, 1, none⟩ = some (.string ⟨#[]⟩) := (hZ8.cell 1).trans rfl
  have z2 : w8.cell? ⟨w.heap.size, 2, none⟩ = some (.int .i64 0) := (hZ8.cell 2).trans rfl
  have f0 := hZ8.frozen 0
  have f1 := hZ8.frozen 1
  have f2 := hZ8.frozen 2
  have c0 : w8.cell? ⟨w1.heap.size + 1, 0, none⟩ = some (.int .i64 1) := (hC8.cell 0).trans rfl
  have c1 : w8.cell? ⟨w1.heap.size + 1, 1, none⟩ = some (.string (letB c)) := (hC8.cell 1).trans rfl
  have c2 : w8.cell? ⟨w1.heap.size + 1, 2, none⟩ = some (.int .i64 (nextB m c)) := (hC8.cell 2).trans rfl
  have hzl8 := hZ8.lt
  have hcl8 := hC8.lt
  clear h8 hO8 hO9 hK8 hF8 hZ8 hC8 hTP hC hBX2 hof hof2
  go_wp2_with fail
  refine bodyPost_ret (v := .tuple #[.agg #[.int .i64 1, .string (letB c), .int .i64 (nextB m c)], .int .i64 0]) (by simp [results, Try.results25, go_sem, z0, z1, z2]) rfl ⟨rfl, ⟨σ8, σ9, H8.out.off HO9.out.1 HO9.out.2 ((((Fr.refl (· = w.heap.size) w8).setCell (.inl rfl) _).setCell (.inl rfl) _).setCell (.inl rfl) _), fun k hk ho ho2 => HO8.out k (by omega) ho ho2⟩, ?_, ((HF8.out.setCell (.inr (Nat.le_refl _)) _).setCell (.inr (Nat.le_refl _)) _).setCell (.inr (Nat.le_refl _)) _⟩
  intro g t cs h1 h2 h3 h4 hB
  have hB8 := HK8.out g t cs h1 h2 h3 h4 hB
  have hne : g ≠ w.heap.size := hB8.ne_ HZ8.out h2
  exact ((hB8.far (p := ⟨w.heap.size, 0, none⟩) hne _).far (p := ⟨w.heap.size, 1, none⟩) hne _).far (p := ⟨w.heap.size, 2, none⟩) hne _
end
end Go.Proofs.Ytlkffnmmphehdaa

namespace Go.Proofs.Ytlkffnmmphehdaa
open Go.RowKit
set_option maxRecDepth 100000 in
set_option maxHeartbeats 4000000 in
theorem tabhas_is {D : Nat → Prop} {w : World} {S : Nat → Option (List Sym)} {σ : Nat → St} {S2 : Nat → Option (List Page)} {σ2 : Nat → St} (T : TB) (l : List Sym) (s : Sym) (hT : Tabs D w S σ S2 σ2) (hB : TabBlk w T) (hb : S T.bs = some l) (hl : (l.length : Int) ≤ 1000000) :
    Calls Try.prog 27 #[.pointer (some ⟨T.b, 0, none⟩), .agg #[.int .i64 s.kind, .string s.text, .int .i64 s.n]] w fun e w' => e = .returned (.bool (has cmpSym l s)) ∧ Below w.heap.size w w' := by
  have HT := Lib.hid hT
  have HB := Lib.hid hB
  have HS := Lib.hid hb
  clear hT hB hb
  go_enter Try.func27, Try.ntmps27
  go_wp2_with fail
  obtain ⟨W, hW⟩ : ∃ W, W = w.alloc (Obj.cells #[Value.int IntKind.i64 s.kind, Value.string s.text, Value.int IntKind.i64 s.n] 23) := ⟨_, rfl⟩
  have hX : Blk W w.heap.size 23 #[.int .i64 s.kind, .string s.text, .int .i64 s.n] := by rw [hW]; exact Blk.new _ _ _
  have hB0 : Below w.heap.size w W := by rw [hW]; exact (Below.refl _ _).alloc (Nat.le_refl _) _
  rw [← hW]
  clear hW
  have y0 := (hX.cell 0).trans rfl
  have y1 := (hX.cell 1).trans rfl
  have y2 := (hX.cell 2).trans rfl
  have hxl := hX.lt
  have hT0 := HT.out.below hB0
  have hBk := HB.out.below hB0
  have s1 := (hBk.1.cell 1).trans rfl
  have hbl := hBk.1.lt
  have HB0 := Lib.hid hB0
  have HT0 := Lib.hid hT0
  clear hX hB0 hT0 hBk
  refine wp_region_E (fun w9 => Below W.heap.size W w9) [(0, 0), (1, 0), (2, 0), (3, 1), (4, 1), (5, 2), (6, 0), (7, 0), (8, 0), (9, 0), (10, 0)] (by kernel_rfl) (by kernel_rfl) (fun KK hKK => ?_)
  simp only [beside, List.filterMap_cons, List.filterMap_nil, List.getElem?_toArray, List.getElem?_cons_zero, List.getElem?_cons_succ, Option.map_some]
  repeat (first | (refine wpX_w ?_ (Or.inl ⟨by rfl, fun w9 => ?_⟩) ?_; rotate_left 1; go_simp; with_reducible rfl; simp only [Act.put, List.setIfInBounds_toArray, List.set_cons_zero, List.set_cons_succ]) | (refine wpX_l ?_ (((Below.refl _ _).drew)) (Or.inl ⟨by rfl, fun w9 hw9 => ?_⟩) ?_; rotate_left 1; obtain ⟨hc9, hf9⟩ := bcell hw9; go_simp; with_reducible rfl; simp only [Act.put, List.setIfInBounds_toArray, List.set_cons_zero, List.set_cons_succ]) | (refine wpX_w undef (Or.inr ⟨by rfl, rfl⟩) ?_; simp only [Act.put, List.setIfInBounds_toArray, List.set_cons_zero, List.set_cons_succ]) | (refine wpX_l undef (((Below.refl _ _).drew)) (Or.inr ⟨by rfl, rfl⟩) ?_; simp only [Act.put, List.setIfInBounds_toArray, List.set_cons_zero, List.set_cons_succ]))
  refine wpX_e (by kernel_rfl) (fun K9 hK9 => ?_)
  go_simp
  have hT1 := HT0.out.below ((Below.refl W.heap.size W).drew)
  refine (place_Sym T.bs _ _ _ l s _ (hT1.syms.at_ T.bs l HS.out) (hT1.syms.srt T.bs l HS.out) (by omega)).mono ?_
  rintro e w1 ⟨rfl, hb1⟩
  have HB1 := Lib.hid ((Below.refl W.heap.size W).drew.trans (hb1.mono (by simp)))
  clear hb1 hT1
  refine hK9 _ _ ?_
  clear hK9 K9
  repeat (first | (refine wpX_w ?_ (Or.inl ⟨by rfl, fun w9 => ?_⟩) ?_; rotate_left 1; go_simp; with_reducible rfl; simp only [Act.put, List.setIfInBounds_toArray, List.set_cons_zero, List.set_cons_succ]) | (refine wpX_l ?_ (((Below.refl _ _).drew)) (Or.inl ⟨by rfl, fun w9 hw9 => ?_⟩) ?_; rotate_left 1; obtain ⟨hc9, hf9⟩ := bcell hw9; go_simp; with_reducible rfl; simp only [Act.put, List.setIfInBounds_toArray, List.set_cons_zero, List.set_cons_succ]) | (refine wpX_w undef (Or.inr ⟨by rfl, rfl⟩) ?_; simp only [Act.put, List.setIfInBounds_toArray, List.set_cons_zero, List.set_cons_succ]) | (refine wpX_l undef (((Below.refl _ _).drew)) (Or.inr ⟨by rfl, rfl⟩) ?_; simp only [Act.put, List.setIfInBounds_toArray, List.set_cons_zero, List.set_cons_succ]))
  refine wpX_nil ?_
  simp only [OnlyN_normal]
  refine hKK _ _ ?_
  clear hKK KK
  go_wp2_with fail
  go_ret
  exact ⟨rfl, HB0.out.trans (HB1.out.mono HB0.out.size)⟩
end Go.Proofs.Ytlkffnmmphehdaa

namespace Go.Proofs.Ytlkffnmmphehdaa
open Go.RowKit
variable {P : Program}
/-- What a round keeps of an iterator that was entered at a heap of B blocks and came to its first round in F. -/
structure Kept (B : Nat) (F X Y : World) : Prop where
  from_ : KeepsFrom B X Y
  own : ∀ k, B ≤ k → k < F.heap.size → Y.heap[k]? = X.heap[k]?
section
variable {B C : Nat} {F X Y Z : World}
theorem Kept.refl (B : Nat) (F X : World) : Kept B F X X := ⟨⟨Nat.le_refl _, fun _ _ _ h _ => h⟩, fun _ _ _ => rfl⟩
theorem Kept.trans (h : Kept B F X Y) (k : Kept B F Y Z) : Kept B F X Z := ⟨h.1.trans k.1, fun i h1 h2 => (k.2 i h1 h2).trans (h.2 i h1 h2)⟩
theorem Kept.up (h : Kept B F X Y) (hB : B ≤ C) : Kept C F X Y := ⟨KeepsFrom.up h.1 hB, fun i h1 h2 => h.2 i (by omega) h2⟩
theorem Kept.put_ {l : Nat} (h : Kept B F X Y) (hl : l < B) (o : Obj) : Kept B F X (Y.putObj l o) := ⟨KeepsFrom.put_ h.1 hl o, fun i h1 h2 => (World.putObj_heap_other (by omega)).trans (h.2 i h1 h2)⟩
theorem Kept.new_ (h : Below X.heap.size X Y) (hs : F.heap.size ≤ X.heap.size) : Kept B F X Y :=
  ⟨⟨h.size, fun k o _ hk _ => (h.block k (Array.getElem?_eq_some_iff.1 hk).1).trans hk⟩, fun k _ hk => h.block k (by omega)⟩
theorem Kept.of_fr {M : Nat → Prop} (h : Fr M X Y) (hm : ∀ k, B ≤ k → M k → F.heap.size ≤ k ∧ (k < X.heap.size → cellsAt X k)) (hs : F.heap.size ≤ X.heap.size) : Kept B F X Y :=
  ⟨⟨h.size, fun k o hB hk hc => (h.block k (Array.getElem?_eq_some_iff.1 hk).1 (fun hM => by
    obtain ⟨c, t, f, hh⟩ := (hm k hB hM).2 (Array.getElem?_eq_some_iff.1 hk).1
    rw [hh] at hk
    cases hk
    cases hc)).trans hk⟩, fun k h1 h2 => h.block k (by omega) (fun hM => by have := (hm k h1 hM).1; omega)⟩
end
/-- THE ITERATOR's CONTRACT: as Iter; 'J F': what the caller says may name the world F of the first round; a round keeps what lies between the call and F. -/
def IterP {α : Type} (P : Program) (gf : Nat) (lb : Array Value) (encs : α → Array Value) (xs : List α) (W : World) (start Kp : World → World → Prop) : Prop :=
  ∀ (l : Nat) (J Jx : World → List α → World → Prop), (∀ F p X Y, J F p X → Priv W.heap.size X Y → J F p Y) → (∀ F p X Y, Jx F p X → Priv W.heap.size X Y → Jx F p Y) →
    (∀ F, start W F → J F [] F) →
    (∀ F pre x post W1, start W F → xs = pre ++ x :: post → J F pre W1 → YieldAt Fence.wide 0 P l (encs x) W1 fun e W' =>
      (e = .returned (.bool true) ∧ J F (pre ++ [x]) W' ∧ Kp W1 W' ∧ Kept W.heap.size F W1 W') ∨ (e = .returned (.bool false) ∧ Jx F (pre ++ [x]) W' ∧ Kept W.heap.size F W1 W')) →
    CallsIn Fence.wide 0 P gf (#[.func (.yield l) #[] #[]] ++ lb) W fun e W' => (∃ v, e = .returned v) ∧ ∃ F, start W F ∧ (J F xs W' ∨ ∃ pre post, xs = pre ++ post ∧ Jx F pre W')
theorem Iter.p {α : Type} {gf : Nat} {lb : Array Value} {encs : α → Array Value} {xs : List α} {W : World} {start Kp : World → World → Prop} (h : Iter P gf lb encs xs W start (fun X Y => Kp X Y ∧ KeepsFrom W.heap.size X Y)) : IterP P gf lb encs xs W start Kp := by
  intro l J Jx h1 h2 h3 h4
  refine (h l (fun p X => ∃ F, start W F ∧ J F p X) (fun p X => ∃ F, start W F ∧ Jx F p X) (fun p X Y ⟨F, a, b⟩ hp => ⟨F, a, h1 F p X Y b hp⟩) (fun p X Y ⟨F, a, b⟩ hp => ⟨F, a, h2 F p X Y b hp⟩) (fun F hF => ⟨F, hF, h3 F hF⟩) ?_).mono ?_
  · rintro pre x post W1 hx ⟨F, hF, hJ⟩
    obtain ⟨fn, tmps, assign, body, hy, hR⟩ := h4 F pre x post W1 hF hx hJ
    refine ⟨fn, tmps, assign, body, hy, hR.mono ?_⟩
    rintro e W' (⟨g1, g2, g3, g4⟩ | ⟨g1, g2, _⟩)
    · exact .inl ⟨g1, ⟨F, hF, g2⟩, g3, g4.1⟩
    · exact .inr ⟨g1, F, hF, g2⟩
  · rintro e W' ⟨hv, (⟨F, hF, hJ⟩ | ⟨pre, post, hx, F, hF, hJ⟩)⟩
    · exact ⟨hv, F, hF, .inl hJ⟩
    · exact ⟨hv, F, hF, .inr ⟨pre, post, hx, hJ⟩⟩

/-- How the body of a round may be left. -/
def rPostP {α : Type} (KpW : World → Prop) (B : Nat) (F : World) (I : World → List α → World → Prop) (Ix : World → Code → List α → World → Prop) (p : List α) (W : World) : Exit → Act → World → Prop
  | .normal, _, W' => Kept B F W W' ∧ KpW W' ∧ I F p W'
  | .ret, _, W' => Kept B F W W' ∧ Ix F .ret p W'
  | .exit id, _, W' => Kept B F W W' ∧ Ix F (.exit id) p W'
  | .goto t, _, W' => Kept B F W W' ∧ Ix F (.goto t) p W'
  | .panic _, _, _ => False
  | .outgrown, _, _ => False

/-- THE STATEMENT, at an outermost loop. -/
theorem wpIn_rangeP {α : Type} {g : Operand} {ps : Array Tmp} {assign body : Code} {Q : Exit → Act → World → Prop} {a : Act} {w : World} {gf : Nat} {lb : Array Value}
    (hg : a.eval g = .func (.func gf) #[] lb) (eg : ∀ args w, (callFunc gf args).run P w = .ok (.enter gf args) w)
    {encs : α → Array Value} {xs : List α} {start Kp : World → World → Prop} (hseq : ∀ W, Below w.heap.size w W → IterP P gf lb encs xs W start Kp)
    (hps : ∀ x, (encs x).size = ps.size) (hKt : ∀ A B C, Kp A B → Kp B C → Kp A C) (hKp : ∀ A B, Priv w.heap.size A B → Kp A B) (hst : ∀ W W1, start W W1 → KeepsFrom w.heap.size W W1)
    (I : World → List α → World → Prop) (Ix : World → Code → List α → World → Prop) (hI : ∀ F p X Y, I F p X → Priv w.heap.size X Y → I F p Y) (hIx : ∀ F c p X Y, Ix F c p X → Priv w.heap.size X Y → Ix F c p Y)
    (h0 : ∀ W F, Below w.heap.size w W → start W F → I F [] F)
    (hround : ∀ (F : World) (l : Nat) (pre : List α) (x : α) (post : List α) (W : World), xs = pre ++ x :: post → w.heap.size ≤ l → I F pre W →
      assign.wpIn (Fence.wide.inRound l) 0 P (Exit.then (fun a1 W1 => Kept w.heap.size F W W1 ∧ ∀ W2, Priv w.heap.size W1 W2 → W2.heap.size = W1.heap.size → (∃ r, W2.heap[l]? = some (.loop r)) →
        body.wpIn (Fence.wide.inRound l) 0 P (rPostP (Kp W) w.heap.size F I Ix (pre ++ [x]) W2) a1 W2) (fun _ _ _ => False))
        { tmps := (ps.zip (encs x)).foldl (fun t (p, v) => t.setIfInBounds p v) a.tmps, defers := [] } W)
    (hdone : ∀ (F : World) (D : Nat) (W : World), w.heap.size ≤ D → I F xs W → W.heap[D]? = some (.deferred (some [])) → Q .normal { a with defers := { target := .collected D, args := #[] } :: a.defers } W)
    (hstop : ∀ (F : World) (D : Nat) (c : Code) (pre post : List α) (W : World), w.heap.size ≤ D → xs = pre ++ post → Ix F c pre W → W.heap[D]? = some (.deferred (some [])) → c.wpIn Fence.wide 0 P Q { a with defers := { target := .collected D, args := #[] } :: a.defers } W) :
    (Code.rangeFunc g ps assign body).wpIn Fence.wide 0 P Q a w := by
  refine wpIn_rangeFunc ?_
  intro fn hfn
  obtain ⟨rec, hrec⟩ : ∃ rec : LoopState → Option Code → Loop, rec = fun st pe => { state := st, pending := pe, fn, tmps := a.tmps, params := ps, assign, body, defers := w.heap.size } := ⟨_, rfl⟩
  obtain ⟨W1, hW1⟩ : ∃ W1, (w.alloc (.deferred (some []))).alloc (.loop (rec .ready none)) = W1 := ⟨_, rfl⟩
  have hL1 : W1.heap[w.heap.size + 1]? = some (.loop (rec .ready none)) := by
    rw [← hW1]; have := World.alloc_heap_new (w.alloc (.deferred (some []))) (.loop (rec .ready none)); rwa [World.size_alloc] at this
  have hK1 : W1.heap[w.heap.size]? = some (.deferred (some [])) := by
    rw [← hW1]; exact (Below.heap_alloc _ _ _ (by simp)).trans (World.alloc_heap_new w _)
  have hb1 : Below w.heap.size w W1 := by
    rw [← hW1]; exact ((Below.refl _ w).alloc (Nat.le_refl _) _).alloc (by simp) _
  have hz1 : W1.heap.size = w.heap.size + 2 := by rw [← hW1]; simp
  refine ⟨w.heap.size + 1, [{ target := .collected w.heap.size, args := #[] }], W1, { target := .fn (.func gf) lb, args := #[.func (.yield (w.heap.size + 1)) #[] #[]] }, W1, gf,
    #[.func (.yield (w.heap.size + 1)) #[] #[]] ++ lb, W1, ?_, ?_, fun _ _ => trivial, ?_, fun h => by simp [Fence.wide] at h, ?_⟩
  · rw [← hW1, hrec]; exact run_enterLoop_outer _ _ _ _ _
  · simp only [resolve, hg]
    simp [go_sem]
  · simp [invoke, go_sem, eg]
  · have keep : ∀ {X Y : World} {k : Nat} {o : Obj}, Priv W1.heap.size X Y → X.heap[k]? = some o → k < W1.heap.size → Y.heap[k]? = some o := fun hp hk hlt =>
      (hp.block _ (Array.getElem?_eq_some_iff.1 hk).1 (.inl hlt)).trans hk
    refine (hseq W1 hb1 (w.heap.size + 1)
      (fun F pre W => (∃ W0, Below w.heap.size w W0 ∧ start W0 F) ∧ I F pre W ∧ W.heap[w.heap.size + 1]? = some (.loop (rec .ready none)) ∧ W.heap[w.heap.size]? = some (.deferred (some [])))
      (fun F pre W => ∃ c, Ix F c pre W ∧ W.heap[w.heap.size + 1]? = some (.loop (rec .done (some c))) ∧ W.heap[w.heap.size]? = some (.deferred (some [])))
      (fun F p X Y ⟨h0, h1, h2, h3⟩ hp => ⟨h0, hI F p X Y h1 (hp.mono (by omega)), keep hp h2 (by omega), keep hp h3 (by omega)⟩)
      (fun F p X Y ⟨c, h1, h2, h3⟩ hp => ⟨c, hIx F c p X Y h1 (hp.mono (by omega)), keep hp h2 (by omega), keep hp h3 (by omega)⟩)
      (fun W2 hs => ⟨⟨W1, hb1, hs⟩, h0 W1 W2 hb1 hs, (hst _ _ hs).same _ _ (by omega) hL1 rfl, (hst _ _ hs).same _ _ (by omega) hK1 rfl⟩) ?_).mono ?_
    · rintro F pre x post W hst0 hx ⟨hw0, hi, hl, hk⟩
      have hy := run_yield (P := P) (args := encs x) hl (by rw [hrec]; exact hps x)
      rw [hrec] at hy
      refine ⟨fn, _, assign, body, hy, roundIn_of_wpIn hfn ?_⟩
      refine wpIn_mono (hround F (w.heap.size + 1) pre x post W hx (by omega) hi) ?_
      rintro e a1 Wa hp
      cases e with
      | normal =>
        obtain ⟨hka, hbody⟩ := hp
        have hla := hka.1.same _ _ (by omega) hl rfl
        have hkd := hka.1.same _ _ (by omega) hk rfl
        have hlt : w.heap.size + 1 < Wa.heap.size := (Array.getElem?_eq_some_iff.1 hla).1
        have hbr := run_beginRound (P := P) hla (by rw [hrec])
        refine ⟨_, hbr, ?_⟩
        have hl2 : (Wa.putObj (w.heap.size + 1) (.loop { rec .ready none with state := .busy })).heap[w.heap.size + 1]? = some (.loop { rec .ready none with state := .busy }) := World.putObj_heap_same hlt
        have hk2 : (Wa.putObj (w.heap.size + 1) (.loop { rec .ready none with state := .busy })).heap[w.heap.size]? = some (.deferred (some [])) := (World.putObj_heap_other (by omega)).trans hkd
        refine wpIn_mono (hbody _ ((Priv.refl _ Wa).putObj (by omega) hla rfl _) (by simp) ⟨_, hl2⟩) ?_
        have fin : ∀ (jump : Option Code) (W3 : World), Kept w.heap.size F (Wa.putObj (w.heap.size + 1) (.loop { rec .ready none with state := .busy })) W3 →
            (Instr.endRound (w.heap.size + 1) jump).run P W3 = .ok (.bool jump.isNone) (W3.putObj (w.heap.size + 1) (.loop (rec (if jump.isNone then .ready else .done) jump))) ∧
            Priv w.heap.size W3 (W3.putObj (w.heap.size + 1) (.loop (rec (if jump.isNone then .ready else .done) jump))) ∧
            (W3.putObj (w.heap.size + 1) (.loop (rec (if jump.isNone then .ready else .done) jump))).heap[w.heap.size + 1]? = some (.loop (rec (if jump.isNone then .ready else .done) jump)) ∧
            (W3.putObj (w.heap.size + 1) (.loop (rec (if jump.isNone then .ready else .done) jump))).heap[w.heap.size]? = some (.deferred (some [])) := fun jump W3 hk3 => by
          have hl3 := hk3.1.same _ _ (by omega) hl2 rfl
          have := run_endRound (P := P) jump hl3
          rw [hrec] at this ⊢
          exact ⟨this, (Priv.refl _ _).putObj (by omega) hl3 rfl _, World.putObj_heap_same (Array.getElem?_eq_some_iff.1 hl3).1, (World.putObj_heap_other (by omega)).trans (hk3.1.same _ _ (Nat.le_refl _) hk2 rfl)⟩
        rintro e a3 W3 hp
        cases e with
        | normal =>
          obtain ⟨hk3, hkp3, hi3⟩ := hp
          obtain ⟨hr, hpv, hl4, hk4⟩ := fin none W3 hk3
          refine ⟨_, _, hr, .inl ⟨rfl, ⟨hw0, hI _ _ _ _ hi3 hpv, hl4, hk4⟩, hKt _ _ _ hkp3 (hKp _ _ hpv), ?_⟩⟩
          exact (((hka.up (by omega)).put_ (by omega) _).trans (hk3.up (by omega))).put_ (by omega) _
        | ret =>
          obtain ⟨hk3, hi3⟩ := hp
          obtain ⟨hr, hpv, hl4, hk4⟩ := fin (some .ret) W3 hk3
          exact ⟨_, _, hr, .inr ⟨rfl, ⟨.ret, hIx _ _ _ _ _ hi3 hpv, hl4, hk4⟩, (((hka.up (by omega)).put_ (by omega) _).trans (hk3.up (by omega))).put_ (by omega) _⟩⟩
        | exit id =>
          obtain ⟨hk3, hi3⟩ := hp
          obtain ⟨hr, hpv, hl4, hk4⟩ := fin (some (.exit id)) W3 hk3
          exact ⟨_, _, hr, .inr ⟨rfl, ⟨.exit id, hIx _ _ _ _ _ hi3 hpv, hl4, hk4⟩, (((hka.up (by omega)).put_ (by omega) _).trans (hk3.up (by omega))).put_ (by omega) _⟩⟩
        | goto t =>
          obtain ⟨hk3, hi3⟩ := hp
          obtain ⟨hr, hpv, hl4, hk4⟩ := fin (some (.goto t)) W3 hk3
          exact ⟨_, _, hr, .inr ⟨rfl, ⟨.goto t, hIx _ _ _ _ _ hi3 hpv, hl4, hk4⟩, (((hka.up (by omega)).put_ (by omega) _).trans (hk3.up (by omega))).put_ (by omega) _⟩⟩
        | panic ch => exact hp.elim
        | outgrown => exact hp.elim
      | exit id => exact hp.elim
      | goto l => exact hp.elim
      | ret => exact hp.elim
      | panic ch => exact hp.elim
      | outgrown => exact hp.elim
    · rintro e W2 ⟨⟨v, rfl⟩, F, _, (⟨_, hi, hl, hk⟩ | ⟨pre, post, hS, c, hi, hl, hk⟩)⟩
      · exact ⟨none, _, by have := run_endLoop (P := P) hl (by rw [hrec]; simp); rw [hrec] at this; exact this, hdone F _ _ (Nat.le_refl _) (hI _ _ _ _ hi ((Priv.refl _ _).putObj (by omega) hl rfl _)) ((World.putObj_heap_other (by omega)).trans hk)⟩
      · exact ⟨some c, _, by have := run_endLoop (P := P) hl (by rw [hrec]; simp); rw [hrec] at this; exact this, hstop F _ c pre post _ (Nat.le_refl _) hS (hIx _ c _ _ _ hi ((Priv.refl _ _).putObj (by omega) hl rfl _)) ((World.putObj_heap_other (by omega)).trans hk)⟩
end Go.Proofs.Ytlkffnmmphehdaa

namespace Go.Proofs.Ytlkffnmmphehdaa
open Go.RowKit Go.Shelf
structure SeqP {α : Type} (gf : Nat) (lb : Array Value) (encs : α → Array Value) (xs : List α) (w : World) (start Kp : World → World → Prop) : Prop where
  enter : ∀ args w, (callFunc gf args).run Try.prog w = .ok (.enter gf args) w
  iter : ∀ W, Below w.heap.size w W → IterP Try.prog gf lb encs xs W start Kp
  trans : ∀ A B C, Kp A B → Kp B C → Kp A C
  keep : ∀ A B, Priv w.heap.size A B → Kp A B
  below : ∀ A B, Below w.heap.size A B → Kp A B
  mods : ∀ W W1, start W W1 → Fr (· < w.heap.size) W W1
theorem SeqP.new_ {α : Type} {gf : Nat} {lb : Array Value} {encs : α → Array Value} {xs : List α} {w w' : World} {start Kp : World → World → Prop} (h : SeqP gf lb encs xs w start Kp) (hb : Below w.heap.size w w') : SeqP gf lb encs xs w' start Kp :=
  ⟨h.enter, fun W hW => h.iter W (hb.trans (hW.mono hb.size)), h.trans, fun A B hp => h.keep A B (hp.mono hb.size), fun A B hp => h.below A B (hp.mono hb.size), fun W W1 hs => (h.mods W W1 hs).mono (fun _ _ hk => Nat.lt_of_lt_of_le hk hb.size)⟩
theorem Seq.p {α : Type} {gf : Nat} {lb : Array Value} {encs : α → Array Value} {xs : List α} {w : World} {start Kp : World → World → Prop} (h : Seq gf lb encs xs w start Kp) : SeqP gf lb encs xs w start Kp :=
  ⟨h.enter, fun W hW => (h.iter W hW).p, h.trans, h.keep, h.below, h.mods⟩
end Go.Proofs.Ytlkffnmmphehdaa

namespace Go.Proofs.Ytlkffnmmphehdaa
open Go.RowKit Go.Shelf
attribute [local go_sem] Oper.semAt_some

set_option maxRecDepth 100000 in
set_option maxHeartbeats 2000000 in
theorem listP_Sym (gf : Nat) (lb : Array Value) (xs : List Sym) (w : World) (start Kp : World → World → Prop) (hq : SeqP gf lb encSym xs w start Kp) (hl : (xs.length : Int) ≤ 100000000) :
    Calls Try.prog 33 #[.func (.func gf) #[] lb] w (ListPostSym w start xs) := by
  refine (callsIn_wide (n := 0)).1 ?_
  refine callsIn_of_wp_marks Try.func33 rfl trivial ?_
  simp only [Try.ntmps33, List.size_toArray, List.length_cons, List.length_nil, Nat.reduceAdd, Nat.reduceSub, Array.replicate_succ, Array.replicate_zero, List.push_toArray, List.append_toArray, List.nil_append, List.cons_append]
  have hbe : ∀ W, (binOp .eql 55 (.func (.func gf) #[] lb) .nilFunc).run Try.prog W = .ok (.bool false) W := fun W => by kernel_rfl
  gi_wp2_with fail
  obtain ⟨W0, hW0⟩ : ∃ W0, W0 = w.alloc (.cells #[.slice none 0 0] 39) := ⟨_, rfl⟩
  have hb0 : Below w.heap.size w W0 := by rw [hW0]; exact (Below.refl _ _).alloc (Nat.le_refl _) _
  have hz0 : W0.heap.size = w.heap.size + 1 := by rw [hW0]; simp
  have hB0 : Blk W0 w.heap.size 39 #[.slice none 0 0] := by rw [hW0]; exact Blk.new _ _ _
  rw [← hW0]
  clear hW0
  have hq0 := hq.new_ hb0
  obtain ⟨i0, hi, hi0, hi1, hi2⟩ := info_parts info_Sym
  obtain ⟨I, hI⟩ : ∃ I : World → List Sym → World → Prop, I = fun F p W => ∃ v, Blk W w.heap.size 39 #[v] ∧ W.ownsRow F.heap.size 23 3 v p.length (p.flatMap Sym.cells) ∧ w.heap.size < F.heap.size ∧ F.heap.size ≤ W.heap.size ∧ ∃ W1, Below w.heap.size w W1 ∧ start W1 F ∧ Below w.heap.size F W := ⟨_, rfl⟩
  have hIP : ∀ F p X Y, I F p X → Priv W0.heap.size X Y → I F p Y := by
    subst hI
    rintro F p X Y ⟨v, h1, h2, g1, g2, W1, h3, h4, h5⟩ hp
    exact ⟨v, h1.priv hp, ownsRow_priv h2 hp, g1, Nat.le_trans g2 hp.size, W1, h3, h4, Below.priv' h5 hp (by omega) (Nat.le_of_lt h1.lt)⟩
  refine wpIn_rangeP (w := W0) (by rfl) hq0.enter hq0.iter (fun x => by rfl) hq0.trans hq0.keep (fun W W1 h => keepsFrom_of_fr (hq0.mods W W1 h)) I (fun _ _ _ _ => False) hIP (fun _ _ _ _ _ h => h.elim) ?_ ?_ ?_ ?_
  · intro W W1 hW hs
    subst hI
    have hz1 := hW.size
    have hz2 := (hq.mods W W1 hs).size
    refine ⟨.slice none 0 0, (hB0.new_ hW).fr (hq.mods W W1 hs) (Nat.lt_irrefl _), owns_nil _ _ _ _, by omega, Nat.le_refl _, W, hb0.trans (hW.mono (by omega)), hs, Below.refl _ _⟩
  · intro F lo pre x post W hx hlo hIW
    have hx' : xs.length = pre.length + (post.length + 1) := by rw [hx]; simp
    have HX := Lib.hid hx
    clear hx
    rw [hI] at hIW
    obtain ⟨v, h1, h2, hfb, hfw, h3⟩ := hIW
    have HH := Lib.hid h3
    have HFB := Lib.hid hfb
    have HFW := Lib.hid hfw
    clear h3 hfb hfw
    have hlt := h1.lt
    have HI := Lib.hid hI
    have HB := Lib.hid h1
    have HO := Lib.hid h2
    have HQW := Lib.hid hq
    clear h1 h2 hq hq0 hIP hI hbe hb0 hB0
    simp only [encSym, Array.zip]
    gi_wp2_with fail
    refine ⟨Kept.new_ ((Below.refl _ W).alloc (Nat.le_refl _) _) HFW.out, fun W3 hp3 hz3 _ => ?_⟩
    have hx3 : Blk W3 W.heap.size 23 #[Value.int IntKind.i64 x.kind, Value.string x.text, Value.int IntKind.i64 x.n] := (Blk.new W 23 #[Value.int IntKind.i64 x.kind, Value.string x.text, Value.int IntKind.i64 x.n]).priv hp3
    have x0 := hx3.cell 0
    have x1 := hx3.cell 1
    have x2 := hx3.cell 2
    simp only [List.getElem?_toArray, List.getElem?_cons_zero, List.getElem?_cons_succ] at x0 x1 x2
    have HX3 := Lib.hid hx3
    have hB3 : Blk W3 w.heap.size 39 #[v] := (HB.out.alloc _).priv hp3
    have hO3 : W3.ownsRow F.heap.size 23 3 v pre.length (pre.flatMap Sym.cells) := ownsRow_priv (owns_below HO.out ((Below.refl _ _).alloc (Nat.le_refl _) _)) hp3
    have hF3 : Fr (fun k => W0.heap.size ≤ k) W W3 := ((Fr.refl _ W).alloc _).into (Fr.of_priv hp3) (fun k hk => .inl hk)
    have p0 := hB3.cell 0
    have f0 := hB3.frozen 0
    have hsz3 : W3.heap.size = W.heap.size + 1 := by rw [hz3]; simp
    have HZ3 := Lib.hid hsz3
    clear hsz3
    have HB3 := Lib.hid hB3
    have HO3 := Lib.hid hO3
    have HP3 := Lib.hid hp3
    have HF3 := Lib.hid hF3
    clear hB3 hO3 hp3 hF3 hx3 hz3
    simp only [List.getElem?_toArray, List.getElem?_cons_zero] at p0
    gi_wp2_with (gi_at_builtin; refine wpListIn_append_own _ rfl _ _ 39 rfl F.heap.size 23 i0 _ 3 32 Try.underlying39 hi hi0 hi1 hi2 rfl (by decide) v pre.length (pre.flatMap Sym.cells) rfl (owns_below HO3.out ((Below.refl _ _).alloc (Nat.le_refl _) _)) ⟨W3.heap.size, 0, none⟩ 1 1 (Sym.cells x) rfl rfl (World.news_of_block (heap_alloc_new _ _)) (Sym.one x) (by unfold maxLen; omega) (by omega) (by have := HZ3.out; have := HFW.out; simp; omega) ?_; intro v' w4 hown hg hnil; obtain ⟨A', c', rfl, hA'⟩ := owns_form hown; have hB4 := (HB3.out.alloc (.cells #[Value.int IntKind.i64 x.kind, Value.string x.text, Value.int IntKind.i64 x.n] 23)).grown hg (fun h => absurd (owns_block HO3.out _ h) (by have := HFB.out; omega)); have p4 := (hB4.cell 0).trans rfl; have f4 := hB4.frozen 0; have HB4 := Lib.hid hB4; have HG := Lib.hid hg; have HO4 := Lib.hid hown; clear hB4 hg hown hnil p0 f0)
    have hI := HI.out
    subst hI
    obtain ⟨W1, h3, h4, h5⟩ := HH.out
    have hfb := HFB.out
    have hfw := HFW.out
    have hbl : Below (w.heap.size + 1) W w4 := ((Fr.below HF3.out (by omega) (fun k hk h => by omega) : Below (w.heap.size + 1) W W3).alloc (by have := HZ3.out; omega) _).grown HG.out (by have := HZ3.out; simp; omega) (fun k hk => Nat.le_trans hfb (owns_block HO3.out k hk))
    have hz4 := hbl.size
    have hbl2 : Below w.heap.size W (w4.setCell ⟨w.heap.size, 0, none⟩ (.slice A' (pre.length + 1) c')) := (hbl.mono (by omega)).setCell (by simp) _
    have hkept : Kept W0.heap.size F W3 (w4.setCell ⟨w.heap.size, 0, none⟩ (.slice A' (pre.length + 1) c')) := by
      refine Kept.of_fr (M := fun k => k = w.heap.size ∨ Value.ownBlock v = some k) (Fr.setCell (p := ⟨w.heap.size, 0, none⟩) (Fr.grown ((Fr.refl _ W3).alloc _) HG.out (fun k e => .inl (.inr e))) (.inl (.inl rfl)) _) ?_ (by have := HZ3.out; omega)
      intro k hk hm
      rcases hm with hm | hm
      · omega
      · exact ⟨owns_block HO3.out k hm, fun _ => owns_cells HO3.out k hm⟩
    refine ⟨hkept, HQW.out.below _ _ hbl2, .slice A' (pre.length + 1) c', HB4.out.set_ 0 _, ?_, by omega, by simpa using by omega, W1, h3, h4, h5.trans hbl2⟩
    have e1 : (pre ++ [x]).length = pre.length + 1 := by simp
    have e2 : (pre ++ [x]).flatMap Sym.cells = pre.flatMap Sym.cells ++ Sym.cells x := by simp
    rw [e1, e2]
    refine ownsRow_setCell_other (a := ⟨w.heap.size, 0, none⟩) HO4.out (fun h => absurd (owns_block HO4.out _ h) (by have := HFB.out; simp; omega)) _
  · intro F D W hD hIW hK
    subst hI
    obtain ⟨v, h1, h2, hfb, hfw, W1, h3, h4, h5⟩ := hIW
    have p0 := h1.cell 0
    obtain ⟨A, c, rfl, hA⟩ := owns_form h2
    have HO := Lib.hid h2
    have HH := Lib.hid (⟨h3, h4, h5⟩ : Below w.heap.size w W1 ∧ start W1 F ∧ Below w.heap.size F W)
    have HA := Lib.hid hA
    have HK := Lib.hid hK
    have hlt := h1.lt
    simp only [List.getElem?_toArray, List.getElem?_cons_zero] at p0
    clear hq hq0 hIP hbe hb0 hB0 h1 h2 h3 h4 h5 hA hK
    gi_wp2_with fail
    refine ⟨by simp, .inl ⟨_, _, rfl, run_takeDeferred HK.out, ?_⟩⟩
    obtain ⟨h3, h4, h5⟩ := HH.out
    have hpv : Priv w.heap.size W (W.putObj D (.deferred none)) := (Priv.refl _ _).putObj (by omega) HK.out rfl _
    refine ⟨_, results_tmp rfl _ _ _, A, c, rfl, owns_base (ownsRow_priv HO.out hpv) (Nat.zero_le _), HA.out.mono (fun k hk => by omega), W1, F, h3, h4, Below.priv' h5 hpv (Nat.le_refl _) (Nat.le_of_lt hlt)⟩
  · intro F D c pre post W _ _ h
    exact h.elim
end Go.Proofs.Ytlkffnmmphehdaa

namespace Go.Proofs.Ytlkffnmmphehdaa
open Go.RowKit Go.Shelf
attribute [local go_sem] Oper.semAt_some
set_option maxHeartbeats 400000 in
theorem mktall (b : Nat) (w : World) :
    Calls Try.prog 34 #[.pointer (some ⟨b, 0, none⟩)] w fun e w' => e = .returned (.func (.func 57) #[] #[.pointer (some ⟨w.heap.size, 0, none⟩)]) ∧ Below w.heap.size w w' ∧ w'.cell? ⟨w.heap.size, 0, none⟩ = some (.pointer (some ⟨b, 0, none⟩)) := by
  go_enter Try.func34, Try.ntmps34
  go_wp2
  go_ret
  exact ⟨rfl, (Below.refl _ _).alloc (Nat.le_refl _) _, by go_simp⟩
theorem SeenStart.from_ {b : Nat} {W W1 F : World} (h : SeenStart b W1 F) (hb : Below W.heap.size W W1) : SeenStart b W F := by
  obtain ⟨X, hX, rfl⟩ := h
  exact ⟨X, hb.trans (hX.mono hb.size), rfl⟩
theorem SeenStart.size {b : Nat} {W F : World} (h : SeenStart b W F) : W.heap.size ≤ F.heap.size := by
  obtain ⟨X, hX, rfl⟩ := h
  simpa using hX.size
set_option maxRecDepth 100000 in
set_option maxHeartbeats 2000000 in
theorem tall_is (kb c : Nat) (sn : Bool) (A : Option Addr) (T : TB) (l : List Sym) (W : World) (hbox : W.cell? ⟨kb, 0, none⟩ = some (.pointer (some ⟨T.b, 0, none⟩))) (hB : TabBlk W T) (hS : SymSet W T.bs sn A c l) :
    IterP Try.prog 57 #[.pointer (some ⟨kb, 0, none⟩)] encSym l W (SeenStart T.bs) (RowKeep A) := by
  intro lo J Jx hJ hJx h0 hY
  have hbsl := hS.lt
  have hkb := World.block_lt_of_cell? W _ hbox
  have hAl := hS.row_lt
  have s1 := (hB.1.cell 1).trans rfl
  have hbl := hB.1.lt
  have HJ := Lib.hid hJ
  have HJx := Lib.hid hJx
  have H0 := Lib.hid h0
  have HY := Lib.hid hY
  have HS := Lib.hid hS
  have HA := Lib.hid hAl
  clear hJ hJx h0 hY hS hB hAl
  refine callsIn_of_wp_marks Try.func57 rfl trivial ?_
  simp only [Try.ntmps57, List.size_toArray, List.length_cons, List.length_nil, Nat.reduceAdd, Nat.reduceSub, Array.replicate_succ, Array.replicate_zero, List.push_toArray, List.append_toArray, List.nil_append, List.cons_append]
  gi_wp2_with fail
  refine ⟨trivial, rfl, ?_⟩
  obtain ⟨W0, hW0⟩ : ∃ W0, W0 = W.alloc (.cells #[.func (.yield lo) #[] #[]] 25) := ⟨_, rfl⟩
  have hb0 : Below W.heap.size W W0 := by rw [hW0]; exact (Below.refl _ _).alloc (Nat.le_refl _) _
  have hY0 : Blk W0 W.heap.size 25 #[.func (.yield lo) #[] #[]] := by rw [hW0]; exact Blk.new _ _ _
  rw [← hW0]
  clear hW0
  refine (callsIn_wide.2 (mkall_Sym T.bs W0)).mono ?_
  rintro e w3 ⟨rfl, hb3, hbox3⟩
  have hz0 := hY0.lt
  have hz3 := hb3.size
  have hY3 := (hY0.new_ hb3)
  have hB3 : Below W.heap.size W w3 := hb0.trans (hb3.mono hb0.size)
  have hSQ := seq_all_Sym W0.heap.size T.bs _ _ _ l w3 hbox3 (HS.out.new_ hB3)
  have HSQ := Lib.hid hSQ
  have HY3 := Lib.hid hY3
  have HB3 := Lib.hid hB3
  clear hb0 hY0 hb3 hbox3 hSQ hY3 hB3 s1
  gi_wp2_with fail
  obtain ⟨I, hI⟩ : ∃ I : World → List Sym → World → Prop, I = fun F p X => (SeenStart T.bs W F ∧ F.heap.size ≤ X.heap.size ∧ W.heap.size < F.heap.size) ∧ J F p X ∧ X.cell? ⟨W.heap.size, 0, none⟩ = some (.func (.yield lo) #[] #[]) := ⟨_, rfl⟩
  obtain ⟨Ix, hIx⟩ : ∃ Ix : World → Code → List Sym → World → Prop, Ix = fun F c p X => c = .ret ∧ SeenStart T.bs W F ∧ Jx F p X := ⟨_, rfl⟩
  refine wpIn_rangeP (w := w3) (by rfl) HSQ.out.enter HSQ.out.p.iter (fun x => by rfl) HSQ.out.trans HSQ.out.keep (fun W W1 h => keepsFrom_of_fr (HSQ.out.mods W W1 h)) I Ix ?_ ?_ ?_ ?_ ?_ ?_
  · subst hI
    rintro F p X Y ⟨g0, g1, g2⟩ hp
    exact ⟨⟨g0.1, Nat.le_trans g0.2.1 hp.size, g0.2.2⟩, HJ.out F p X Y g1 (hp.mono (by omega)), cell_priv g2 hp⟩
  · subst hIx
    rintro F c p X Y ⟨g0, g1, g2⟩ hp
    exact ⟨g0, g1, HJx.out F p X Y g2 (hp.mono (by omega))⟩
  · intro X F hX hs
    subst hI
    have hs2 := hs.from_ (HB3.out.trans (hX.mono (by omega)))
    have hs3 := hs.size
    have hx3 := hX.size
    refine ⟨⟨hs2, Nat.le_refl _, by omega⟩, H0.out F hs2, ?_⟩
    have hy := HY3.out.new_ hX
    exact ((hs.fr.cell (p := ⟨W.heap.size, 0, none⟩) hy.lt (fun e => by dsimp only at e; omega)).trans ((hy.cell 0).trans rfl))
  · intro F lo2 pre x post X hx hlo hIW
    have HX := Lib.hid hx
    clear hx
    rw [hI] at hIW
    obtain ⟨⟨hst, hfx, hwf⟩, hJ1, hyc⟩ := hIW
    have HI := Lib.hid hI
    have HIx := Lib.hid hIx
    have HST := Lib.hid hst
    have HJ1 := Lib.hid hJ1
    have hyl := World.block_lt_of_cell? X _ hyc
    clear hI hIx hst hJ1
    simp only [encSym, Array.zip]
    gi_wp2_with fail
    have hJ2 := HJ.out F pre X _ HJ1.out ((Priv.refl W.heap.size X).alloc (.cells #[.int .i64 x.kind, .string x.text, .int .i64 x.n] 23))
    have hb9 : Below X.heap.size X (X.alloc (.cells #[.int .i64 x.kind, .string x.text, .int .i64 x.n] 23)) := (Below.refl _ _).alloc (Nat.le_refl _) _
    have hyc2 := (hb9.cell (p := ⟨W.heap.size, 0, none⟩) hyl).trans hyc
    have hx9 : Blk (X.alloc (.cells #[.int .i64 x.kind, .string x.text, .int .i64 x.n] 23)) X.heap.size 23 #[.int .i64 x.kind, .string x.text, .int .i64 x.n] := Blk.new _ _ _
    have hx3 : w3.heap.size ≤ X.heap.size ∨ X.heap.size < w3.heap.size := by omega
    have hrk9 : RowKeep A X (X.alloc (.cells #[.int .i64 x.kind, .string x.text, .int .i64 x.n] 23)) := RowKeep.of_priv HA.out (((Priv.refl W.heap.size X).alloc _))
    refine ⟨Kept.new_ hb9 hfx, fun X2 hp2 hz2 _ _ => ?_⟩
    have hJ3 := HJ.out F pre _ X2 hJ2 (hp2.mono (by omega))
    have hyc3 := cell_priv hyc2 hp2
    have hx2 := hx9.priv hp2
    have x0 : X2.cell? ⟨X.heap.size, 0, none⟩ = some (.int .i64 x.kind) := (hx2.cell 0).trans rfl
    have x1 : X2.cell? ⟨X.heap.size, 1, none⟩ = some (.string x.text) := (hx2.cell 1).trans rfl
    have x2 : X2.cell? ⟨X.heap.size, 2, none⟩ = some (.int .i64 x.n) := (hx2.cell 2).trans rfl
    have hrk2 : RowKeep A X X2 := hrk9.trans (RowKeep.of_priv HA.out (hp2.mono (B := W.heap.size) (by omega)))
    have HRK := Lib.hid hrk2
    have hfx2 : F.heap.size ≤ X2.heap.size := by omega
    have hxl2 := hx2.lt
    obtain ⟨fn, tmps, assign, body, hy, hR⟩ := HY.out F pre x post X2 HST.out HX.out hJ3
    dsimp only [encSym] at hy
    have HRR := Lib.hid hR
    have hyl2 := World.block_lt_of_cell? X2 _ hyc3
    have HYC3 := Lib.hid hyc3
    clear hR hJ2 hb9 hyc2 hx9 hx3 hrk9 hp2 hJ3 hx2 hrk2 hyc
    gi_wp2_with fail
    refine ⟨rfl, HRR.out.mono ?_⟩
    rintro e W3 (⟨rfl, hJ3, hk3, hkept⟩ | ⟨rfl, hJx3, hkept⟩)
    · have HJ3 := Lib.hid hJ3
      have HK3 := Lib.hid hk3
      have HKE := Lib.hid hkept
      clear hJ3 hk3 hkept hy x0 x1 x2 hyc3
      gi_wp2
      have hI := HI.out
      subst hI
      refine ⟨HKE.out.up (by omega), HRK.out.trans HK3.out, ⟨HST.out, Nat.le_trans hfx2 HK3.out.1, hwf⟩, HJ3.out, ?_⟩
      exact (World.cell?_of_block (a := ⟨W.heap.size, 0, none⟩) (HKE.out.own _ (Nat.le_refl _) hwf)).trans HYC3.out
    · have HJ3 := Lib.hid hJx3
      have HKE := Lib.hid hkept
      clear hJx3 hkept hy x0 x1 x2 hyc3
      gi_wp2
      have hIx := HIx.out
      subst hIx
      exact ⟨HKE.out.up (by omega), rfl, HST.out, HJ3.out⟩
  · intro F D X hD hIW hK
    subst hI
    obtain ⟨⟨hst, _, _⟩, hJ1, _⟩ := hIW
    have HST := Lib.hid hst
    have HJ1 := Lib.hid hJ1
    have HK := Lib.hid hK
    clear hst hJ1 hK hIx
    gi_wp2_with fail
    refine ⟨by simp, .inl ⟨_, _, rfl, run_takeDeferred HK.out, ?_⟩⟩
    have hpv : Priv W.heap.size X (X.putObj D (.deferred none)) := (Priv.refl _ _).putObj (by omega) HK.out rfl _
    exact ⟨_, results_none rfl _ _ _, ⟨_, rfl⟩, F, HST.out, .inl (HJ.out F _ _ _ HJ1.out hpv)⟩
  · intro F D c pre post X hD hx hIW hK
    subst hIx
    obtain ⟨rfl, hst, hJ1⟩ := hIW
    have HST := Lib.hid hst
    have HJ1 := Lib.hid hJ1
    have HK := Lib.hid hK
    have HX := Lib.hid hx
    clear hst hJ1 hK hI hx
    gi_wp2_with fail
    refine ⟨by simp, .inl ⟨_, _, rfl, run_takeDeferred HK.out, ?_⟩⟩
    have hpv : Priv W.heap.size X (X.putObj D (.deferred none)) := (Priv.refl _ _).putObj (by omega) HK.out rfl _
    exact ⟨_, results_none rfl _ _ _, ⟨_, rfl⟩, F, HST.out, .inr ⟨pre, post, HX.out, HJx.out F _ _ _ HJ1.out hpv⟩⟩
/-- The sequence that a caller of All holds. -/
theorem seq_tall (kb c : Nat) (sn : Bool) (A : Option Addr) (T : TB) (l : List Sym) (w : World) (hbox : w.cell? ⟨kb, 0, none⟩ = some (.pointer (some ⟨T.b, 0, none⟩))) (hB : TabBlk w T) (hS : SymSet w T.bs sn A c l) :
    SeqP 57 #[.pointer (some ⟨kb, 0, none⟩)] encSym l w (SeenStart T.bs) (RowKeep A) :=
  ⟨by intro args w; kernel_rfl, fun W hW => tall_is kb c sn A T l W ((hW.cell (World.block_lt_of_cell? _ _ hbox)).trans hbox) (hB.below hW) (hS.new_ hW), fun _ _ _ => RowKeep.trans, fun _ _ => RowKeep.of_priv hS.row_lt, fun _ _ => RowKeep.of_below hS.row_lt, fun _ _ h => h.fr.mono (fun k _ hk => by subst hk; exact hS.lt)⟩
end Go.Proofs.Ytlkffnmmphehdaa

namespace Go.Proofs.Ytlkffnmmphehdaa
open Go.RowKit
theorem eql_sym (x y : Sym) (W : World) : (binOp .eql 23 (.agg #[.int .i64 x.kind, .string x.text, .int .i64 x.n]) (.agg #[.int .i64 y.kind, .string y.text, .int .i64 y.n])).run Try.prog W = .ok (.bool (decide (x = y))) W := by
  rw [run_eql_struct]
  go_simp
  by_cases h : x = y
  · subst h; simp
  · have h2 : ¬ (x.kind = y.kind ∧ x.text.toList = y.text.toList ∧ x.n = y.n) := fun ⟨h1, h2, h3⟩ => h (Sym.ext' h1 (toList_inj h2) h3)
    rw [decide_eq_false h]
    split
    · split
      · split
        · exact absurd ⟨by assumption, by assumption, by assumption⟩ h2
        · rfl
      · rfl
    · rfl
theorem neq_sym (x y : Sym) (W : World) : (binOp .neq 23 (.agg #[.int .i64 x.kind, .string x.text, .int .i64 x.n]) (.agg #[.int .i64 y.kind, .string y.text, .int .i64 y.n])).run Try.prog W = .ok (.bool (!decide (x = y))) W := by
  rw [run_neq_struct]
  go_simp
  by_cases h : x = y
  · subst h; simp
  · have h2 : ¬ (x.kind = y.kind ∧ x.text.toList = y.text.toList ∧ x.n = y.n) := fun ⟨h1, h2, h3⟩ => h (Sym.ext' h1 (toList_inj h2) h3)
    rw [decide_eq_false h]
    split
    · split
      · split
        · exact absurd ⟨by assumption, by assumption, by assumption⟩ h2
        · rfl
      · rfl
    · rfl
attribute [local go_sem] eql_sym neq_sym
/-- Any number as one from 0 to n - 1. -/
def within (v n : Int) : Int := if n < 1 then 0 else v % n
/-- One symbol of a row, cell by cell. -/
theorem sym_at {w : World} {A : Option Addr} {c k : Nat} {l : List Sym} (h : RowRd w 3 Sym.cells A c l) (hk : k < l.length) : ∃ g off, A = some ⟨g, off, none⟩ ∧ g < w.heap.size ∧
    w.cell? ⟨g, off + k * 3, none⟩ = some (.int .i64 l[k].kind) ∧ w.cell? ⟨g, off + k * 3 + 1, none⟩ = some (.string l[k].text) ∧ w.cell? ⟨g, off + k * 3 + 2, none⟩ = some (.int .i64 l[k].n) := by
  obtain ⟨g, off, hA, hg, hc⟩ := h.at_ hk
  exact ⟨g, off, hA, hg, by simpa using hc 0 _ rfl, by simpa using hc 1 _ rfl, by simpa using hc 2 _ rfl⟩
theorem within_nat (v : Int) {n : Nat} (h : 0 < n) : ∃ j : Nat, within v n = j ∧ j < n := by
  have h1 : ¬ (n : Int) < 1 := by omega
  have h2 := Int.emod_nonneg v (show (n : Int) ≠ 0 by omega)
  have h3 := Int.emod_lt_of_pos v (show (0 : Int) < n by omega)
  refine ⟨(v % (n : Int)).toNat, ?_, by omega⟩
  simp only [within, if_neg h1]
  omega

set_option maxRecDepth 100000 in
set_option maxHeartbeats 2000000 in
theorem syms_is (A B : Option Addr) (c d : Nat) (l m : List Sym) (w : World) (hl : RowRd w 3 Sym.cells A c l) (hm : RowRd w 3 Sym.cells B d m) :
    Calls Try.prog 32 #[.slice A l.length c, .slice B m.length d] w fun e w' => e = .returned (.bool (decide (l = m))) ∧ Below w.heap.size w w' := by
  have HL := Lib.hid hl
  have HM := Lib.hid hm
  have hlc := hl.cap
  clear hl hm
  by_cases hlm : l.length = m.length
  · have t1 : ((l.length : Int) != (m.length : Int)) = false := by simp; omega
    have HLM := Lib.hid hlm
    clear hlm
    go_enter Try.func32, Try.ntmps32
    go_wp2_with fail
    go_loopw [5] (fun s wr => ∃ i : Nat, s = .int .i64 i ∧ i ≤ l.length ∧ (∀ k, (h : k < l.length) → (h' : k < m.length) → k < i → l[k] = m[k]) ∧ Below w.heap.size w wr) (fun s wr => l.length - (intOf s).toNat)
    case atStart => exact ⟨0, rfl, Nat.zero_le _, fun k _ _ h => absurd h (by omega), Below.refl _ _⟩
    case round =>
      obtain ⟨i, rfl, hi, hall, hB⟩ := hrel
      have HALL := Lib.hid hall
      have HB := Lib.hid hB
      clear hall hB
      by_cases hlt : i < l.length
      · have hlt2 : i < m.length := by have := HLM.out; omega
        obtain ⟨x, hx⟩ : ∃ x, x = l[i] := ⟨_, rfl⟩
        obtain ⟨y, hy⟩ : ∃ y, y = m[i] := ⟨_, rfl⟩
        obtain ⟨g, off, rfl, hgs, hcell⟩ := (HL.out.new_ HB.out).at_ hlt
        obtain ⟨g2, off2, rfl, hgs2, hcell2⟩ := (HM.out.new_ HB.out).at_ hlt2
        rw [← hx] at hcell
        rw [← hy] at hcell2
        have q0 : wr.cell? ⟨g, off + i * 3, none⟩ = some (.int .i64 x.kind) := by simpa using hcell 0 _ rfl
        have q1 : wr.cell? ⟨g, off + i * 3 + 1, none⟩ = some (.string x.text) := by simpa using hcell 1 _ rfl
        have q2 : wr.cell? ⟨g, off + i * 3 + 2, none⟩ = some (.int .i64 x.n) := by simpa using hcell 2 _ rfl
        have p0 : wr.cell? ⟨g2, off2 + i * 3, none⟩ = some (.int .i64 y.kind) := by simpa using hcell2 0 _ rfl
        have p1 : wr.cell? ⟨g2, off2 + i * 3 + 1, none⟩ = some (.string y.text) := by simpa using hcell2 1 _ rfl
        have p2 : wr.cell? ⟨g2, off2 + i * 3 + 2, none⟩ = some (.int .i64 y.n) := by simpa using hcell2 2 _ rfl
        have b1 : (0 : Int) ≤ (i : Int) := by omega
        have b2 : (i : Int) < (l.length : Int) := by omega
        have b3 : (i : Int) < (m.length : Int) := by omega
        have HX := Lib.hid hx
        have HY := Lib.hid hy
        clear hcell hcell2 hx hy
        have hbe := neq_sym x y
        by_cases he : x = y
        · have HE := Lib.hid he
          have t2 : decide (x = y) = true := by simpa using he
          rw [t2] at hbe
          clear he
          go_wp2_with fail
          go_quiet (fail)
          have HB2 := Lib.hid (Below.drewN' HB.out nq)
          clear q0 q1 q2 p0 p1 p2
          go_wp2_with fail
          go_roundw
          case rel =>
            refine ⟨i + 1, by go_num, by omega, fun k h h' hk => ?_, HB2.out⟩
            rcases Nat.lt_or_ge k i with h3 | h3
            · exact HALL.out k h h' h3
            · obtain rfl : k = i := by omega
              rw [← HX.out, ← HY.out]
              exact HE.out
          case measure => simp [intOf] <;> omega
        · have HE := Lib.hid he
          have t2 : decide (x = y) = false := by simpa using he
          rw [t2] at hbe
          clear he
          go_wp2_with fail
          go_quiet (fail)
          have HB2 := Lib.hid (Below.drewN' HB.out nq)
          clear q0 q1 q2 p0 p1 p2
          go_wp2_with fail
          go_ret
          refine ⟨?_, HB2.out⟩
          have : l ≠ m := by
            rintro rfl
            exact HE.out (HX.out.trans HY.out.symm)
          rw [decide_eq_false this]; rfl
      · have hie : i = l.length := by omega
        subst hie
        go_wp2_with fail
        go_ret
        refine ⟨?_, HB.out⟩
        have : l = m := List.ext_getElem HLM.out (fun k h h' => HALL.out k h h' h)
        rw [decide_eq_true this]; rfl
  · have t1 : ((l.length : Int) != (m.length : Int)) = true := by simp; omega
    have HLM := Lib.hid hlm
    clear hlm
    go_enter Try.func32, Try.ntmps32
    go_wp2_with fail
    go_ret
    refine ⟨?_, Below.refl _ _⟩
    have : l ≠ m := fun e => HLM.out (by rw [e])
    rw [decide_eq_false this]; rfl

set_option maxHeartbeats 1000000 in
theorem within_is (v n : Int) (w : World) (hn : n ≤ 9223372036854775807) :
    Calls Try.prog 22 #[.int .i64 v, .int .i64 n] w fun e w' => e = .returned (.int .i64 (within v n)) ∧ w = w' := by
  by_cases h : n < 1
  · have hw : within v n = 0 := by simp [within, h]
    rw [hw]
    go_enter Try.func22, Try.ntmps22
    go_wp2_with fail
    go_ret
    exact ⟨rfl, rfl⟩
  · have hw : within v n = v % n := by simp [within, h]
    rw [hw]
    have e0 : n ≠ 0 := by omega
    have h1 : v.tmod n < n := Int.tmod_lt_of_pos v (by omega)
    have h2 : -n < v.tmod n := by
      have := Int.lt_tmod_of_pos v (show 0 < n by omega)
      omega
    have e1 : IntKind.i64.wrap (v.tmod n) = v.tmod n := IntWalk.i64_in _ (by omega)
    have e2 : v.tmod n < 0 → v % n = v.tmod n + n := fun h3 => by
      have h4 := Int.emod_emod_of_dvd v (Int.dvd_refl n)
      have h5 : (v.tmod n) % n = v % n := by
        have := Int.mul_tdiv_add_tmod v n
        have h6 : v % n = (v.tmod n + n * v.tdiv n) % n := by congr 1; omega
        rw [h6, Int.add_mul_emod_self_left]
      have h7 : (v.tmod n + n) % n = v.tmod n % n := by simp
      rw [← h5, ← h7, Int.emod_eq_of_lt (by omega) (by omega)]
    have e3 : ¬ v.tmod n < 0 → v % n = v.tmod n := fun h3 => by
      have h5 : (v.tmod n) % n = v % n := by
        have := Int.mul_tdiv_add_tmod v n
        have h6 : v % n = (v.tmod n + n * v.tdiv n) % n := by congr 1; omega
        rw [h6, Int.add_mul_emod_self_left]
      rw [← h5, Int.emod_eq_of_lt (by omega) (by omega)]
    have E2 := Lib.hid e2
    have E3 := Lib.hid e3
    clear e2 e3
    go_enter Try.func22, Try.ntmps22
    by_cases h3 : v.tmod n < 0
    · have E := Lib.hid (E2.out h3)
      have e4 : IntKind.i64.wrap (v.tmod n + n) = v.tmod n + n := IntWalk.i64_in _ (by omega)
      clear E2 E3
      go_wp2_with fail
      go_ret
      exact ⟨by rw [E.out]; rfl, rfl⟩
    · have E := Lib.hid (E3.out h3)
      clear E2 E3
      go_wp2_with fail
      go_ret
      exact ⟨by rw [E.out]; rfl, rfl⟩
end Go.Proofs.Ytlkffnmmphehdaa

namespace Go.Proofs.Ytlkffnmmphehdaa
open Go.RowKit
def maxL (l : List Sym) (c : UInt8) : Int := l.foldl (fun n s => if s.kind = 1 ∧ s.text = letB c then max n s.n else n) 0
def nextL (l : List Sym) (c : UInt8) : Int := if greatB c = true then maxL l c + 1 else 0
theorem maxL_snoc (l : List Sym) (s : Sym) (c : UInt8) : maxL (l ++ [s]) c = if s.kind = 1 ∧ s.text = letB c then max (maxL l c) s.n else maxL l c := by simp [maxL]
theorem maxL_bd (c : UInt8) : ∀ (l : List Sym) (a : Int), 0 ≤ a → a ≤ 1048576 → (∀ s ∈ l, s.kind = 1 → s.n ≤ 1048576) → 0 ≤ l.foldl (fun n s => if s.kind = 1 ∧ s.text = letB c then max n s.n else n) a ∧ l.foldl (fun n s => if s.kind = 1 ∧ s.text = letB c then max n s.n else n) a ≤ 1048576
  | [], a, h0, h1, _ => ⟨h0, h1⟩
  | s :: l, a, h0, h1, h => by
    rw [List.foldl_cons]
    have hs := h s (by simp)
    refine maxL_bd c l _ ?_ ?_ (fun x hx => h x (by simp [hx]))
    · split
      · rename_i hc
        have := hs hc.1; omega
      · omega
    · split
      · rename_i hc
        have := hs hc.1; omega
      · omega
/-- The document's table in memory. -/
def RTabA (w : World) (k : Nat) (room : Int) (l : List Sym) (A : Option Addr) (cap : Nat) : Prop := Blk w k 41 #[.int .i64 room, .slice A l.length cap] ∧ RowRd w 3 Sym.cells A cap l ∧ AIn A (fun j => j ≠ k ∧ j < w.heap.size)
def RTab (w : World) (k : Nat) (room : Int) (l : List Sym) : Prop := ∃ A cap, RTabA w k room l A cap
/-- A list lies where it lay, or in memory that was new. -/
def From (A : Option Addr) (n : Nat) (A' : Option Addr) : Prop := AIn A' (fun j => (∃ a, A = some a ∧ a.block = j) ∨ n ≤ j)
theorem From.refl (A : Option Addr) (n : Nat) : From A n A := fun a ha => .inl ⟨a, ha, rfl⟩
theorem From.step {A A' A2 : Option Addr} {n n' m : Nat} (h : From A n A') (hn : n ≤ n') (h2 : A2 = A' ∨ AIn A2 (fun j => n' ≤ j ∧ j < m)) : From A n A2 := by
  rcases h2 with rfl | h2
  · exact h
  · exact h2.mono (fun j hj => .inr (by omega))
theorem From.in_ {A A' : Option Addr} {n : Nat} {S : Nat → Prop} (h : From A n A') (hA : AIn A S) (hn : ∀ j, n ≤ j → S j) : AIn A' S := h.mono (fun j hj => by
  rcases hj with ⟨a, ha, rfl⟩ | hj
  · exact hA a ha
  · exact hn j hj)
set_option maxRecDepth 100000 in
set_option maxHeartbeats 8000000 in
theorem rnext_is (k : Nat) (room : Int) (l : List Sym) (c : UInt8) (w : World) (hR : RTab w k room l) (hbd : ∀ s ∈ l, s.kind = 1 → s.n ≤ 1048576) (hll : (l.length : Int) ≤ 1000000) :
    Calls Try.prog 30 #[.pointer (some ⟨k, 0, none⟩), .int .u8 (c.toNat : Int)] w fun e w' => e = .returned (.int .i64 (nextL l c)) ∧ Below w.heap.size w w' := by
  obtain ⟨A, cap, hB, hrd, _⟩ := hR
  have HB := Lib.hid hB
  have HRD := Lib.hid hrd
  have HBD := Lib.hid hbd
  clear hB hrd hbd
  by_cases h1 : c.toNat < 65
  · have t1 : decide ((c.toNat : Int) < 65) = true := by simp; omega
    have HN := Lib.hid (show nextL l c = 0 by unfold nextL; rw [if_neg (by simp [greatB]; omega)])
    clear h1
    go_enter Try.func30, Try.ntmps30
    go_wp2_with fail
    go_ret
    exact ⟨by rw [HN.out] <;> rfl, Below.refl _ _⟩
  have t1 : decide ((c.toNat : Int) < 65) = false := by simp; omega
  by_cases h2 : 90 < c.toNat
  · have t2 : decide ((90 : Int) < (c.toNat : Int)) = true := by simp; omega
    have HN := Lib.hid (show nextL l c = 0 by unfold nextL; rw [if_neg (by simp [greatB]; omega)])
    clear h1 h2
    go_enter Try.func30, Try.ntmps30
    go_wp2_with fail
    go_ret
    exact ⟨by rw [HN.out] <;> rfl, Below.refl _ _⟩
  have t2 : decide ((90 : Int) < (c.toNat : Int)) = false := by simp; omega
  have HN := Lib.hid (show nextL l c = maxL l c + 1 by unfold nextL; rw [if_pos (by simp [greatB]; omega)])
  clear h1 h2
  have s1 := (HB.out.cell 1).trans rfl
  go_enter Try.func30, Try.ntmps30
  go_wp2_with fail
  clear s1 t1 t2
  go_loopw [5, 6] (fun n s wr => ∃ i : Nat, s = .int .i64 i ∧ n = .int .i64 (maxL (l.take i) c) ∧ i ≤ l.length ∧ Below w.heap.size w wr) (fun n s wr => l.length - (intOf s).toNat)
  case atStart => exact ⟨0, rfl, rfl, Nat.zero_le _, Below.refl _ _⟩
  case round =>
    obtain ⟨i, rfl, rfl, hi, hBl⟩ := hrel
    have hBk := HB.out.new_ hBl
    have s1 : wr.cell? ⟨k, 1, none⟩ = some (.slice A l.length cap) := (hBk.cell 1).trans rfl
    have hkl := hBk.lt
    have hmb := maxL_bd c (l.take i) 0 (by omega) (by omega) (fun s hs => HBD.out s (List.mem_of_mem_take hs))
    obtain ⟨m, hm⟩ : ∃ m, m = maxL (l.take i) c := ⟨_, rfl⟩
    have hm0 : 0 ≤ m := by rw [hm]; exact hmb.1
    have hm1 : m ≤ 1048576 := by rw [hm]; exact hmb.2
    rw [← hm]
    have HM := Lib.hid hm
    have HBl := Lib.hid hBl
    clear hm hmb hBk hBl
    by_cases hlt : i < l.length
    · obtain ⟨y, hy⟩ : ∃ y, y = l[i] := ⟨_, rfl⟩
      obtain ⟨g, off, rfl, hg, q0, q1, q2⟩ := sym_at (HRD.out.new_ HBl.out) hlt
      rw [← hy] at q0 q1 q2
      have hst : maxL (l.take (i + 1)) c = if y.kind = 1 ∧ y.text = letB c then max m y.n else m := by
        rw [List.take_add_one, List.getElem?_eq_getElem hlt, ← hy]
        simp only [Option.toList_some]
        rw [maxL_snoc, ← HM.out]
      have HST := Lib.hid hst
      have te : (y.text.toList == (letB c).toList) = decide (y.text = letB c) := by
        rw [Bool.eq_iff_iff, beq_iff_eq, decide_eq_true_iff]
        exact ⟨fun h => toList_inj h, fun h => by rw [h]⟩
      have hcv := convL c
      have b1 : (0 : Int) ≤ (i : Int) := by omega
      have b2 : (i : Int) < (l.length : Int) := by omega
      clear hst hy
      by_cases k1 : y.kind = 1
      · have t1 : (y.kind == 1) = true := by simp [k1]
        by_cases k2 : y.text = letB c
        · rw [decide_eq_true k2] at te
          have HS2 := Lib.hid (show maxL (l.take (i + 1)) c = max m y.n by rw [HST.out, if_pos ⟨k1, k2⟩])
          clear k1 k2
          go_wp2_with fail
          go_roundw
          case rel => exact ⟨i + 1, by go_num, by rw [HS2.out], by omega, (HBl.out.alloc HBl.out.size _).alloc (by have := HBl.out.size; simp; omega) _⟩
          case measure => simp [intOf] <;> omega
        · rw [decide_eq_false k2] at te
          have HS2 := Lib.hid (show maxL (l.take (i + 1)) c = m by rw [HST.out, if_neg (fun h => k2 h.2)])
          clear k1 k2
          go_wp2_with fail
          go_roundw
          case rel => exact ⟨i + 1, by go_num, by rw [HS2.out], by omega, (HBl.out.alloc HBl.out.size _).alloc (by have := HBl.out.size; simp; omega) _⟩
          case measure => simp [intOf] <;> omega
      · have t1 : (y.kind == 1) = false := by simp [k1]
        have HS2 := Lib.hid (show maxL (l.take (i + 1)) c = m by rw [HST.out, if_neg (fun h => k1 h.1)])
        clear k1
        go_wp2_with fail
        go_roundw
        case rel => exact ⟨i + 1, by go_num, by rw [HS2.out], by omega, HBl.out.alloc HBl.out.size _⟩
        case measure => simp [intOf] <;> omega
    · have hie : i = l.length := by omega
      subst hie
      have HE := Lib.hid (show nextL l c = m + 1 by rw [HN.out, HM.out, List.take_length])
      have v1 : IntKind.i64.wrap (m + 1) = m + 1 := IntWalk.i64_in _ (by omega)
      go_wp2_with fail
      go_ret
      exact ⟨by rw [HE.out] <;> rfl, HBl.out⟩
end Go.Proofs.Ytlkffnmmphehdaa

namespace Go.Proofs.Ytlkffnmmphehdaa
open Go.RowKit
attribute [local go_sem] eql_sym neq_sym

theorem cmpStr_lt {a b : ByteArray} : cmpStr a b < 0 ↔ Op.bytesLess a.toList b.toList = true := by
  unfold cmpStr
  split
  · simp_all
  · rename_i h
    split <;> simp_all
theorem cmpInt_lt {a b : Int} : cmpInt a b < 0 ↔ a < b := by
  unfold cmpInt
  split
  · simp_all
  · split
    · simp_all
    · simp_all
theorem dec_int (a b : Int) : decide (cmpInt a b < 0) = decide (a < b) := decide_eq_decide.2 cmpInt_lt
theorem dec_str (a b : ByteArray) : decide (cmpStr a b < 0) = Op.bytesLess a.toList b.toList := by
  rw [Bool.eq_iff_iff, decide_eq_true_iff]; exact cmpStr_lt
set_option maxRecDepth 100000 in
set_option maxHeartbeats 1000000 in
theorem before_is (a b : Sym) (w : World) : Calls Try.prog 20 #[.agg #[.int .i64 a.kind, .string a.text, .int .i64 a.n], .agg #[.int .i64 b.kind, .string b.text, .int .i64 b.n]] w fun e w' => e = .returned (.bool (decide (cmpSym a b < 0))) ∧ Below w.heap.size w w' := by
  obtain ⟨ak, at_, an⟩ := a
  obtain ⟨bk, bt, bn⟩ := b
  by_cases h1 : ak = bk
  · by_cases h2 : at_ = bt
    · have hc : cmpSym ⟨ak, at_, an⟩ ⟨bk, bt, bn⟩ = cmpInt an bn := by
        have e1 := cmpInt_eq.2 h1
        have e2 := cmpStr_eq.2 h2
        simp [cmpSym, andThen, e1, e2]
      have HC := Lib.hid hc
      subst h1; subst h2
      clear hc
      go_enter Try.func20, Try.ntmps20
      go_wp2_with fail
      go_ret
      refine ⟨?_, ((Below.refl _ _).alloc (Nat.le_refl _) _).alloc (by simp) _⟩
      rw [HC.out, dec_int]; rfl
    · have hc : cmpSym ⟨ak, at_, an⟩ ⟨bk, bt, bn⟩ = cmpStr at_ bt := by
        have e1 := cmpInt_eq.2 h1
        have e2 : cmpStr at_ bt ≠ 0 := fun h => h2 (cmpStr_eq.1 h)
        simp [cmpSym, andThen, e1, e2]
      have h3 : ¬ at_.toList = bt.toList := fun h => h2 (toList_inj h)
      have n3 : (at_.toList == bt.toList) = false := by simp [h3]
      have HC := Lib.hid hc
      subst h1
      clear hc h2
      go_enter Try.func20, Try.ntmps20
      go_wp2_with fail
      go_ret
      refine ⟨?_, ((Below.refl _ _).alloc (Nat.le_refl _) _).alloc (by simp) _⟩
      rw [HC.out, dec_str]; rfl
  · have hc : cmpSym ⟨ak, at_, an⟩ ⟨bk, bt, bn⟩ = cmpInt ak bk := by
      have e1 : cmpInt ak bk ≠ 0 := fun h => h1 (cmpInt_eq.1 h)
      simp [cmpSym, andThen, e1]
    have HC := Lib.hid hc
    clear hc
    go_enter Try.func20, Try.ntmps20
    go_wp2_with fail
    go_ret
    refine ⟨?_, ((Below.refl _ _).alloc (Nat.le_refl _) _).alloc (by simp) _⟩
    rw [HC.out, dec_int]; rfl
end Go.Proofs.Ytlkffnmmphehdaa

namespace Go.Proofs.Ytlkffnmmphehdaa
open Go.RowKit Go.ChangeShapes Go.WideShapes Go.Deep

section
variable {H : Type} {enc : TypeId × Value → H} {P : Program}
theorem post_of_below {f : Func} {s : ChangeSpec} {apart fresh handsOn again : Bool} {W W' : World} {args : Array Value} {v : Value} {ds gs : List (DataW H)} {before pa pv : List MemPlace}
    (hW : DataW.Whole enc P f.params.toList s.vars apart W args.toList ds gs before)
    (hres : ∀ (b : Nat) (sp : Nat → Bool) (hd : Bool), DataW.TrodAll enc P W' b sp hd f.resultTypes.toList (v.resultList f.resultTypes.size) (s.fn H (ds ++ gs)).results [])
    (hargs : ∀ sp : Nat → Bool, (∀ p ∈ before, sp p.block = true) → DataW.TrodAll enc P W' 0 sp true f.params.toList args.toList (s.fn H (ds ++ gs)).args pa)
    (hvars : ∀ sp : Nat → Bool, (∀ p ∈ before, sp p.block = true) → DataW.TrodVars enc P W' sp s.vars (s.fn H (ds ++ gs)).vars pv)
    (hps : before = pa ++ pv) (hb : Below W.heap.size W W')
    (hok : ∀ (j : Nat) (t : TypeId) (r : Value), f.resultTypes[j]? = some t → (v.resultList f.resultTypes.size)[j]? = some r → Value.okWide P W' .any 0 t r) :
    s.post enc P f apart fresh handsOn again W args v W' := by
  have hlt : ∀ p ∈ before, p.block < W.heap.size := fun p hp => hW.lt p hp
  have hold : ∀ p ∈ before, (fun b => decide (b < W.heap.size)) p.block = true := fun p hp => by simpa using hlt p hp
  refine ⟨ds, gs, before, [], pa, pv, hW, hres _ _ _, hargs _ hold, hvars _ hold, World.keptBut_mono (fun p hp => ⟨hp, ?_⟩) (hb.frame (· ∈ before)), fun _ => ?_⟩
  · rw [hps, List.mem_append] at hp
    exact Or.inr hp
  · obtain ⟨_, _, _, _, _, hz, hn⟩ := hW
    refine ⟨hok, _, _, ([] ++ pa) ++ pv, ⟨[] ++ pa, pv, trodAll_append (hargs _ (fun _ _ => rfl)) (hres _ _ _), hvars _ (fun _ _ => rfl), rfl, ?_, ?_⟩, ?_⟩
    · intro b off hp
      have hin : MemPlace.cell b off ∈ before := by rw [hps]; simpa using hp
      rw [hb.frozen (hlt _ hin)]
      exact hz b off hin
    · intro ha
      have := hn ha
      rw [hps] at this
      simpa using this
    · intro p hp _
      rw [hps]
      simpa using hp
theorem trodAll_stays (hl : laidOutB P = true) {W W' : World} {sp : Nat → Bool} (hb : Below W.heap.size W W') : ∀ (ts : List TypeId) (vs : List Value) (ds : List (DataW H)) (ps : List MemPlace),
    (∀ t ∈ ts, P.readableRec t = true ∧ t < P.types.size) → DataW.TrodAll enc P W 0 (fun _ => true) true ts vs ds ps → (∀ p ∈ ps, p.block < W.heap.size) → (∀ p ∈ ps, sp p.block = true) → DataW.TrodAll enc P W' 0 sp true ts vs ds ps
  | [], [], [], ps, _, h, _, _ => h
  | t :: ts, v :: vs, d :: ds, ps, ht, ⟨p, q, h1, h2, he⟩, hlt, hsp => by
    subst he
    refine ⟨p, q, WideElems.Trod_stays hl (ht t (by simp)).1 (ht t (by simp)).2 h1 (fun x hx => hb.same (hlt x (by simp [hx]))) (fun x hx => hsp x (by simp [hx])), ?_, rfl⟩
    exact trodAll_stays hl hb ts vs ds q (fun t' h' => ht t' (by simp [h'])) h2 (fun x hx => hlt x (by simp [hx])) (fun x hx => hsp x (by simp [hx]))
  | [], _ :: _, _, _, _, h, _, _ => h.elim
  | [], [], _ :: _, _, _, h, _, _ => h.elim
  | _ :: _, [], _, _, _, h, _, _ => h.elim
  | _ :: _, _ :: _, [], _, _, h, _, _ => h.elim
/-- THE ROW's LAST STEP of a law: true; all that was there is as it was. -/
theorem post_true {f : Func} {s : ChangeSpec} {apart fresh handsOn again : Bool} {W W' : World} {args : Array Value} {ds gs : List (DataW H)} {before : List MemPlace} {tb : TypeId}
    (hl : laidOutB P = true) (hv : s.vars = []) (hW : DataW.Whole enc P f.params.toList s.vars apart W args.toList ds gs before) (hr : f.resultTypes = #[tb]) (htb : P.underlying tb = some .bool)
    (hp : ∀ t ∈ f.params.toList, P.readableRec t = true ∧ t < P.types.size) (h1 : (s.fn H (ds ++ gs)).results = [.lit (.bool true)]) (h2 : (s.fn H (ds ++ gs)).args = ds) (h3 : (s.fn H (ds ++ gs)).vars = [])
    (hb : Below W.heap.size W W') : s.post enc P f apart fresh handsOn again W args (.bool true) W' := by
  have hlt : ∀ p ∈ before, p.block < W.heap.size := fun p hp => hW.lt p hp
  have hW0 := hW
  obtain ⟨p, q, hA, hV, he, _⟩ := hW
  rw [hv] at hV
  have hq : q = [] := by cases gs <;> simp [DataW.TrodVars] at hV; exact hV
  subst hq
  rw [List.append_nil] at he
  subst he
  refine post_of_below (pa := before) (pv := []) hW0 (fun b sp hd => ?_) (fun sp hsp => ?_) (fun sp hsp => ?_) (by simp) hb ?_
  · rw [hr, h1]; exact trodAll_mk1 (shut_bool htb true)
  · rw [h2]; exact trodAll_stays hl hb _ _ _ _ hp hA hlt hsp
  · rw [hv, h3]; rfl
  · exact ok_one hr rfl (okWide_bool_mk htb true)
end

/-! ### arguments opened -/
/-- Values of type e read as an α, by these cells. -/
def Reads {α : Type} (P : Program) (e : TypeId) (size : Nat) (cells : α → List Value) : Prop :=
  P.cellsOf e = size ∧ ∀ (H : Type) (enc : TypeId × Value → H) (w : World) (base : Nat) (spare : Nat → Bool) (held : Bool) (n : Nat) (cs : List Value) (x : DataW H × List MemPlace),
    DataW.trod enc P w base spare held n e cs = some x → ∃ a : α, cs = cells a
theorem list_of {α : Type} {Q : Nat → α → Prop} : ∀ (n : Nat), (∀ i, i < n → ∃ a, Q i a) → ∃ l : List α, l.length = n ∧ ∀ i, (h : i < l.length) → Q i l[i]
  | 0, _ => ⟨[], rfl, fun i h => absurd h (by simp)⟩
  | n + 1, h => by
    obtain ⟨l, hl, hq⟩ := list_of n (fun i hi => h i (by omega))
    obtain ⟨a, ha⟩ := h n (by omega)
    refine ⟨l ++ [a], by simp [hl], fun i hi => ?_⟩
    by_cases hi' : i < l.length
    · rw [List.getElem_append_left hi']; exact hq i hi'
    · have : i = n := by simp at hi; omega
      subst this
      rw [List.getElem_append_right (by omega)]
      simpa [hl] using ha
theorem open_row {H : Type} {enc : TypeId × Value → H} {P : Program} {w : World} {r : Reach} {b0 base : Nat} {spare : Nat → Bool} {held : Bool} {α : Type} {t e : TypeId} {size : Nat} {cells : α → List Value} {v : Value} {d : DataW H} {ps : List MemPlace}
    (ht : P.underlying t = some (.slice e)) (h0 : 0 < size) (hr : Reads P e size cells) (hval : Value.okWide P w r b0 t v) (h : DataW.Trod enc P w base spare held t v d ps) :
    ∃ A c, ∃ l : List α, v = .slice A l.length c ∧ RowRd w size cells A c l := by
  obtain ⟨A, len, cap, rfl⟩ := okWide_slice ht hval
  obtain ⟨fuel, hf⟩ := h
  have hcs : (Value.slice A len cap).cells.toList = [.slice A len cap] := by simp [Value.cells]
  rw [hcs] at hf
  rcases open_slice ht hf with ⟨h1, _⟩ | ⟨a, len', cap', m, n, D, Pl, h1, _, hl, hm, hmm, _, hx⟩
  · simp at h1
    obtain ⟨rfl, rfl, rfl⟩ := h1
    exact ⟨none, 0, [], rfl, RowRd.nil _ _ _⟩
  · simp at h1
    obtain ⟨rfl, rfl, rfl⟩ := h1
    have hlm : len ≤ m := by rw [hmm]; split <;> omega
    obtain ⟨l, hll, hq⟩ := list_of (α := α) (Q := fun i x => ∀ j u, (cells x)[j]? = some u → w.cell? ((a.add (i * size)).add j) = some u) len (fun i hi => by
      obtain ⟨cs', c1, c2⟩ := hx i (by omega)
      obtain ⟨x, rfl⟩ := hr.2 H enc w base spare held n cs' _ c2
      obtain ⟨_, hlen, hcell⟩ := World.cells?_some c1
      rw [hr.1] at hcell hlen
      exact ⟨x, fun j u hu => (hcell j (by rw [← hlen]; exact (List.getElem?_eq_some_iff.1 hu).1)).trans hu⟩)
    subst hll
    refine ⟨some a, cap, l, rfl, hl, hm, fun hpos => ?_⟩
    obtain ⟨cs', c1, c2⟩ := hx 0 (by omega)
    obtain ⟨_, hlen, hcell⟩ := World.cells?_some c1
    rw [hr.1] at hlen hcell
    have hspot : a.spot = none := by
      have := hcell 0 h0
      rw [List.getElem?_eq_getElem (by omega)] at this
      have e2 : (a.add (0 * size)).add 0 = a := by simp [Addr.add]
      rw [e2] at this
      exact World.cell?_spot this
    obtain ⟨b, off, spot⟩ := a
    simp only at hspot
    subst hspot
    refine ⟨b, off, rfl, ?_, fun k hk j u hu => ?_⟩
    · have := hcell 0 h0
      rw [List.getElem?_eq_getElem (by omega)] at this
      have e2 : ((⟨b, off, none⟩ : Addr).add (0 * size)).add 0 = ⟨b, off, none⟩ := by simp [Addr.add]
      rw [e2] at this
      exact World.block_lt_of_cell? w _ this
    · have := hq k hk j u hu
      rwa [add_plain, add_plain] at this
theorem reads_int {P : Program} {e : TypeId} (he : P.underlying e = some (.int .i64)) (hc : P.cellsOf e = 1) : Reads P e 1 (fun n : Int => [Value.int .i64 n]) :=
  ⟨hc, fun H enc w base spare held n cs x h => by
    obtain ⟨k, rfl, _⟩ := DataW.trod_int he h
    exact ⟨k, rfl⟩⟩
end Go.Proofs.Ytlkffnmmphehdaa
