/-
  Texts put together: TabPut, TabFresh, TabHas, SeqP, ListPSym, TabAll, RTabNext, RefBefore, RefPut, RTabPut, SymLists, TabPlain, TabPutL, TabClone, GTab, GNew, GState, FindName, OpsName.
-/
import Derived.Test.YtpndmjabjjbefaaGreatBe
import Derived.Test.YtpndmjabjjbefaaGreatBb
import Derived.Test.YtpndmjabjjbefaaGreatBa
import Derived.Maps.RangeWalk
namespace Go.Proofs.YtpndmjabjjbefaaGreat
open Go.RowKit
def idc (t : ByteArray) : UInt8 := t.data.toList.headD 0
theorem idc_eq {t : ByteArray} (h : 0 < t.size) : idc t = t[0] := by
 obtain ⟨r, hr⟩ : ∃ r, t.data.toList = t[0] :: r := by
  have hs : t.data.toList.length = t.size := Array.length_toList
  refine ⟨t.data.toList.drop 1, ?_⟩
  have e : t[0] = t.data.toList[0]'(by omega) := by rw [Array.getElem_toList]; rfl
  rw [e, List.getElem_cons_drop, List.drop_zero]
 unfold idc
 rw [hr]; rfl
def tputM (m : List Page) (s : Sym) : List Page := if s.kind = 1 ∧ nextB m (idc s.text) ≤ s.n then mput m ⟨idc s.text, s.n + 1⟩ else m
def TabPut (D : Nat → Prop) (w : World) (S : Nat → Option (List Sym)) (σ : Nat → St) (S2 : Nat → Option (List Page)) (σ2 : Nat → St) (T : TB) (l : List Sym) (m : List Page) (w' : World) : Prop :=
 (∃ σ' σ2', Tabs D w' (upd S T.bs (some l)) σ' (upd S2 T.bp (some m)) σ2' ∧ ∀ k, k < w.heap.size → Off k S σ → Off k S2 σ2 → Off k (upd S T.bs (some l)) σ' ∧ Off k (upd S2 T.bp (some m)) σ2') ∧ KB w w' ∧ Fr (fun k => ¬ D k) w w'
section
variable {D : Nat → Prop} {w : World} {S : Nat → Option (List Sym)} {σ : Nat → St} {S2 : Nat → Option (List Page)} {σ2 : Nat → St}
theorem Tabs.noop {b : Nat} {m : List Page} (h : Tabs D w S σ S2 σ2) (hb : S2 b = some m) : Tabs D w S σ (upd S2 b (some m)) σ2 := by rw [upd_id _ _ _ hb]; exact h
set_option maxRecDepth 100000 in
set_option maxHeartbeats 4000000 in
theorem tabput_other (T : TB) (l : List Sym) (m : List Page) (k : Int) (t : ByteArray) (n : Int) (hT : Tabs D w S σ S2 σ2) (hB : TabBlk w T) (hb : S T.bs = some l) (hb2 : S2 T.bp = some m) (hk : ¬ k = 1) (hl : (l.length : Int) ≤ 1000000) (hl2 : (m.length : Int) ≤ 1000000) :
 Calls Tryz.prog 80 #[.pointer (some ⟨T.b, 0, none⟩), .agg #[.int .i64 k, .string t, .int .i64 n]] w fun e w' => e = .returned (.tuple #[]) ∧ TabPut D w S σ S2 σ2 T (put cmpSym l ⟨k, t, n⟩) m w' := by
 have hA0 := (hT.syms.at_ T.bs l hb).row_lt
 have hbs := (hT.syms.at_ T.bs l hb).lt
 have HT := Lib.hid hT
 have HB := Lib.hid hB
 have HS := Lib.hid hb
 have HP := Lib.hid hb2
 have HA0 := Lib.hid hA0
 have _hl := hl2
 have t1 : (k == 1) = false := by simp [hk]
 clear hk
 clear hT hB hb hb2 hA0
 go_enter Tryz.func80, Tryz.ntmps80
 go_wp2_with fail
 obtain ⟨W, hW⟩ : ∃ W, W = w.alloc (Obj.cells #[Value.int IntKind.i64 k, Value.string t, Value.int IntKind.i64 n] 23) := ⟨_, rfl⟩
 have hX : Blk W w.heap.size 23 #[.int .i64 k, .string t, .int .i64 n] := by rw [hW]; exact Blk.new _ _ _
 have hB0 : Below w.heap.size w W := by rw [hW]; exact (Below.refl _ _).alloc (Nat.le_refl _) _
 rw [← hW]
 clear hW
 have y0 := (hX.cell 0).trans rfl
 have y1 := (hX.cell 1).trans rfl
 have y2 := (hX.cell 2).trans rfl
 have hxl := hX.lt
 have hT0 := HT.out.below hB0
 have hBk := HB.out.below hB0
 have s1 := (hBk.1.cell 1).trans rfl
 have hbl := hBk.1.lt
 have HX := Lib.hid hX
 have HB0 := Lib.hid hB0
 have HT0 := Lib.hid hT0
 have HBk := Lib.hid hBk
 clear hX hB0 hT0 hBk
 refine wp_region_E (fun w9 => Below W.heap.size W w9) [(0, 0), (1, 0), (2, 0), (3, 1), (4, 1), (5, 2)] (by kernel_rfl) (by kernel_rfl) (fun KK hKK => ?_)
 simp only [beside, List.filterMap_cons, List.filterMap_nil, List.getElem?_toArray, List.getElem?_cons_zero, List.getElem?_cons_succ, Option.map_some]
 repeat ((first | (refine wpX_w ?_ (Or.inl ⟨by rfl, fun w9 => ?_⟩) ?_; rotate_left 1; go_simp; with_reducible rfl) | (refine wpX_l ?_ (((Below.refl _ _).drew)) (Or.inl ⟨by rfl, fun w9 hw9 => ?_⟩) ?_; rotate_left 1; obtain ⟨hc9, hf9⟩ := bcell hw9; go_simp; with_reducible rfl) | refine wpX_w undef (Or.inr ⟨by rfl, rfl⟩) ?_ | refine wpX_l undef (((Below.refl _ _).drew)) (Or.inr ⟨by rfl, rfl⟩) ?_); go_frame)
 refine wpX_e (by kernel_rfl) (fun K9 hK9 => ?_)
 go_simp
 refine (tPut_Sym ⟨k, t, n⟩ (HT0.out.below ((Below.refl _ _).drew)) HS.out (by omega)).mono ?_
 rintro e w1 ⟨rfl, hch⟩
 have HP1 := Lib.hid hch
 obtain ⟨_, _, _, hM1⟩ := hch
 have hng : ¬ SetMod T.bs (σ T.bs).sn (σ T.bs).A w.heap.size := (by
  rintro (h | ⟨_, a, ha, h⟩)
  · omega
  · have := HA0.out a ha; omega)
 have hX1 := HX.out.drew.fr hM1 hng
 have z0 := (hX1.cell 0).trans rfl
 have z1 := (hX1.cell 1).trans rfl
 have z2 := (hX1.cell 2).trans rfl
 have hxl1 := hX1.lt
 have hBk1 : TabBlk w1 T := TabBlk.kb HBk.out HP1.out.2.1
 have r2 := (hBk1.1.cell 2).trans rfl
 have hbl1 := hBk1.1.lt
 obtain ⟨σ1, hT1, hO1⟩ := HP1.out.1
 have HT1 := Lib.hid hT1
 have HO1 := Lib.hid hO1
 have HX1 := Lib.hid hX1
 have HBk1 := Lib.hid hBk1
 clear hM1 hng hX1 hBk1 hT1 hO1 y0 y1 y2 s1
 refine hK9 _ _ ?_
 clear hK9 K9
 refine wpX_nil ?_
 simp only [OnlyN_normal]
 refine hKK _ _ ?_
 clear hKK KK
 go_wp2_with fail
 refine wp_region_E (fun w9 => Below w1.heap.size w1 w9) [(0, 0), (1, 1), (2, 0), (3, 0), (4, 0), (5, 1), (6, 0), (7, 0), (8, 1), (9, 0), (10, 2), (11, 0), (12, 0)] (by kernel_rfl) (by kernel_rfl) (fun KK hKK => ?_)
 simp only [beside, List.filterMap_cons, List.filterMap_nil, List.getElem?_toArray, List.getElem?_cons_zero, List.getElem?_cons_succ, Option.map_some]
 repeat ((first | (refine wpX_w ?_ (Or.inl ⟨by rfl, fun w9 => ?_⟩) ?_; rotate_left 1; go_simp; with_reducible rfl) | (refine wpX_l ?_ (((Below.refl _ _).drew)) (Or.inl ⟨by rfl, fun w9 hw9 => ?_⟩) ?_; rotate_left 1; obtain ⟨hc9, hf9⟩ := bcell hw9; go_simp; with_reducible rfl) | refine wpX_w undef (Or.inr ⟨by rfl, rfl⟩) ?_ | refine wpX_l undef (((Below.refl _ _).drew)) (Or.inr ⟨by rfl, rfl⟩) ?_); go_frame)
 refine wpX_es (fun K9 hK9 => ?_)
 go_simp
 have HB2 := Lib.hid ((Below.refl w1.heap.size w1).drew)
 refine hK9 _ _ HB2.out ?_
 clear hK9 K9
 repeat ((first | (refine wpX_w ?_ (Or.inl ⟨by rfl, fun w9 => ?_⟩) ?_; rotate_left 1; go_simp; with_reducible rfl) | (refine wpX_l ?_ (HB2.out) (Or.inl ⟨by rfl, fun w9 hw9 => ?_⟩) ?_; rotate_left 1; obtain ⟨hc9, hf9⟩ := bcell hw9; go_simp; with_reducible rfl) | refine wpX_w undef (Or.inr ⟨by rfl, rfl⟩) ?_ | refine wpX_l undef (HB2.out) (Or.inr ⟨by rfl, rfl⟩) ?_); go_frame)
 refine wpX_nil ?_
 simp only [OnlyN_normal]
 refine hKK _ _ ?_
 clear hKK KK
 go_wp2_with fail
 go_end0
 have hz0 := HB0.out.size
 refine ⟨rfl, ⟨σ1, _, (HT1.out.below HB2.out).noop HP.out, fun k hk ho ho2 => ⟨HO1.out k (by simp; omega) ho, by rw [upd_id _ _ _ HP.out]; exact ho2⟩⟩, ((KB.of_below HB0.out).trans HP1.out.2.1).trans (KB.of_below HB2.out), (((Fr.of_new HB0.out).trans ((Fr.refl _ W).drew.trans HP1.out.2.2.1)).trans (Fr.of_new HB2.out))⟩
set_option maxRecDepth 100000 in
set_option maxHeartbeats 4000000 in
theorem tabput_low (T : TB) (l : List Sym) (m : List Page) (t : ByteArray) (n : Int) (hT : Tabs D w S σ S2 σ2) (hB : TabBlk w T) (hb : S T.bs = some l) (hb2 : S2 T.bp = some m) (ht : t.size = 1) (hc : ¬ nextB m (t[0]'(by omega)) ≤ n) (hl : (l.length : Int) ≤ 1000000) (hl2 : (m.length : Int) ≤ 1000000) :
 Calls Tryz.prog 80 #[.pointer (some ⟨T.b, 0, none⟩), .agg #[.int .i64 1, .string t, .int .i64 n]] w fun e w' => e = .returned (.tuple #[]) ∧ TabPut D w S σ S2 σ2 T (put cmpSym l ⟨1, t, n⟩) m w' := by
 have hA0 := (hT.syms.at_ T.bs l hb).row_lt
 have hbs := (hT.syms.at_ T.bs l hb).lt
 have HT := Lib.hid hT
 have HB := Lib.hid hB
 have HS := Lib.hid hb
 have HP := Lib.hid hb2
 have HA0 := Lib.hid hA0
 have h0 : 0 < t.size := by omega
 have t1 : decide (nextB m t[0] ≤ n) = false := by simpa using hc
 clear hc
 clear hT hB hb hb2 hA0
 go_enter Tryz.func80, Tryz.ntmps80
 go_wp2_with fail
 obtain ⟨W, hW⟩ : ∃ W, W = w.alloc (Obj.cells #[Value.int IntKind.i64 1, Value.string t, Value.int IntKind.i64 n] 23) := ⟨_, rfl⟩
 have hX : Blk W w.heap.size 23 #[.int .i64 1, .string t, .int .i64 n] := by rw [hW]; exact Blk.new _ _ _
 have hB0 : Below w.heap.size w W := by rw [hW]; exact (Below.refl _ _).alloc (Nat.le_refl _) _
 rw [← hW]
 clear hW
 have y0 := (hX.cell 0).trans rfl
 have y1 := (hX.cell 1).trans rfl
 have y2 := (hX.cell 2).trans rfl
 have hxl := hX.lt
 have hT0 := HT.out.below hB0
 have hBk := HB.out.below hB0
 have s1 := (hBk.1.cell 1).trans rfl
 have hbl := hBk.1.lt
 have HX := Lib.hid hX
 have HB0 := Lib.hid hB0
 have HT0 := Lib.hid hT0
 have HBk := Lib.hid hBk
 clear hX hB0 hT0 hBk
 refine wp_region_E (fun w9 => Below W.heap.size W w9) [(0, 0), (1, 0), (2, 0), (3, 1), (4, 1), (5, 2)] (by kernel_rfl) (by kernel_rfl) (fun KK hKK => ?_)
 simp only [beside, List.filterMap_cons, List.filterMap_nil, List.getElem?_toArray, List.getElem?_cons_zero, List.getElem?_cons_succ, Option.map_some]
 repeat ((first | (refine wpX_w ?_ (Or.inl ⟨by rfl, fun w9 => ?_⟩) ?_; rotate_left 1; go_simp; with_reducible rfl) | (refine wpX_l ?_ (((Below.refl _ _).drew)) (Or.inl ⟨by rfl, fun w9 hw9 => ?_⟩) ?_; rotate_left 1; obtain ⟨hc9, hf9⟩ := bcell hw9; go_simp; with_reducible rfl) | refine wpX_w undef (Or.inr ⟨by rfl, rfl⟩) ?_ | refine wpX_l undef (((Below.refl _ _).drew)) (Or.inr ⟨by rfl, rfl⟩) ?_); go_frame)
 refine wpX_e (by kernel_rfl) (fun K9 hK9 => ?_)
 go_simp
 refine (tPut_Sym ⟨1, t, n⟩ (HT0.out.below ((Below.refl _ _).drew)) HS.out (by omega)).mono ?_
 rintro e w1 ⟨rfl, hch⟩
 have HP1 := Lib.hid hch
 obtain ⟨_, _, _, hM1⟩ := hch
 have hng : ¬ SetMod T.bs (σ T.bs).sn (σ T.bs).A w.heap.size := (by
  rintro (h | ⟨_, a, ha, h⟩)
  · omega
  · have := HA0.out a ha; omega)
 have hX1 := HX.out.drew.fr hM1 hng
 have z0 := (hX1.cell 0).trans rfl
 have z1 := (hX1.cell 1).trans rfl
 have z2 := (hX1.cell 2).trans rfl
 have hxl1 := hX1.lt
 have hBk1 : TabBlk w1 T := TabBlk.kb HBk.out HP1.out.2.1
 have r2 := (hBk1.1.cell 2).trans rfl
 have hbl1 := hBk1.1.lt
 obtain ⟨σ1, hT1, hO1⟩ := HP1.out.1
 have HT1 := Lib.hid hT1
 have HO1 := Lib.hid hO1
 have HX1 := Lib.hid hX1
 have HBk1 := Lib.hid hBk1
 clear hM1 hng hX1 hBk1 hT1 hO1 y0 y1 y2 s1
 refine hK9 _ _ ?_
 clear hK9 K9
 refine wpX_nil ?_
 simp only [OnlyN_normal]
 refine hKK _ _ ?_
 clear hKK KK
 go_wp2_with fail
 refine wp_region_E (fun w9 => Below w1.heap.size w1 w9) [(0, 0), (1, 1), (2, 0), (3, 0), (4, 0), (5, 1), (6, 0), (7, 0), (8, 1), (9, 0), (10, 2), (11, 0), (12, 0)] (by kernel_rfl) (by kernel_rfl) (fun KK hKK => ?_)
 simp only [beside, List.filterMap_cons, List.filterMap_nil, List.getElem?_toArray, List.getElem?_cons_zero, List.getElem?_cons_succ, Option.map_some]
 repeat ((first | (refine wpX_w ?_ (Or.inl ⟨by rfl, fun w9 => ?_⟩) ?_; rotate_left 1; go_simp; with_reducible rfl) | (refine wpX_l ?_ (((Below.refl _ _).drew)) (Or.inl ⟨by rfl, fun w9 hw9 => ?_⟩) ?_; rotate_left 1; obtain ⟨hc9, hf9⟩ := bcell hw9; go_simp; with_reducible rfl) | refine wpX_w undef (Or.inr ⟨by rfl, rfl⟩) ?_ | refine wpX_l undef (((Below.refl _ _).drew)) (Or.inr ⟨by rfl, rfl⟩) ?_); go_frame)
 refine wpX_es (fun K9 hK9 => ?_)
 go_simp
 refine (next_is T m t[0] (HT1.out.below ((Below.refl _ _).drew)) (HBk1.out.below ((Below.refl _ _).drew)) HP.out hl2).mono ?_
 rintro e w2 ⟨rfl, hb2⟩
 have HB2 := Lib.hid ((Below.refl w1.heap.size w1).drew.trans (hb2.mono (by simp)))
 clear hb2
 refine hK9 _ _ HB2.out ?_
 clear hK9 K9
 repeat ((first | (refine wpX_w ?_ (Or.inl ⟨by rfl, fun w9 => ?_⟩) ?_; rotate_left 1; go_simp; with_reducible rfl) | (refine wpX_l ?_ (HB2.out) (Or.inl ⟨by rfl, fun w9 hw9 => ?_⟩) ?_; rotate_left 1; obtain ⟨hc9, hf9⟩ := bcell hw9; go_simp; with_reducible rfl) | refine wpX_w undef (Or.inr ⟨by rfl, rfl⟩) ?_ | refine wpX_l undef (HB2.out) (Or.inr ⟨by rfl, rfl⟩) ?_); go_frame)
 refine wpX_nil ?_
 simp only [OnlyN_normal]
 refine hKK _ _ ?_
 clear hKK KK
 go_wp2_with fail
 go_end0
 have hz0 := HB0.out.size
 refine ⟨rfl, ⟨σ1, _, (HT1.out.below HB2.out).noop HP.out, fun k hk ho ho2 => ⟨HO1.out k (by simp; omega) ho, by rw [upd_id _ _ _ HP.out]; exact ho2⟩⟩, ((KB.of_below HB0.out).trans HP1.out.2.1).trans (KB.of_below HB2.out), (((Fr.of_new HB0.out).trans ((Fr.refl _ W).drew.trans HP1.out.2.2.1)).trans (Fr.of_new HB2.out))⟩
set_option maxRecDepth 100000 in
set_option maxHeartbeats 4000000 in
theorem tabput_high (T : TB) (l : List Sym) (m : List Page) (t : ByteArray) (n : Int) (hT : Tabs D w S σ S2 σ2) (hB : TabBlk w T) (hb : S T.bs = some l) (hb2 : S2 T.bp = some m) (ht : t.size = 1) (hc : nextB m (t[0]'(by omega)) ≤ n) (hn1 : 1 ≤ n) (hn2 : n ≤ 1048576) (hl : (l.length : Int) ≤ 1000000) (hl2 : (m.length : Int) ≤ 1000000) :
 Calls Tryz.prog 80 #[.pointer (some ⟨T.b, 0, none⟩), .agg #[.int .i64 1, .string t, .int .i64 n]] w fun e w' => e = .returned (.tuple #[]) ∧ TabPut D w S σ S2 σ2 T (put cmpSym l ⟨1, t, n⟩) (mput m ⟨t[0]'(by omega), n + 1⟩) w' := by
 have hA0 := (hT.syms.at_ T.bs l hb).row_lt
 have hbs := (hT.syms.at_ T.bs l hb).lt
 have HT := Lib.hid hT
 have HB := Lib.hid hB
 have HS := Lib.hid hb
 have HP := Lib.hid hb2
 have HA0 := Lib.hid hA0
 have h0 : 0 < t.size := by omega
 have t1 : decide (nextB m t[0] ≤ n) = true := by simpa using hc
 have v1 : IntKind.i64.wrap (n + 1) = n + 1 := IntWalk.i64_in _ (by omega)
 clear hc
 clear hT hB hb hb2 hA0
 go_enter Tryz.func80, Tryz.ntmps80
 go_wp2_with fail
 obtain ⟨W, hW⟩ : ∃ W, W = w.alloc (Obj.cells #[Value.int IntKind.i64 1, Value.string t, Value.int IntKind.i64 n] 23) := ⟨_, rfl⟩
 have hX : Blk W w.heap.size 23 #[.int .i64 1, .string t, .int .i64 n] := by rw [hW]; exact Blk.new _ _ _
 have hB0 : Below w.heap.size w W := by rw [hW]; exact (Below.refl _ _).alloc (Nat.le_refl _) _
 rw [← hW]
 clear hW
 have y0 := (hX.cell 0).trans rfl
 have y1 := (hX.cell 1).trans rfl
 have y2 := (hX.cell 2).trans rfl
 have hxl := hX.lt
 have hT0 := HT.out.below hB0
 have hBk := HB.out.below hB0
 have s1 := (hBk.1.cell 1).trans rfl
 have hbl := hBk.1.lt
 have HX := Lib.hid hX
 have HB0 := Lib.hid hB0
 have HT0 := Lib.hid hT0
 have HBk := Lib.hid hBk
 clear hX hB0 hT0 hBk
 refine wp_region_E (fun w9 => Below W.heap.size W w9) [(0, 0), (1, 0), (2, 0), (3, 1), (4, 1), (5, 2)] (by kernel_rfl) (by kernel_rfl) (fun KK hKK => ?_)
 simp only [beside, List.filterMap_cons, List.filterMap_nil, List.getElem?_toArray, List.getElem?_cons_zero, List.getElem?_cons_succ, Option.map_some]
 repeat ((first | (refine wpX_w ?_ (Or.inl ⟨by rfl, fun w9 => ?_⟩) ?_; rotate_left 1; go_simp; with_reducible rfl) | (refine wpX_l ?_ (((Below.refl _ _).drew)) (Or.inl ⟨by rfl, fun w9 hw9 => ?_⟩) ?_; rotate_left 1; obtain ⟨hc9, hf9⟩ := bcell hw9; go_simp; with_reducible rfl) | refine wpX_w undef (Or.inr ⟨by rfl, rfl⟩) ?_ | refine wpX_l undef (((Below.refl _ _).drew)) (Or.inr ⟨by rfl, rfl⟩) ?_); go_frame)
 refine wpX_e (by kernel_rfl) (fun K9 hK9 => ?_)
 go_simp
 refine (tPut_Sym ⟨1, t, n⟩ (HT0.out.below ((Below.refl _ _).drew)) HS.out (by omega)).mono ?_
 rintro e w1 ⟨rfl, hch⟩
 have HP1 := Lib.hid hch
 obtain ⟨_, _, _, hM1⟩ := hch
 have hng : ¬ SetMod T.bs (σ T.bs).sn (σ T.bs).A w.heap.size := (by
  rintro (h | ⟨_, a, ha, h⟩)
  · omega
  · have := HA0.out a ha; omega)
 have hX1 := HX.out.drew.fr hM1 hng
 have z0 := (hX1.cell 0).trans rfl
 have z1 := (hX1.cell 1).trans rfl
 have z2 := (hX1.cell 2).trans rfl
 have hxl1 := hX1.lt
 have hBk1 : TabBlk w1 T := TabBlk.kb HBk.out HP1.out.2.1
 have r2 := (hBk1.1.cell 2).trans rfl
 have hbl1 := hBk1.1.lt
 obtain ⟨σ1, hT1, hO1⟩ := HP1.out.1
 have HT1 := Lib.hid hT1
 have HO1 := Lib.hid hO1
 have HX1 := Lib.hid hX1
 have HBk1 := Lib.hid hBk1
 clear hM1 hng hX1 hBk1 hT1 hO1 y0 y1 y2 s1
 refine hK9 _ _ ?_
 clear hK9 K9
 refine wpX_nil ?_
 simp only [OnlyN_normal]
 refine hKK _ _ ?_
 clear hKK KK
 go_wp2_with fail
 refine wp_region_E (fun w9 => Below w1.heap.size w1 w9) [(0, 0), (1, 1), (2, 0), (3, 0), (4, 0), (5, 1), (6, 0), (7, 0), (8, 1), (9, 0), (10, 2), (11, 0), (12, 0)] (by kernel_rfl) (by kernel_rfl) (fun KK hKK => ?_)
 simp only [beside, List.filterMap_cons, List.filterMap_nil, List.getElem?_toArray, List.getElem?_cons_zero, List.getElem?_cons_succ, Option.map_some]
 repeat ((first | (refine wpX_w ?_ (Or.inl ⟨by rfl, fun w9 => ?_⟩) ?_; rotate_left 1; go_simp; with_reducible rfl) | (refine wpX_l ?_ (((Below.refl _ _).drew)) (Or.inl ⟨by rfl, fun w9 hw9 => ?_⟩) ?_; rotate_left 1; obtain ⟨hc9, hf9⟩ := bcell hw9; go_simp; with_reducible rfl) | refine wpX_w undef (Or.inr ⟨by rfl, rfl⟩) ?_ | refine wpX_l undef (((Below.refl _ _).drew)) (Or.inr ⟨by rfl, rfl⟩) ?_); go_frame)
 refine wpX_es (fun K9 hK9 => ?_)
 go_simp
 refine (next_is T m t[0] (HT1.out.below ((Below.refl _ _).drew)) (HBk1.out.below ((Below.refl _ _).drew)) HP.out hl2).mono ?_
 rintro e w2 ⟨rfl, hb2⟩
 have HB2 := Lib.hid ((Below.refl w1.heap.size w1).drew.trans (hb2.mono (by simp)))
 clear hb2
 refine hK9 _ _ HB2.out ?_
 clear hK9 K9
 repeat ((first | (refine wpX_w ?_ (Or.inl ⟨by rfl, fun w9 => ?_⟩) ?_; rotate_left 1; go_simp; with_reducible rfl) | (refine wpX_l ?_ (HB2.out) (Or.inl ⟨by rfl, fun w9 hw9 => ?_⟩) ?_; rotate_left 1; obtain ⟨hc9, hf9⟩ := bcell hw9; go_simp; with_reducible rfl) | refine wpX_w undef (Or.inr ⟨by rfl, rfl⟩) ?_ | refine wpX_l undef (HB2.out) (Or.inr ⟨by rfl, rfl⟩) ?_); go_frame)
 refine wpX_nil ?_
 simp only [OnlyN_normal]
 refine hKK _ _ ?_
 clear hKK KK
 go_wp2_with fail
 have hX2 := HX1.out.new_ HB2.out
 have hT2 := HT1.out.below HB2.out
 have hBk2 := HBk1.out.below HB2.out
 have x0 := (hX2.cell 0).trans rfl
 have x1 := (hX2.cell 1).trans rfl
 have x2 := (hX2.cell 2).trans rfl
 have hxl2 := hX2.lt
 have q2 := (hBk2.1.cell 2).trans rfl
 have hbl2 := hBk2.1.lt
 have HT2 := Lib.hid hT2
 have HBk2 := Lib.hid hBk2
 clear hX2 hT2 hBk2 z0 z1 z2 r2
 refine wp_region_E (fun w9 => Below w2.heap.size w2 w9) [(0, 0), (1, 0), (2, 0), (3, 1), (4, 0), (5, 1), (6, 0), (7, 0), (8, 1), (9, 0), (10, 2)] (by kernel_rfl) (by kernel_rfl) (fun KK hKK => ?_)
 simp only [beside, List.filterMap_cons, List.filterMap_nil, List.getElem?_toArray, List.getElem?_cons_zero, List.getElem?_cons_succ, Option.map_some]
 repeat ((first | (refine wpX_w ?_ (Or.inl ⟨by rfl, fun w9 => ?_⟩) ?_; rotate_left 1; go_simp; with_reducible rfl) | (refine wpX_l ?_ (((Below.refl _ _).drew)) (Or.inl ⟨by rfl, fun w9 hw9 => ?_⟩) ?_; rotate_left 1; obtain ⟨hc9, hf9⟩ := bcell hw9; go_simp; with_reducible rfl) | refine wpX_w undef (Or.inr ⟨by rfl, rfl⟩) ?_ | refine wpX_l undef (((Below.refl _ _).drew)) (Or.inr ⟨by rfl, rfl⟩) ?_); go_frame)
 refine wpX_e (by kernel_rfl) (fun K9 hK9 => ?_)
 go_simp
 refine (mapput T.bm T.bp m t[0] (n + 1) (HT2.out.below ((Below.refl _ _).drew)) HP.out (HBk2.out.below ((Below.refl _ _).drew)).2 hl2).mono ?_
 rintro e w3 ⟨⟨r3, rfl⟩, h3⟩
 have H3 := Lib.hid h3
 clear h3
 refine hK9 _ _ ?_
 clear hK9 K9
 refine wpX_nil ?_
 simp only [OnlyN_normal]
 refine hKK _ _ ?_
 clear hKK KK
 go_wp2_with fail
 go_end0
 obtain ⟨⟨σ3, h3, h6⟩, h4, h5⟩ := H3.out
 have hz0 := HB0.out.size
 have hz1 := HP1.out.2.2.1.size
 have hz2 := HB2.out.size
 refine ⟨rfl, ⟨σ1, σ3, h3, fun k hk ho ho2 => ⟨HO1.out k (by simp; omega) ho, h6 k (by simp at hz1 ⊢; omega) ho2⟩⟩, (((KB.of_below HB0.out).trans HP1.out.2.1).trans (KB.of_below HB2.out)).trans h4, (((Fr.of_new HB0.out).trans ((Fr.refl _ W).drew.trans HP1.out.2.2.1)).trans (Fr.of_new HB2.out)).trans ((Fr.refl _ w2).drew.trans h5)⟩
theorem tabput (T : TB) (l : List Sym) (m : List Page) (s : Sym) (hT : Tabs D w S σ S2 σ2) (hB : TabBlk w T) (hb : S T.bs = some l) (hb2 : S2 T.bp = some m) (hv : validB s = true) (hl : (l.length : Int) ≤ 1000000) (hl2 : (m.length : Int) ≤ 1000000) :
 Calls Tryz.prog 80 #[.pointer (some ⟨T.b, 0, none⟩), .agg #[.int .i64 s.kind, .string s.text, .int .i64 s.n]] w fun e w' => e = .returned (.tuple #[]) ∧ TabPut D w S σ S2 σ2 T (put cmpSym l s) (tputM m s) w' := by
 obtain ⟨k, t, n⟩ := s
 by_cases hk : k = 1
 · subst hk
   obtain ⟨h1, _, h3, h4⟩ := validB_id hv
   have hi : idc t = t[0] := idc_eq (by omega)
   by_cases hc : nextB m t[0] ≤ n
   · have e : tputM m ⟨1, t, n⟩ = mput m ⟨t[0], n + 1⟩ := by unfold tputM; dsimp only; rw [hi, if_pos ⟨rfl, hc⟩]
     rw [e]
     exact tabput_high T l m t n hT hB hb hb2 h1 hc h3 h4 hl hl2
   · have e : tputM m ⟨1, t, n⟩ = m := by unfold tputM; dsimp only; rw [hi, if_neg (fun h => hc h.2)]
     rw [e]
     exact tabput_low T l m t n hT hB hb hb2 h1 hc hl hl2
 · have e : tputM m ⟨k, t, n⟩ = m := by unfold tputM; dsimp only; rw [if_neg (fun h => hk h.1)]
   rw [e]
   exact tabput_other T l m k t n hT hB hb hb2 hk hl hl2
end
end Go.Proofs.YtpndmjabjjbefaaGreat
namespace Go.Proofs.YtpndmjabjjbefaaGreat
open Go.RowKit
def letB (c : UInt8) : ByteArray := ⟨#[c]⟩
theorem letB_size (c : UInt8) : (letB c).size = 1 := rfl
theorem convL (c : UInt8) (W : World) (g : Nat) (hc : W.cell? ⟨g, 0, none⟩ = some (.int .u8 (c.toNat : Int))) : (convert 92 9 (.slice (some ⟨g, 0, none⟩) 1 1)).run Tryz.prog W = .ok (.string (letB c)) W :=
 Lib.run_convert_whole (P := Tryz.prog) W 92 5 9 Tryz.underlying92 Tryz.underlying5 Tryz.underlying9 g 0 (letB c) (fun i hi => by
  have : i = 0 := by have := letB_size c; omega
  subst this
  rw [Nat.add_zero, hc]
  rfl) 1
theorem valid_let {c : UInt8} {n : Int} (h : greatB c = true) (h1 : 1 ≤ n) (h2 : n ≤ 1048576) : validB ⟨1, letB c, n⟩ = true := by
 have e : headB greatB (letB c) = true := by rw [headB_eq (by rw [letB_size]; omega)]; exact h
 simp [validB, letB_size, e, h1, h2]
section
variable {D : Nat → Prop} {w : World} {S : Nat → Option (List Sym)} {σ : Nat → St} {S2 : Nat → Option (List Page)} {σ2 : Nat → St}
set_option maxHeartbeats 1000000 in
theorem fresh_arg (T : TB) (c : UInt8) (hg : greatB c = false) : Calls Tryz.prog 55 #[.pointer (some ⟨T.b, 0, none⟩), .int .u8 (c.toNat : Int)] w fun e w' => e = .returned (.tuple #[.agg #[.int .i64 0, .string ⟨#[]⟩, .int .i64 0], .int .i64 1]) ∧ Below w.heap.size w w' := by
 go_enter Tryz.func55, Tryz.ntmps55
 go_wp2_with (go_at_call 77; refine (great_is _ _).mono ?_; rintro e w' ⟨rfl, rfl⟩)
 exact bodyPost_ret (v := .tuple #[.agg #[.int .i64 0, .string ⟨#[]⟩, .int .i64 0], .int .i64 1]) (by simp [results, Tryz.results55, go_sem]) rfl ⟨rfl, by (repeat (first | exact Below.refl _ _ | refine Below.drew ?_ | refine Below.al ?_ _ | refine Below.sc ?_ _))⟩
set_option maxRecDepth 100000 in
set_option maxHeartbeats 4000000 in
theorem fresh_full (T : TB) (l : List Sym) (m : List Page) (c : UInt8) (hT : Tabs D w S σ S2 σ2) (hB : TabBlk w T) (hb : S T.bs = some l) (hb2 : S2 T.bp = some m) (hg : greatB c = true) (hf : T.room ≤ l.length) (hl2 : (m.length : Int) ≤ 1000000) :
 Calls Tryz.prog 55 #[.pointer (some ⟨T.b, 0, none⟩), .int .u8 (c.toNat : Int)] w fun e w' => e = .returned (.tuple #[.agg #[.int .i64 0, .string ⟨#[]⟩, .int .i64 0], .int .i64 20]) ∧ Below w.heap.size w w' := by
 have t1 : decide (T.room ≤ (l.length : Int)) = true := by simpa using hf
 clear hf
 have HT := Lib.hid hT
 have HB := Lib.hid hB
 have HS := Lib.hid hb
 have HP := Lib.hid hb2
 clear hT hB hb hb2
 go_enter Tryz.func55, Tryz.ntmps55
 go_wp2_with (go_at_call 77; refine (great_is _ _).mono ?_; rintro e w' ⟨rfl, rfl⟩)
 refine (next_is T m c (HT.out.below ((Below.refl _ _).alloc (Nat.le_refl _) _)) (HB.out.below ((Below.refl _ _).alloc (Nat.le_refl _) _)) HP.out hl2).mono ?_
 rintro e w1 ⟨rfl, hb1⟩
 have hZ : Blk w1 w.heap.size 23 #[.int .i64 0, .string ⟨#[]⟩, .int .i64 0] := (Blk.new _ _ _).new_ hb1
 have hB1 : Below w.heap.size w w1 := ((Below.refl w.heap.size w).alloc (Nat.le_refl _) _).trans (hb1.mono (by simp))
 have hT1 := HT.out.below hB1
 have hBk1 := HB.out.below hB1
 have s0 := (hBk1.1.cell 0).trans rfl
 have s1 := (hBk1.1.cell 1).trans rfl
 have hbl := hBk1.1.lt
 have hzl := hZ.lt
 have HZ := Lib.hid hZ
 have HB1 := Lib.hid hB1
 have HT1 := Lib.hid hT1
 have HBk1 := Lib.hid hBk1
 clear hb1 hZ hB1 hT1 hBk1
 go_wp2_with fail
 refine wp_region_E (fun w9 => Below w1.heap.size w1 w9) [(0, 0), (1, 0), (2, 0), (3, 1), (5, 0), (6, 0), (7, 0), (8, 1), (4, 2), (9, 0), (10, 0), (11, 0), (12, 0), (13, 0)] (by kernel_rfl) (by kernel_rfl) (fun KK hKK => ?_)
 simp only [beside, List.filterMap_cons, List.filterMap_nil, List.getElem?_toArray, List.getElem?_cons_zero, List.getElem?_cons_succ, Option.map_some]
 repeat ((first | (refine wpX_w ?_ (Or.inl ⟨by rfl, fun w9 => ?_⟩) ?_; rotate_left 1; go_simp; with_reducible rfl) | (refine wpX_l ?_ (((Below.refl _ _).drew)) (Or.inl ⟨by rfl, fun w9 hw9 => ?_⟩) ?_; rotate_left 1; obtain ⟨hc9, hf9⟩ := bcell hw9; go_simp; with_reducible rfl) | refine wpX_w undef (Or.inr ⟨by rfl, rfl⟩) ?_ | refine wpX_l undef (((Below.refl _ _).drew)) (Or.inr ⟨by rfl, rfl⟩) ?_); go_frame)
 refine wpX_es (fun K9 hK9 => ?_)
 go_simp
 refine (len_Sym T.bs _ _ _ l _ ((HT1.out.below ((Below.refl _ _).drew)).syms.at_ T.bs l HS.out)).mono ?_
 rintro e w2 ⟨rfl, rfl⟩
 refine hK9 _ _ ((Below.refl _ _).drew) ?_
 clear hK9 K9
 repeat ((first | (refine wpX_w ?_ (Or.inl ⟨by rfl, fun w9 => ?_⟩) ?_; rotate_left 1; go_simp; with_reducible rfl) | (refine wpX_l ?_ (((Below.refl _ _).drew)) (Or.inl ⟨by rfl, fun w9 hw9 => ?_⟩) ?_; rotate_left 1; obtain ⟨hc9, hf9⟩ := bcell hw9; go_simp; with_reducible rfl) | refine wpX_w undef (Or.inr ⟨by rfl, rfl⟩) ?_ | refine wpX_l undef (((Below.refl _ _).drew)) (Or.inr ⟨by rfl, rfl⟩) ?_); go_frame)
 refine wpX_nil ?_
 simp only [OnlyN_normal]
 refine hKK _ _ ?_
 clear hKK KK
 have z0 : w1.cell? ⟨w.heap.size, 0, none⟩ = some (.int .i64 0) := (HZ.out.cell 0).trans rfl
 have z1 : w1.cell? ⟨w.heap.size, 1, none⟩ = some (.string ⟨#[]⟩) := (HZ.out.cell 1).trans rfl
 have z2 : w1.cell? ⟨w.heap.size, 2, none⟩ = some (.int .i64 0) := (HZ.out.cell 2).trans rfl
 have f0 := HZ.out.frozen 0
 have f1 := HZ.out.frozen 1
 have f2 := HZ.out.frozen 2
 go_wp2_with fail
 exact bodyPost_ret (v := .tuple #[.agg #[.int .i64 0, .string ⟨#[]⟩, .int .i64 0], .int .i64 20]) (by simp [results, Tryz.results55, go_sem, z0, z1, z2]) rfl ⟨rfl, by (repeat (first | exact Below.refl _ _ | exact HB1.out | refine Below.drew ?_ | refine Below.al ?_ _ | refine Below.sc ?_ _))⟩
set_option maxRecDepth 100000 in
set_option maxHeartbeats 4000000 in
theorem fresh_far (T : TB) (l : List Sym) (m : List Page) (c : UInt8) (hT : Tabs D w S σ S2 σ2) (hB : TabBlk w T) (hb : S T.bs = some l) (hb2 : S2 T.bp = some m) (hg : greatB c = true) (hf : ¬ T.room ≤ l.length) (hn : 1048576 < nextB m c) (hl2 : (m.length : Int) ≤ 1000000) :
 Calls Tryz.prog 55 #[.pointer (some ⟨T.b, 0, none⟩), .int .u8 (c.toNat : Int)] w fun e w' => e = .returned (.tuple #[.agg #[.int .i64 0, .string ⟨#[]⟩, .int .i64 0], .int .i64 20]) ∧ Below w.heap.size w w' := by
 have t1 : decide (T.room ≤ (l.length : Int)) = false := by simpa using hf
 have t2 : decide ((1048576 : Int) < nextB m c) = true := by simpa using hn
 clear hf
 have HT := Lib.hid hT
 have HB := Lib.hid hB
 have HS := Lib.hid hb
 have HP := Lib.hid hb2
 clear hT hB hb hb2
 go_enter Tryz.func55, Tryz.ntmps55
 go_wp2_with (go_at_call 77; refine (great_is _ _).mono ?_; rintro e w' ⟨rfl, rfl⟩)
 refine (next_is T m c (HT.out.below ((Below.refl _ _).alloc (Nat.le_refl _) _)) (HB.out.below ((Below.refl _ _).alloc (Nat.le_refl _) _)) HP.out hl2).mono ?_
 rintro e w1 ⟨rfl, hb1⟩
 have hZ : Blk w1 w.heap.size 23 #[.int .i64 0, .string ⟨#[]⟩, .int .i64 0] := (Blk.new _ _ _).new_ hb1
 have hB1 : Below w.heap.size w w1 := ((Below.refl w.heap.size w).alloc (Nat.le_refl _) _).trans (hb1.mono (by simp))
 have hT1 := HT.out.below hB1
 have hBk1 := HB.out.below hB1
 have s0 := (hBk1.1.cell 0).trans rfl
 have s1 := (hBk1.1.cell 1).trans rfl
 have hbl := hBk1.1.lt
 have hzl := hZ.lt
 have HZ := Lib.hid hZ
 have HB1 := Lib.hid hB1
 have HT1 := Lib.hid hT1
 have HBk1 := Lib.hid hBk1
 clear hb1 hZ hB1 hT1 hBk1
 go_wp2_with fail
 refine wp_region_E (fun w9 => Below w1.heap.size w1 w9) [(0, 0), (1, 0), (2, 0), (3, 1), (5, 0), (6, 0), (7, 0), (8, 1), (4, 2), (9, 0), (10, 0), (11, 0), (12, 0), (13, 0)] (by kernel_rfl) (by kernel_rfl) (fun KK hKK => ?_)
 simp only [beside, List.filterMap_cons, List.filterMap_nil, List.getElem?_toArray, List.getElem?_cons_zero, List.getElem?_cons_succ, Option.map_some]
 repeat ((first | (refine wpX_w ?_ (Or.inl ⟨by rfl, fun w9 => ?_⟩) ?_; rotate_left 1; go_simp; with_reducible rfl) | (refine wpX_l ?_ (((Below.refl _ _).drew)) (Or.inl ⟨by rfl, fun w9 hw9 => ?_⟩) ?_; rotate_left 1; obtain ⟨hc9, hf9⟩ := bcell hw9; go_simp; with_reducible rfl) | refine wpX_w undef (Or.inr ⟨by rfl, rfl⟩) ?_ | refine wpX_l undef (((Below.refl _ _).drew)) (Or.inr ⟨by rfl, rfl⟩) ?_); go_frame)
 refine wpX_es (fun K9 hK9 => ?_)
 go_simp
 refine (len_Sym T.bs _ _ _ l _ ((HT1.out.below ((Below.refl _ _).drew)).syms.at_ T.bs l HS.out)).mono ?_
 rintro e w2 ⟨rfl, rfl⟩
 refine hK9 _ _ ((Below.refl _ _).drew) ?_
 clear hK9 K9
 repeat ((first | (refine wpX_w ?_ (Or.inl ⟨by rfl, fun w9 => ?_⟩) ?_; rotate_left 1; go_simp; with_reducible rfl) | (refine wpX_l ?_ (((Below.refl _ _).drew)) (Or.inl ⟨by rfl, fun w9 hw9 => ?_⟩) ?_; rotate_left 1; obtain ⟨hc9, hf9⟩ := bcell hw9; go_simp; with_reducible rfl) | refine wpX_w undef (Or.inr ⟨by rfl, rfl⟩) ?_ | refine wpX_l undef (((Below.refl _ _).drew)) (Or.inr ⟨by rfl, rfl⟩) ?_); go_frame)
 refine wpX_nil ?_
 simp only [OnlyN_normal]
 refine hKK _ _ ?_
 clear hKK KK
 have z0 : w1.cell? ⟨w.heap.size, 0, none⟩ = some (.int .i64 0) := (HZ.out.cell 0).trans rfl
 have z1 : w1.cell? ⟨w.heap.size, 1, none⟩ = some (.string ⟨#[]⟩) := (HZ.out.cell 1).trans rfl
 have z2 : w1.cell? ⟨w.heap.size, 2, none⟩ = some (.int .i64 0) := (HZ.out.cell 2).trans rfl
 have f0 := HZ.out.frozen 0
 have f1 := HZ.out.frozen 1
 have f2 := HZ.out.frozen 2
 go_wp2_with fail
 exact bodyPost_ret (v := .tuple #[.agg #[.int .i64 0, .string ⟨#[]⟩, .int .i64 0], .int .i64 20]) (by simp [results, Tryz.results55, go_sem, z0, z1, z2]) rfl ⟨rfl, by (repeat (first | exact Below.refl _ _ | exact HB1.out | refine Below.drew ?_ | refine Below.al ?_ _ | refine Below.sc ?_ _))⟩
set_option maxRecDepth 100000 in
set_option maxHeartbeats 4000000 in
theorem fresh_new (T : TB) (l : List Sym) (m : List Page) (c : UInt8) (hT : Tabs D w S σ S2 σ2) (hB : TabBlk w T) (hb : S T.bs = some l) (hb2 : S2 T.bp = some m) (hg : greatB c = true) (hf : ¬ T.room ≤ l.length) (hn : nextB m c ≤ 1048576) (hn1 : 1 ≤ nextB m c) (hl : (l.length : Int) ≤ 1000000) (hl2 : (m.length : Int) ≤ 1000000) :
 Calls Tryz.prog 55 #[.pointer (some ⟨T.b, 0, none⟩), .int .u8 (c.toNat : Int)] w fun e w' => e = .returned (.tuple #[.agg #[.int .i64 1, .string (letB c), .int .i64 (nextB m c)], .int .i64 0]) ∧ TabPut D w S σ S2 σ2 T (put cmpSym l ⟨1, letB c, nextB m c⟩) (tputM m ⟨1, letB c, nextB m c⟩) w' := by
 have t1 : decide (T.room ≤ (l.length : Int)) = false := by simpa using hf
 have t2 : decide ((1048576 : Int) < nextB m c) = false := by simpa using hn
 have HV := Lib.hid (valid_let hg hn1 hn)
 clear hf
 have HT := Lib.hid hT
 have HB := Lib.hid hB
 have HS := Lib.hid hb
 have HP := Lib.hid hb2
 clear hT hB hb hb2
 go_enter Tryz.func55, Tryz.ntmps55
 go_wp2_with (go_at_call 77; refine (great_is _ _).mono ?_; rintro e w' ⟨rfl, rfl⟩)
 refine (next_is T m c (HT.out.below ((Below.refl _ _).alloc (Nat.le_refl _) _)) (HB.out.below ((Below.refl _ _).alloc (Nat.le_refl _) _)) HP.out hl2).mono ?_
 rintro e w1 ⟨rfl, hb1⟩
 have hZ : Blk w1 w.heap.size 23 #[.int .i64 0, .string ⟨#[]⟩, .int .i64 0] := (Blk.new _ _ _).new_ hb1
 have hB1 : Below w.heap.size w w1 := ((Below.refl w.heap.size w).alloc (Nat.le_refl _) _).trans (hb1.mono (by simp))
 have hT1 := HT.out.below hB1
 have hBk1 := HB.out.below hB1
 have s0 := (hBk1.1.cell 0).trans rfl
 have s1 := (hBk1.1.cell 1).trans rfl
 have hbl := hBk1.1.lt
 have hzl := hZ.lt
 have HZ := Lib.hid hZ
 have HB1 := Lib.hid hB1
 have HT1 := Lib.hid hT1
 have HBk1 := Lib.hid hBk1
 clear hb1 hZ hB1 hT1 hBk1
 go_wp2_with fail
 refine wp_region_E (fun w9 => Below w1.heap.size w1 w9) [(0, 0), (1, 0), (2, 0), (3, 1), (5, 0), (6, 0), (7, 0), (8, 1), (4, 2), (9, 0), (10, 0), (11, 0), (12, 0), (13, 0)] (by kernel_rfl) (by kernel_rfl) (fun KK hKK => ?_)
 simp only [beside, List.filterMap_cons, List.filterMap_nil, List.getElem?_toArray, List.getElem?_cons_zero, List.getElem?_cons_succ, Option.map_some]
 repeat ((first | (refine wpX_w ?_ (Or.inl ⟨by rfl, fun w9 => ?_⟩) ?_; rotate_left 1; go_simp; with_reducible rfl) | (refine wpX_l ?_ (((Below.refl _ _).drew)) (Or.inl ⟨by rfl, fun w9 hw9 => ?_⟩) ?_; rotate_left 1; obtain ⟨hc9, hf9⟩ := bcell hw9; go_simp; with_reducible rfl) | refine wpX_w undef (Or.inr ⟨by rfl, rfl⟩) ?_ | refine wpX_l undef (((Below.refl _ _).drew)) (Or.inr ⟨by rfl, rfl⟩) ?_); go_frame)
 refine wpX_es (fun K9 hK9 => ?_)
 go_simp
 refine (len_Sym T.bs _ _ _ l _ ((HT1.out.below ((Below.refl _ _).drew)).syms.at_ T.bs l HS.out)).mono ?_
 rintro e w2 ⟨rfl, rfl⟩
 refine hK9 _ _ ((Below.refl _ _).drew) ?_
 clear hK9 K9
 repeat ((first | (refine wpX_w ?_ (Or.inl ⟨by rfl, fun w9 => ?_⟩) ?_; rotate_left 1; go_simp; with_reducible rfl) | (refine wpX_l ?_ (((Below.refl _ _).drew)) (Or.inl ⟨by rfl, fun w9 hw9 => ?_⟩) ?_; rotate_left 1; obtain ⟨hc9, hf9⟩ := bcell hw9; go_simp; with_reducible rfl) | refine wpX_w undef (Or.inr ⟨by rfl, rfl⟩) ?_ | refine wpX_l undef (((Below.refl _ _).drew)) (Or.inr ⟨by rfl, rfl⟩) ?_); go_frame)
 refine wpX_nil ?_
 simp only [OnlyN_normal]
 refine hKK _ _ ?_
 clear hKK KK
 have hcv := convL c
 go_wp2_with fail
 clear hcv s0 s1
 obtain ⟨X, hX⟩ : ∃ X, X = ((w1.alloc (Obj.cells #[Value.int IntKind.u8 (c.toNat : Int)] 5)).alloc (Obj.cells #[Value.int IntKind.i64 1, Value.string (letB c), Value.int IntKind.i64 (nextB m c)] 23)).drew := ⟨_, rfl⟩
 have hBX : Below w1.heap.size w1 X := by rw [hX]; exact (((Below.refl _ _).alloc (Nat.le_refl _) _).alloc (by simp) _).drew
 have hC : Blk X (w1.heap.size + 1) 23 #[.int .i64 1, .string (letB c), .int .i64 (nextB m c)] := by
  rw [hX]
  have := (Blk.new (w1.alloc (Obj.cells #[Value.int IntKind.u8 (c.toNat : Int)] 5)) 23 #[.int .i64 1, .string (letB c), .int .i64 (nextB m c)]).drew
  simpa using this
 rw [← hX]
 clear hX
 have hBX2 : Below w.heap.size w X := HB1.out.trans (hBX.mono HB1.out.size)
 have hzx := hBX.size
 have hcl := hC.lt
 have hTP := HT.out.protect hBX2
 refine (tabput T l m ⟨1, letB c, nextB m c⟩ hTP (HBk1.out.below hBX) HS.out HP.out HV.out hl hl2).mono ?_
 rintro e w8 ⟨rfl, ⟨σ8, σ9, h8, hO8⟩, hK8, hF8⟩
 have hz1 := HB1.out.size
 have hZ8 : Blk w8 w.heap.size 23 #[.int .i64 0, .string ⟨#[]⟩, .int .i64 0] := (HZ.out.new_ hBX).fr hF8 (fun h => h (.inr ⟨Nat.le_refl _, by omega⟩))
 have hC8 : Blk w8 (w1.heap.size + 1) 23 #[.int .i64 1, .string (letB c), .int .i64 (nextB m c)] := hC.fr hF8 (fun h => h (.inr ⟨by omega, hcl⟩))
 have hx8 := hF8.size
 have hof := Off.new_ HT.out.syms (Nat.le_refl _)
 have hof2 := Off.new_ HT.out.pages (Nat.le_refl _)
 have hO9 := hO8 w.heap.size (by omega) hof hof2
 have H8 := Lib.hid (h8.weaken (D' := D) (fun k hk => .inl hk))
 have HO8 := Lib.hid hO8
 have HO9 := Lib.hid hO9
 have HK8 := Lib.hid ((KB.of_below hBX2).trans hK8)
 have HF8 := Lib.hid ((Fr.of_new (M := fun k => ¬ D k) hBX2).trans (hF8.mono (fun k _ hk hd => hk (.inl hd))))
 have HZ8 := Lib.hid hZ8
 have z0 : w8.cell? ⟨w.heap.size, 0, none⟩ = some (.int .i64 0) := (hZ8.cell 0).trans rfl
 have z1 : w8.cell? ⟨w.heap.size, 1, none⟩ = some (.string ⟨#[]⟩) := (hZ8.cell 1).trans rfl
 have z2 : w8.cell? ⟨w.heap.size, 2, none⟩ = some (.int .i64 0) := (hZ8.cell 2).trans rfl
 have f0 := hZ8.frozen 0
 have f1 := hZ8.frozen 1
 have f2 := hZ8.frozen 2
 have c0 : w8.cell? ⟨w1.heap.size + 1, 0, none⟩ = some (.int .i64 1) := (hC8.cell 0).trans rfl
 have c1 : w8.cell? ⟨w1.heap.size + 1, 1, none⟩ = some (.string (letB c)) := (hC8.cell 1).trans rfl
 have c2 : w8.cell? ⟨w1.heap.size + 1, 2, none⟩ = some (.int .i64 (nextB m c)) := (hC8.cell 2).trans rfl
 have hzl8 := hZ8.lt
 have hcl8 := hC8.lt
 clear h8 hO8 hO9 hK8 hF8 hZ8 hC8 hTP hC hBX2 hof hof2
 go_wp2_with fail
 refine bodyPost_ret (v := .tuple #[.agg #[.int .i64 1, .string (letB c), .int .i64 (nextB m c)], .int .i64 0]) (by simp [results, Tryz.results55, go_sem, z0, z1, z2]) rfl ⟨rfl, ⟨σ8, σ9, H8.out.off HO9.out.1 HO9.out.2 ((((Fr.refl (· = w.heap.size) w8).setCell (.inl rfl) _).setCell (.inl rfl) _).setCell (.inl rfl) _), fun k hk ho ho2 => HO8.out k (by omega) ho ho2⟩, ?_, ((HF8.out.setCell (.inr (Nat.le_refl _)) _).setCell (.inr (Nat.le_refl _)) _).setCell (.inr (Nat.le_refl _)) _⟩
 intro g t cs h1 h2 h3 h4 hB
 have hB8 := HK8.out g t cs h1 h2 h3 h4 hB
 have hne : g ≠ w.heap.size := hB8.ne_ HZ8.out h2
 exact ((hB8.far (p := ⟨w.heap.size, 0, none⟩) hne _).far (p := ⟨w.heap.size, 1, none⟩) hne _).far (p := ⟨w.heap.size, 2, none⟩) hne _
end
end Go.Proofs.YtpndmjabjjbefaaGreat
namespace Go.Proofs.YtpndmjabjjbefaaGreat
open Go.RowKit
set_option maxRecDepth 100000 in
set_option maxHeartbeats 4000000 in
theorem tabhas_is {D : Nat → Prop} {w : World} {S : Nat → Option (List Sym)} {σ : Nat → St} {S2 : Nat → Option (List Page)} {σ2 : Nat → St} (T : TB) (l : List Sym) (s : Sym) (hT : Tabs D w S σ S2 σ2) (hB : TabBlk w T) (hb : S T.bs = some l) (hl : (l.length : Int) ≤ 1000000) :
 Calls Tryz.prog 35 #[.pointer (some ⟨T.b, 0, none⟩), .agg #[.int .i64 s.kind, .string s.text, .int .i64 s.n]] w fun e w' => e = .returned (.bool (has cmpSym l s)) ∧ Below w.heap.size w w' := by
 have HT := Lib.hid hT
 have HB := Lib.hid hB
 have HS := Lib.hid hb
 clear hT hB hb
 go_enter Tryz.func35, Tryz.ntmps35
 go_wp2_with fail
 obtain ⟨W, hW⟩ : ∃ W, W = w.alloc (Obj.cells #[Value.int IntKind.i64 s.kind, Value.string s.text, Value.int IntKind.i64 s.n] 23) := ⟨_, rfl⟩
 have hX : Blk W w.heap.size 23 #[.int .i64 s.kind, .string s.text, .int .i64 s.n] := by rw [hW]; exact Blk.new _ _ _
 have hB0 : Below w.heap.size w W := by rw [hW]; exact (Below.refl _ _).alloc (Nat.le_refl _) _
 rw [← hW]
 clear hW
 have y0 := (hX.cell 0).trans rfl
 have y1 := (hX.cell 1).trans rfl
 have y2 := (hX.cell 2).trans rfl
 have hxl := hX.lt
 have hT0 := HT.out.below hB0
 have hBk := HB.out.below hB0
 have s1 := (hBk.1.cell 1).trans rfl
 have hbl := hBk.1.lt
 have HB0 := Lib.hid hB0
 have HT0 := Lib.hid hT0
 clear hX hB0 hT0 hBk
 refine wp_region_E (fun w9 => Below W.heap.size W w9) [(0, 0), (1, 0), (2, 0), (3, 1), (4, 1), (5, 2), (6, 0), (7, 0), (8, 0), (9, 0), (10, 0)] (by kernel_rfl) (by kernel_rfl) (fun KK hKK => ?_)
 simp only [beside, List.filterMap_cons, List.filterMap_nil, List.getElem?_toArray, List.getElem?_cons_zero, List.getElem?_cons_succ, Option.map_some]
 repeat ((first | (refine wpX_w ?_ (Or.inl ⟨by rfl, fun w9 => ?_⟩) ?_; rotate_left 1; go_simp; with_reducible rfl) | (refine wpX_l ?_ (((Below.refl _ _).drew)) (Or.inl ⟨by rfl, fun w9 hw9 => ?_⟩) ?_; rotate_left 1; obtain ⟨hc9, hf9⟩ := bcell hw9; go_simp; with_reducible rfl) | refine wpX_w undef (Or.inr ⟨by rfl, rfl⟩) ?_ | refine wpX_l undef (((Below.refl _ _).drew)) (Or.inr ⟨by rfl, rfl⟩) ?_); go_frame)
 refine wpX_e (by kernel_rfl) (fun K9 hK9 => ?_)
 go_simp
 have hT1 := HT0.out.below ((Below.refl W.heap.size W).drew)
 refine (place_Sym T.bs _ _ _ l s _ (hT1.syms.at_ T.bs l HS.out) (hT1.syms.srt T.bs l HS.out) (by omega)).mono ?_
 rintro e w1 ⟨rfl, hb1⟩
 have HB1 := Lib.hid ((Below.refl W.heap.size W).drew.trans (hb1.mono (by simp)))
 clear hb1 hT1
 refine hK9 _ _ ?_
 clear hK9 K9
 repeat ((first | (refine wpX_w ?_ (Or.inl ⟨by rfl, fun w9 => ?_⟩) ?_; rotate_left 1; go_simp; with_reducible rfl) | (refine wpX_l ?_ (((Below.refl _ _).drew)) (Or.inl ⟨by rfl, fun w9 hw9 => ?_⟩) ?_; rotate_left 1; obtain ⟨hc9, hf9⟩ := bcell hw9; go_simp; with_reducible rfl) | refine wpX_w undef (Or.inr ⟨by rfl, rfl⟩) ?_ | refine wpX_l undef (((Below.refl _ _).drew)) (Or.inr ⟨by rfl, rfl⟩) ?_); go_frame)
 refine wpX_nil ?_
 simp only [OnlyN_normal]
 refine hKK _ _ ?_
 clear hKK KK
 go_wp2_with fail
 go_ret
 exact ⟨rfl, HB0.out.trans (HB1.out.mono HB0.out.size)⟩
end Go.Proofs.YtpndmjabjjbefaaGreat
namespace Go.Proofs.YtpndmjabjjbefaaGreat
open Go.RowKit Go.Shelf
structure SeqP {α : Type} (gf : Nat) (lb : Array Value) (encs : α → Array Value) (xs : List α) (w : World) (start Kp : World → World → Prop) : Prop where
 enter : ∀ args w, (callFunc gf args).run Tryz.prog w = .ok (.enter gf args) w
 iter : ∀ W, Below w.heap.size w W → IterP Tryz.prog gf lb encs xs W start Kp
 trans : ∀ A B C, Kp A B → Kp B C → Kp A C
 keep : ∀ A B, Priv w.heap.size A B → Kp A B
 below : ∀ A B, Below w.heap.size A B → Kp A B
 mods : ∀ W W1, start W W1 → Fr (· < w.heap.size) W W1
theorem SeqP.new_ {α : Type} {gf : Nat} {lb : Array Value} {encs : α → Array Value} {xs : List α} {w w' : World} {start Kp : World → World → Prop} (h : SeqP gf lb encs xs w start Kp) (hb : Below w.heap.size w w') : SeqP gf lb encs xs w' start Kp :=
 ⟨h.enter, fun W hW => h.iter W (hb.trans (hW.mono hb.size)), h.trans, fun A B hp => h.keep A B (hp.mono hb.size), fun A B hp => h.below A B (hp.mono hb.size), fun W W1 hs => (h.mods W W1 hs).mono (fun _ _ hk => Nat.lt_of_lt_of_le hk hb.size)⟩
theorem Seq.p {α : Type} {gf : Nat} {lb : Array Value} {encs : α → Array Value} {xs : List α} {w : World} {start Kp : World → World → Prop} (h : Seq gf lb encs xs w start Kp) : SeqP gf lb encs xs w start Kp :=
 ⟨h.enter, fun W hW => (h.iter W hW).p, h.trans, h.keep, h.below, h.mods⟩
end Go.Proofs.YtpndmjabjjbefaaGreat
namespace Go.Proofs.YtpndmjabjjbefaaGreat
open Go.RowKit Go.Shelf
attribute [local go_sem] Oper.semAt_some
end Go.Proofs.YtpndmjabjjbefaaGreat
namespace Go.Proofs.YtpndmjabjjbefaaGreat
open Go.RowKit Go.Shelf
attribute [local go_sem] Oper.semAt_some
theorem SeenStart.from_ {b : Nat} {W W1 F : World} (h : SeenStart b W1 F) (hb : Below W.heap.size W W1) : SeenStart b W F := by
 obtain ⟨X, hX, rfl⟩ := h
 exact ⟨X, hb.trans (hX.mono hb.size), rfl⟩
theorem SeenStart.size {b : Nat} {W F : World} (h : SeenStart b W F) : W.heap.size ≤ F.heap.size := by
 obtain ⟨X, hX, rfl⟩ := h
 simpa using hX.size
end Go.Proofs.YtpndmjabjjbefaaGreat
namespace Go.Proofs.YtpndmjabjjbefaaGreat
open Go.RowKit
def maxL (l : List Sym) (c : UInt8) : Int := l.foldl (fun n s => if s.kind = 1 ∧ s.text = letB c then max n s.n else n) 0
def nextL (l : List Sym) (c : UInt8) : Int := if greatB c = true then maxL l c + 1 else 0
theorem maxL_snoc (l : List Sym) (s : Sym) (c : UInt8) : maxL (l ++ [s]) c = if s.kind = 1 ∧ s.text = letB c then max (maxL l c) s.n else maxL l c := by simp [maxL]
def From (A : Option Addr) (n : Nat) (A' : Option Addr) : Prop := AIn A' (fun j => (∃ a, A = some a ∧ a.block = j) ∨ n ≤ j)
theorem From.refl (A : Option Addr) (n : Nat) : From A n A := fun a ha => .inl ⟨a, ha, rfl⟩
theorem From.step {A A' A2 : Option Addr} {n n' m : Nat} (h : From A n A') (hn : n ≤ n') (h2 : A2 = A' ∨ AIn A2 (fun j => n' ≤ j ∧ j < m)) : From A n A2 := by
 rcases h2 with rfl | h2
 · exact h
 · exact h2.mono (fun j hj => .inr (by omega))
theorem From.in_ {A A' : Option Addr} {n : Nat} {S : Nat → Prop} (h : From A n A') (hA : AIn A S) (hn : ∀ j, n ≤ j → S j) : AIn A' S := h.mono (fun j hj => by
 rcases hj with ⟨a, ha, rfl⟩ | hj
 · exact hA a ha
 · exact hn j hj)
end Go.Proofs.YtpndmjabjjbefaaGreat
namespace Go.Proofs.YtpndmjabjjbefaaGreat
open Go.RowKit
attribute [local go_sem] eql_sym neq_sym
end Go.Proofs.YtpndmjabjjbefaaGreat
namespace Go.Proofs.YtpndmjabjjbefaaGreat
open Go.RowKit
attribute [local go_sem] eql_sym neq_sym
end Go.Proofs.YtpndmjabjjbefaaGreat
namespace Go.Proofs.YtpndmjabjjbefaaGreat
open Go.RowKit
theorem rtput_bad_at {L : List Sym} {i : Nat} (hi : i < L.length) (h : validB L[i] = false) : L.all validB = false := by
 rw [List.all_eq_false]
 exact ⟨L[i], List.getElem_mem hi, by rw [h]; simp⟩
end Go.Proofs.YtpndmjabjjbefaaGreat
namespace Go.Proofs.YtpndmjabjjbefaaGreat
open Go.RowKit
theorem srt_ext {α : Type} {cmp : α → α → Int} (t : TC cmp) (h0 : ∀ x, ¬ cmp x x < 0) : ∀ {l m : List α}, Srt cmp l → Srt cmp m → (∀ x, x ∈ l ↔ x ∈ m) → l = m
 | [], [], _, _, _ => rfl
 | [], b :: m, _, _, h => absurd ((h b).2 (by simp)) (by simp)
 | a :: l, [], _, _, h => absurd ((h a).1 (by simp)) (by simp)
 | a :: l, b :: m, hl, hm, h => by
   unfold Srt at hl hm
   rw [List.pairwise_cons] at hl hm
   have e : a = b := by
    rcases List.mem_cons.1 ((h a).1 (by simp)) with e | e
    · exact e
    · rcases List.mem_cons.1 ((h b).2 (by simp)) with e2 | e2
      · exact e2.symm
      · have h1 := hm.1 a e
        have h2 := hl.1 b e2
        have h3 := (t.symm _ _).1 h1
        omega
   subst e
   rw [srt_ext t h0 hl.2 hm.2 (fun x => ?_)]
   constructor
   · intro hx
     rcases List.mem_cons.1 ((h x).1 (by simp [hx])) with e | e
     · subst e; exact absurd (hl.1 x hx) (h0 x)
     · exact e
   · intro hx
     rcases List.mem_cons.1 ((h x).2 (by simp [hx])) with e | e
     · subst e; exact absurd (hm.1 x hx) (h0 x)
     · exact e
theorem sym_ext {l m : List Sym} (hl : Srt cmpSym l) (hm : Srt cmpSym m) (h : ∀ x, x ∈ l ↔ x ∈ m) : l = m :=
 srt_ext tc_sym (fun x => by have := (cmpSym_eq (a := x) (b := x)).2 rfl; omega) hl hm h
theorem mem_put_iff {l : List Sym} {x y : Sym} : y ∈ put cmpSym l x ↔ y ∈ l ∨ y = x := by
 unfold put
 split
 · rename_i h
   obtain ⟨z, hz, e⟩ := has_iff.1 h
   have := cmpSym_eq.1 e
   subst this
   constructor
   · exact .inl
   · rintro (h | rfl)
     · exact h
     · exact hz
 · rename_i h
   have hn := has_false.1 (by simpa using h)
   simp only [List.mem_append, List.mem_cons, mem_below, mem_above]
   constructor
   · rintro (h | h | h)
     · exact .inl h.1
     · exact .inr h
     · exact .inl h.1
   · rintro (h | h)
     · have := hn y h
       rcases Int.lt_trichotomy (cmpSym y x) 0 with h1 | h1 | h1
       · exact .inl ⟨h, h1⟩
       · exact absurd h1 this
       · exact .inr (.inr ⟨h, h1⟩)
     · exact .inr (.inl h)
theorem mem_puts_iff : ∀ (xs : List Sym) {l : List Sym} {y : Sym}, y ∈ puts cmpSym l xs ↔ y ∈ l ∨ y ∈ xs
 | [], _, _ => by simp [puts]
 | x :: xs, l, y => by
   rw [show puts cmpSym l (x :: xs) = puts cmpSym (put cmpSym l x) xs from rfl, mem_puts_iff xs, mem_put_iff]
   simp [or_assoc]
theorem has_mem {l : List Sym} {x : Sym} : has cmpSym l x = true ↔ x ∈ l := by
 rw [has_iff]
 constructor
 · rintro ⟨z, hz, e⟩
   rw [← cmpSym_eq.1 e]; exact hz
 · exact fun h => ⟨x, h, cmpSym_eq.2 rfl⟩
end Go.Proofs.YtpndmjabjjbefaaGreat
namespace Go.Proofs.YtpndmjabjjbefaaGreat
theorem maxFold_le (c : UInt8) (k : Int) : ∀ (l : List Sym) (a : Int), l.foldl (fun n s => if s.kind = 1 ∧ s.text = letB c then max n s.n else n) a ≤ k ↔ a ≤ k ∧ ∀ s ∈ l, s.kind = 1 ∧ s.text = letB c → s.n ≤ k
 | [], a => by simp
 | s :: l, a => by
   rw [List.foldl_cons, maxFold_le c k l]
   by_cases h : s.kind = 1 ∧ s.text = letB c
   · rw [if_pos h]
     constructor
     · rintro ⟨h1, h2⟩
       refine ⟨by omega, fun x hx hc => ?_⟩
       rcases List.mem_cons.1 hx with rfl | hx
       · omega
       · exact h2 x hx hc
     · rintro ⟨h1, h2⟩
       exact ⟨by have := h2 s (by simp) h; omega, fun x hx hc => h2 x (by simp [hx]) hc⟩
   · rw [if_neg h]
     constructor
     · rintro ⟨h1, h2⟩
       refine ⟨h1, fun x hx hc => ?_⟩
       rcases List.mem_cons.1 hx with rfl | hx
       · exact absurd hc h
       · exact h2 x hx hc
     · rintro ⟨h1, h2⟩
       exact ⟨h1, fun x hx hc => h2 x (by simp [hx]) hc⟩
theorem maxL_le {l : List Sym} {c : UInt8} {k : Int} : maxL l c ≤ k ↔ 0 ≤ k ∧ ∀ s ∈ l, s.kind = 1 ∧ s.text = letB c → s.n ≤ k := maxFold_le c k l 0
theorem maxL_congr {l l' : List Sym} (c : UInt8) (h : ∀ x, x ∈ l ↔ x ∈ l') : maxL l c = maxL l' c := by
 have h1 : maxL l c ≤ maxL l' c := maxL_le.2 (by have := maxL_le.1 (Int.le_refl (maxL l' c)); exact ⟨this.1, fun s hs => this.2 s ((h s).1 hs)⟩)
 have h2 : maxL l' c ≤ maxL l c := maxL_le.2 (by have := maxL_le.1 (Int.le_refl (maxL l c)); exact ⟨this.1, fun s hs => this.2 s ((h s).2 hs)⟩)
 omega
theorem maxL_put (l : List Sym) (s : Sym) (c : UInt8) : maxL (put cmpSym l s) c = if s.kind = 1 ∧ s.text = letB c then max (maxL l c) s.n else maxL l c := by
 rw [← maxL_snoc]
 exact maxL_congr c (fun x => by rw [mem_put_iff]; simp)
theorem maxL_nonneg (l : List Sym) (c : UInt8) : 0 ≤ maxL l c := (maxL_le.1 (Int.le_refl _)).1
theorem mem_mput {m : List Page} {p y : Page} : y ∈ mput m p ↔ (y ∈ m ∧ y.key ≠ p.key) ∨ y = p := by
 have hn : has cmpPage (drop cmpPage m p) p = false := by
  rw [has_false]
  intro y hy
  exact (mem_drop.1 hy).2
 unfold mput put
 rw [if_neg (by rw [hn]; simp)]
 simp only [List.mem_append, List.mem_cons, mem_below, mem_above, mem_drop]
 have e : ∀ y : Page, cmpPage y p ≠ 0 ↔ y.key ≠ p.key := fun y => by rw [ne_eq, cmpPage_eq]
 constructor
 · rintro (⟨⟨h1, h2⟩, _⟩ | h | ⟨⟨h1, h2⟩, _⟩)
   · exact .inl ⟨h1, (e y).1 h2⟩
   · exact .inr h
   · exact .inl ⟨h1, (e y).1 h2⟩
 · rintro (⟨h1, h2⟩ | h)
   · have h3 := (e y).2 h2
     by_cases hlt : cmpPage y p < 0
     · exact .inl ⟨⟨h1, h3⟩, hlt⟩
     · exact .inr (.inr ⟨⟨h1, h3⟩, by omega⟩)
   · exact .inr (.inl h)
theorem srt_mput {m : List Page} (hs : Srt cmpPage m) (p : Page) : Srt cmpPage (mput m p) := (hs.drop p).put tc_page p
theorem mget_of_not {m : List Page} {c : UInt8} (h : ∀ y ∈ m, y.key ≠ c) : mget m c = none := by
 refine mget_none ?_
 rw [has_false]
 intro y hy e
 exact h y hy (cmpPage_eq.1 e)
theorem mget_iff {m : List Page} (hs : Srt cmpPage m) {c : UInt8} {v : Int} : mget m c = some v ↔ ⟨c, v⟩ ∈ m := by
 constructor
 · intro h
   unfold mget at h
   cases hf : m.find? fun p => p.key == c with
   | none => rw [hf] at h; simp at h
   | some y =>
     rw [hf] at h
     simp only [Option.map_some, Option.some.injEq] at h
     have h1 := List.mem_of_find?_eq_some hf
     have h2 := List.find?_some hf
     simp only [beq_iff_eq] at h2
     have : (⟨c, v⟩ : Page) = y := by cases y; simp_all
     rw [this]; exact h1
 · intro h; exact mget_some hs h rfl
theorem mget_mput {m : List Page} (hs : Srt cmpPage m) (p : Page) (c : UInt8) : mget (mput m p) c = if p.key = c then some p.v else mget m c := by
 by_cases h : p.key = c
 · rw [if_pos h]
   exact mget_some (srt_mput hs p) (mem_mput.2 (.inr rfl)) h
 · rw [if_neg h]
   cases hm : mget m c with
   | some v => exact (mget_iff (srt_mput hs p)).2 (mem_mput.2 (.inl ⟨(mget_iff hs).1 hm, fun e => h e.symm⟩))
   | none =>
     refine mget_of_not (fun y hy e => ?_)
     rcases mem_mput.1 hy with ⟨h1, _⟩ | rfl
     · have : mget m c = some y.v := mget_some hs h1 e
       rw [hm] at this; cases this
     · exact h e
theorem page_len {m : List Page} (hs : Srt cmpPage m) : (m.length : Int) ≤ 256 := by
 have h : ∀ i, (hi : i < m.length) → (i : Int) ≤ m[i].kk := by
  intro i
  induction i with
  | zero => intro hi; exact (Page.kk_bd _).1
  | succ i ih =>
    intro hi
    have h1 := ih (by omega)
    have h2 : cmpPage (m[i]'(by omega)) m[i + 1] < 0 := hs.lt (Nat.lt_succ_self i) hi
    unfold cmpPage at h2
    omega
 rcases Nat.eq_zero_or_pos m.length with h0 | h0
 · omega
 · have h1 := h (m.length - 1) (by omega)
   have h2 := (Page.kk_bd (m[m.length - 1]'(by omega))).2
   omega
def TI (l : List Sym) (m : List Page) : Prop := Srt cmpPage m ∧ ∀ c, greatB c = true → nextB m c = maxL l c + 1
theorem TI.nil : TI [] [] := ⟨Srt.nil, fun c hc => by unfold nextB mget maxL; rw [if_pos hc]; rfl⟩
theorem TI.next {l : List Sym} {m : List Page} (h : TI l m) (c : UInt8) : nextB m c = nextL l c := by
 unfold nextL
 cases hg : greatB c
 · unfold nextB; simp [hg]
 · rw [if_pos rfl]; exact h.2 c hg
theorem letB_inj {c d : UInt8} (h : letB c = letB d) : c = d := by
 have : idc (letB c) = idc (letB d) := by rw [h]
 exact this
theorem letB_of {t : ByteArray} (h : t.size = 1) : t = letB (idc t) := by
 rw [idc_eq (by omega)]
 obtain ⟨a⟩ := t
 have hs : a.size = 1 := h
 unfold letB
 congr 1
 apply Array.ext
 · simpa using hs
 · intro i h1 h2
   have hi : i = 0 := by omega
   subst hi
   rfl
theorem hasNot {l : List Sym} {x : Sym} : has cmpSym l x = false ↔ x ∉ l := by
 rw [← has_mem]; simp
theorem TI.put {l : List Sym} {m : List Page} (h : TI l m) {s : Sym} (hv : validB s = true) : TI (put cmpSym l s) (tputM m s) := by
 by_cases hk : s.kind = 1
 · obtain ⟨k, t, n⟩ := s
   dsimp only at hk
   subst hk
   obtain ⟨h1, h2, h3, h4⟩ := validB_id hv
   have ht := letB_of h1
   have hg : greatB (idc t) = true := by
    rw [idc_eq (by omega)]
    have := h2
    rwa [headB_eq (by omega)] at this
   have hnx := h.2 (idc t) hg
   unfold tputM
   dsimp only
   by_cases hc : nextB m (idc t) ≤ n
   · rw [if_pos ⟨rfl, hc⟩]
     refine ⟨srt_mput h.1 _, fun c hcg => ?_⟩
     have hc2 := h.2 c hcg
     rw [maxL_put]
     unfold nextB at hc2 ⊢
     rw [if_pos hcg] at hc2 ⊢
     rw [mget_mput h.1]
     dsimp only
     by_cases e : idc t = c
     · subst e
       rw [if_pos rfl, if_pos ⟨rfl, ht⟩]
       simp only [Option.getD_some]
       omega
     · rw [if_neg e, if_neg (fun hh => e (letB_inj (ht.symm.trans hh.2)))]
       exact hc2
   · rw [if_neg (fun hh => hc hh.2)]
     refine ⟨h.1, fun c hcg => ?_⟩
     rw [maxL_put, h.2 c hcg]
     by_cases e : idc t = c
     · subst e
       rw [if_pos ⟨rfl, ht⟩]
       dsimp only
       omega
     · rw [if_neg (fun hh => e (letB_inj (ht.symm.trans hh.2)))]
 · unfold tputM
   rw [if_neg (fun hh => hk hh.1)]
   refine ⟨h.1, fun c hcg => ?_⟩
   rw [maxL_put, if_neg (fun hh => hk hh.1)]
   exact h.2 c hcg
theorem TI.puts {m : List Page} : ∀ (xs : List Sym) {l : List Sym} {m : List Page}, TI l m → (∀ s ∈ xs, validB s = true) → TI (puts cmpSym l xs) (xs.foldl tputM m)
 | [], _, _, h, _ => h
 | x :: xs, _, _, h, hv => TI.puts (m := m) xs (h.put (hv x (by simp))) (fun s hs => hv s (by simp [hs]))
def frsh (l L : List Sym) : List Sym := puts cmpSym [] (L.filter fun s => !has cmpSym l s)
theorem frsh_nil (l : List Sym) : frsh l [] = [] := rfl
theorem mem_frsh {l L : List Sym} {x : Sym} : x ∈ frsh l L ↔ x ∈ L ∧ x ∉ l := by
 unfold frsh
 rw [mem_puts_iff]
 simp [hasNot]
theorem frsh_srt (l L : List Sym) : Srt cmpSym (frsh l L) := Srt.puts tc_sym _ Srt.nil
theorem frsh_snoc (l L : List Sym) (x : Sym) : frsh l (L ++ [x]) = if has cmpSym l x = true then frsh l L else put cmpSym (frsh l L) x := by
 unfold frsh
 rw [List.filter_append]
 by_cases h : has cmpSym l x = true
 · rw [if_pos h]; simp [h]
 · rw [if_neg h]
   have : has cmpSym l x = false := by simpa using h
   simp only [List.filter_cons, this, Bool.not_false, if_true, List.filter_nil]
   exact puts_snoc _ _ _
theorem puts_frsh {l : List Sym} (hs : Srt cmpSym l) (L : List Sym) : puts cmpSym l (frsh l L) = puts cmpSym l L := by
 refine sym_ext (Srt.puts tc_sym _ hs) (Srt.puts tc_sym _ hs) (fun x => ?_)
 rw [mem_puts_iff, mem_puts_iff, mem_frsh]
 by_cases h : x ∈ l <;> simp [h]
theorem length_frsh {l : List Sym} (hs : Srt cmpSym l) (L : List Sym) : (puts cmpSym l L).length = l.length + (frsh l L).length := by
 suffices h : ∀ R : List Sym, (puts cmpSym l R.reverse).length = l.length + (frsh l R.reverse).length by simpa using h L.reverse
 intro R
 induction R with
 | nil => simp [puts, frsh]
 | cons x R ih =>
   rw [List.reverse_cons, puts_snoc, frsh_snoc]
   have hs2 := Srt.puts tc_sym R.reverse hs
   cases h1 : has cmpSym (puts cmpSym l R.reverse) x
   · rw [length_put tc_sym hs2 h1]
     have h2 : x ∉ puts cmpSym l R.reverse := hasNot.1 h1
     rw [mem_puts_iff] at h2
     have h3 : has cmpSym l x = false := hasNot.2 (fun h => h2 (.inl h))
     rw [if_neg (by rw [h3]; simp), length_put tc_sym (frsh_srt _ _) (hasNot.2 (fun h => h2 (.inr (mem_frsh.1 h).1)))]
     omega
   · rw [put_has h1]
     have h2 : x ∈ puts cmpSym l R.reverse := has_mem.1 h1
     rw [mem_puts_iff] at h2
     by_cases h3 : x ∈ l
     · rw [if_pos (has_mem.2 h3)]; exact ih
     · rw [if_neg (by rw [has_mem]; exact h3), put_has (has_mem.2 (mem_frsh.2 ⟨h2.resolve_left h3, h3⟩))]; exact ih
theorem length_put_ge (l : List Sym) (hs : Srt cmpSym l) (x : Sym) : l.length ≤ (put cmpSym l x).length := by
 cases h : has cmpSym l x
 · rw [length_put tc_sym hs h]; omega
 · rw [put_has h]; exact Nat.le_refl _
theorem length_puts_ge : ∀ (xs : List Sym) (l : List Sym), Srt cmpSym l → l.length ≤ (puts cmpSym l xs).length
 | [], _, _ => Nat.le_refl _
 | x :: xs, l, hs => Nat.le_trans (length_put_ge l hs x) (length_puts_ge xs _ (hs.put tc_sym x))
theorem length_frsh_take (l L : List Sym) (i : Nat) : (frsh l (L.take i)).length ≤ (frsh l L).length := by
 have e : frsh l L = puts cmpSym (frsh l (L.take i)) ((L.drop i).filter fun s => !has cmpSym l s) := by
  unfold frsh puts
  rw [← List.foldl_append, ← List.filter_append, List.take_append_drop]
 rw [e]
 exact length_puts_ge _ _ (frsh_srt _ _)
end Go.Proofs.YtpndmjabjjbefaaGreat
namespace Go.Proofs.YtpndmjabjjbefaaGreat
open Go.RowKit Go.Shelf
attribute [local go_sem] Oper.semAt_some
section
variable {D : Nat → Prop} {w : World} {S : Nat → Option (List Sym)} {σ : Nat → St} {S2 : Nat → Option (List Page)} {σ2 : Nat → St}
def TPut (D : Nat → Prop) (w : World) (S : Nat → Option (List Sym)) (σ : Nat → St) (S2 : Nat → Option (List Page)) (σ2 : Nat → St) (T : TB) (l : List Sym) (m : List Page) (L : List Sym) (e : Ending) (w' : World) : Prop :=
 if L.all validB = true then
  if T.room < ((puts cmpSym l L).length : Int) then e = .returned (.int .i64 20) ∧ Below w.heap.size w w'
  else e = .returned (.int .i64 0) ∧ TabPut D w S σ S2 σ2 T (puts cmpSym l L) ((frsh l L).foldl tputM m) w'
 else e = .returned (.int .i64 9) ∧ Below w.heap.size w w'
theorem Sets.priv2 {α : Type} {tSet tE size : Nat} {cells : α → List Value} {cmp : α → α → Int} {w' : World} {S : Nat → Option (List α)} {B : Nat} (h : Sets tSet tE size cells cmp D w S σ) (hp : Priv B w w') : Sets tSet tE size cells cmp D w' S σ :=
 ⟨fun b l hb => (h.at_ b l hb).priv hp, h.srt, h.out, h.apart, fun k hk => Nat.lt_of_lt_of_le (h.low k hk) hp.size⟩
theorem Tabs.priv {w' : World} {B : Nat} (h : Tabs D w S σ S2 σ2) (hp : Priv B w w') : Tabs D w' S σ S2 σ2 := ⟨h.syms.priv2 hp, h.pages.priv2 hp⟩
theorem TabBlk.priv {w' : World} {B : Nat} {T : TB} (h : TabBlk w T) (hp : Priv B w w') : TabBlk w' T := ⟨h.1.priv hp, h.2.priv hp⟩
theorem KB.priv {w' w'' : World} {B : Nat} (h : KB w w') (hp : Priv B w' w'') : KB w w'' := fun g t cs h1 h2 h3 h4 hb => (h g t cs h1 h2 h3 h4 hb).priv hp
def NoCells (w : World) (k : Nat) : Prop := k < w.heap.size ∧ ¬ cellsAt w k
theorem Sets.quiet {α : Type} {tSet tE size : Nat} {cells : α → List Value} {cmp : α → α → Int} {S : Nat → Option (List α)} (h : Sets tSet tE size cells cmp D w S σ) : Sets tSet tE size cells cmp (fun k => D k ∨ NoCells w k) w S σ :=
 ⟨h.at_, h.srt, fun b l hb => ⟨fun hk => hk.elim (h.out b l hb).1 (fun hk => hk.2 (h.at_ b l hb).blk.at_), fun hs a ha hk => hk.elim ((h.out b l hb).2 hs a ha) (fun hk => hk.2 (owns_cells (h.at_ b l hb).row a.block (by rw [ha]; rfl)))⟩, h.apart, fun k hk => hk.elim (h.low k) (·.1)⟩
theorem Tabs.quiet (h : Tabs D w S σ S2 σ2) : Tabs (fun k => D k ∨ NoCells w k) w S σ S2 σ2 := ⟨h.syms.quiet, h.pages.quiet⟩
theorem keeps_quiet {w' : World} (h : Fr (fun k => ¬ (D k ∨ NoCells w k)) w w') (B : Nat) : KeepsFrom B w w' :=
 KeepsFrom.of_fr h (fun _ hk hl => Classical.byContradiction fun hc => hk (.inr ⟨hl, hc⟩)) B
theorem keepsFrom_same (B : Nat) (w : World) : KeepsFrom B w w := KeepsFrom.of_fr (Fr.refl (fun _ => False) w) (fun _ h => h.elim) B
theorem length_tputM (m : List Page) (s : Sym) : (tputM m s).length ≤ m.length + 1 := by
 unfold tputM
 split
 · unfold mput
   have h1 := length_drop_le (cmp := cmpPage) m ⟨idc s.text, s.n + 1⟩
   have h2 : has cmpPage (drop cmpPage m ⟨idc s.text, s.n + 1⟩) ⟨idc s.text, s.n + 1⟩ = false := by
    rw [has_false]; intro y hy; exact (mem_drop.1 hy).2
   unfold put
   rw [if_neg (by rw [h2]; simp)]
   have h3 : (below cmpPage (drop cmpPage m ⟨idc s.text, s.n + 1⟩) ⟨idc s.text, s.n + 1⟩).length + (above cmpPage (drop cmpPage m ⟨idc s.text, s.n + 1⟩) ⟨idc s.text, s.n + 1⟩).length ≤ (drop cmpPage m ⟨idc s.text, s.n + 1⟩).length := by
    generalize drop cmpPage m ⟨idc s.text, s.n + 1⟩ = X
    induction X with
    | nil => simp [below, above]
    | cons y X ih =>
      simp only [below, above, List.filter_cons] at ih ⊢
      split <;> split <;> simp_all <;> omega
   simp only [List.length_append, List.length_cons]
   omega
 · omega
theorem length_tputMs : ∀ (xs : List Sym) (m : List Page), (xs.foldl tputM m).length ≤ m.length + xs.length
 | [], _ => Nat.le_refl _
 | x :: xs, m => by
   have h1 := length_tputM m x
   have h2 := length_tputMs xs (tputM m x)
   simp only [List.foldl_cons, List.length_cons]
   omega
set_option maxRecDepth 100000 in
set_option maxHeartbeats 8000000 in
theorem tputl_is (T : TB) (l : List Sym) (m : List Page) (L : List Sym) (A2 : Option Addr) (c2 : Nat) (hT : Tabs D w S σ S2 σ2) (hB : TabBlk w T) (hb : S T.bs = some l) (hb2 : S2 T.bp = some m) (hL : RowRd w 3 Sym.cells A2 c2 L)
 (hr1 : 1 ≤ T.room) (hr2 : T.room ≤ 4096) (hlr : (l.length : Int) ≤ T.room) (hl2 : (m.length : Int) ≤ 256) (hLL : (L.length : Int) ≤ 10000) :
 Calls Tryz.prog 59 #[.pointer (some ⟨T.b, 0, none⟩), .slice A2 L.length c2] w (TPut D w S σ S2 σ2 T l m L) := by
 have HT := Lib.hid hT
 have HB := Lib.hid hB
 have HS := Lib.hid hb
 have HP := Lib.hid hb2
 have HL := Lib.hid hL
 have HSO := Lib.hid (hT.syms.srt T.bs l hb)
 clear hT hB hb hb2 hL
 refine (callsIn_wide (n := 0)).1 ?_
 refine callsIn_of_wp_marks Tryz.func59 rfl trivial ?_
 refine wpIn_wide.2 ?_
 simp only [Tryz.ntmps59, List.size_toArray, List.length_cons, List.length_nil, Nat.reduceAdd, Nat.reduceSub, Array.replicate_succ, Array.replicate_zero, List.push_toArray, List.append_toArray, List.nil_append, List.cons_append]
 go_wp2_with fail
 obtain ⟨W0, hW0⟩ : ∃ W0, W0 = w.alloc (.cells #[.pointer (some ⟨T.b, 0, none⟩)] 66) := ⟨_, rfl⟩
 have hb0 : Below w.heap.size w W0 := by rw [hW0]; exact (Below.refl _ _).alloc (Nat.le_refl _) _
 have hX0 : Blk W0 w.heap.size 66 #[.pointer (some ⟨T.b, 0, none⟩)] := by rw [hW0]; exact Blk.new _ _ _
 rw [← hW0]
 clear hW0
 have hz0 := hX0.lt
 have HB0 := Lib.hid hb0
 have HX0 := Lib.hid hX0
 clear hb0 hX0
 go_loopw [4, 15] (fun e s wr => ∃ i : Nat, e = .int .i64 0 ∧ s = .int .i64 i ∧ i ≤ L.length ∧ (∀ j, (h : j < L.length) → j < i → validB L[j] = true) ∧ Below W0.heap.size W0 wr) (fun e s wr => L.length - (intOf s).toNat)
 case atStart => exact ⟨0, rfl, rfl, Nat.zero_le _, fun j _ h => absurd h (by omega), Below.refl _ _⟩
 case round =>
  obtain ⟨i, rfl, rfl, hi, hall, hBl⟩ := hrel
  have HALL := Lib.hid hall
  have HBl := Lib.hid hBl
  have HX1 := Lib.hid (HX0.out.new_ hBl)
  have hz1 := hBl.size
  clear hall hBl
  by_cases hlt : i < L.length
  · obtain ⟨y, hy⟩ : ∃ y, y = L[i] := ⟨_, rfl⟩
    obtain ⟨g, off, rfl, hg, q0, q1, q2⟩ := sym_at (HL.out.new_ (HB0.out.trans (HBl.out.mono (by omega)))) hlt
    rw [← hy] at q0 q1 q2
    have HY := Lib.hid hy
    have b1 : (0 : Int) ≤ (i : Int) := by omega
    have b2 : (i : Int) < (L.length : Int) := by omega
    clear hy
    go_wp2_with fail
    refine (valid_is y _).mono ?_
    rintro e w1 ⟨rfl, hb1⟩
    have HB1 := Lib.hid ((HBl.out.alloc HBl.out.size _).trans (hb1.mono (by have := HBl.out.size; simp; omega)))
    clear hb1 q0 q1 q2
    cases hv : validB y
    · have HE := Lib.hid (rtput_bad_at hlt (by rw [← HY.out]; exact hv))
      go_wp2_with fail
      refine ⟨_, results_tmp rfl _ _ _, ?_⟩
      unfold TPut
      rw [HE.out]
      exact ⟨rfl, HB0.out.trans (HB1.out.mono (by omega))⟩
    · have HV := Lib.hid hv
      go_wp2_with fail
      go_roundw
      case rel => exact ⟨i + 1, rfl, by go_num, by omega, fun j h hj => by
       rcases Nat.lt_or_ge j i with h3 | h3
       · exact HALL.out j h h3
       · obtain rfl : j = i := by omega
         rw [← HY.out]; exact HV.out, HB1.out⟩
      case measure => simp [intOf] <;> omega
  · have hie : i = L.length := by omega
    subst hie
    have HE := Lib.hid (show L.all validB = true from List.all_eq_true.2 (fun x hx => by
     obtain ⟨j, hj, rfl⟩ := List.getElem_of_mem hx
     exact HALL.out j hj hj))
    obtain ⟨w1, hw1⟩ : ∃ w1, w1 = wr := ⟨_, rfl⟩
    rw [← hw1] at HBl HX1 hz1 ⊢
    clear hw1 HALL
    have HB01 := Lib.hid (HB0.out.trans (HBl.out.mono (by omega)))
    go_wp2_with fail
    refine (new_Sym none 0 [] w1 (RowRd.nil _ _ _) (by simp)).mono ?_
    rintro e w2 ⟨k, rfl, hk, sn, A, c, hS2, hA2, hB2⟩
    have HS2 := Lib.hid hS2
    have HA2 := Lib.hid hA2
    have HB2 := Lib.hid hB2
    clear hS2 hA2 hB2
    go_wp2_with fail
    go_loopw [4, 26] (fun e s W => ∃ (i : Nat) (sn : Bool) (A : Option Addr) (c : Nat), e = .int .i64 0 ∧ s = .int .i64 i ∧ i ≤ L.length ∧ SymSet W k sn A c (frsh l (L.take i)) ∧ AIn A (w1.heap.size ≤ ·) ∧ Below w1.heap.size w1 W ∧ ((frsh l (L.take i)).length : Int) ≤ T.room - l.length) (fun e s W => L.length - (intOf s).toNat)
    case atStart => exact ⟨0, sn, A, c, rfl, rfl, Nat.zero_le _, HS2.out, HA2.out, HB2.out, by simp only [List.take_zero, frsh_nil, List.length_nil]; omega⟩
    case round =>
     clear HS2 HA2 HB2
     obtain ⟨i, sn, A, c, rfl, rfl, hi, hSf, hAf, hBf, hroom⟩ := hrel
     have HSf := Lib.hid hSf
     have HAf := Lib.hid hAf
     have HBf := Lib.hid hBf
     have HXf := Lib.hid (HX1.out.new_ hBf)
     have HBw := Lib.hid (HB01.out.trans (hBf.mono (by have := HB01.out.size; omega)))
     have hzf := hBf.size
     have hz01 := HB01.out.size
     clear hSf hAf hBf
     by_cases hlt : i < L.length
     · obtain ⟨y, hy⟩ : ∃ y, y = L[i] := ⟨_, rfl⟩
       obtain ⟨g, off, rfl, hg, q0, q1, q2⟩ := sym_at (HL.out.new_ HBw.out) hlt
       rw [← hy] at q0 q1 q2
       have b1 : (0 : Int) ≤ (i : Int) := by omega
       have b2 : (i : Int) < (L.length : Int) := by omega
       have p0 : wr.cell? ⟨w.heap.size, 0, none⟩ = some (.pointer (some ⟨T.b, 0, none⟩)) := (HXf.out.cell 0).trans rfl
       have hxl := HXf.out.lt
       have HTK := Lib.hid (show L.take (i + 1) = L.take i ++ [y] by rw [List.take_add_one, List.getElem?_eq_getElem hlt, ← hy]; rfl)
       clear hy
       go_wp2_with fail
       obtain ⟨V, hV⟩ : ∃ V, V = wr.alloc (.cells #[.int .i64 y.kind, .string y.text, .int .i64 y.n] 23) := ⟨_, rfl⟩
       have hbV : Below wr.heap.size wr V := by rw [hV]; exact (Below.refl _ _).alloc (Nat.le_refl _) _
       have hYV : Blk V wr.heap.size 23 #[.int .i64 y.kind, .string y.text, .int .i64 y.n] := by rw [hV]; exact Blk.new _ _ _
       rw [← hV]
       clear hV
       have hbVw := HBw.out.trans (hbV.mono HBw.out.size)
       refine (tabhas_is T l y (HT.out.below hbVw) (HB.out.below hbVw) HS.out (by omega)).mono ?_
       rintro e V1 ⟨rfl, hb1⟩
       have hbV1 := hbVw.trans (hb1.mono hbVw.size)
       have hY1 := hYV.new_ hb1
       have hS1 := (HSf.out.new_ hbV).new_ hb1
       have hX1 := (HXf.out.new_ hbV).new_ hb1
       have hbf1 := (HBf.out.trans (hbV.mono HBf.out.size)).trans (hb1.mono (by have := hbV.size; omega))
       have HY1 := Lib.hid hY1
       have HS1 := Lib.hid hS1
       have HX1' := Lib.hid hX1
       have HBV1 := Lib.hid hbV1
       have HBF1 := Lib.hid hbf1
       have hzv1 := hbf1.size
       clear hbV hYV hbVw hb1 hbV1 hY1 hS1 hX1 hbf1 q0 q1 q2 p0
       have p0 : V1.cell? ⟨w.heap.size, 0, none⟩ = some (.pointer (some ⟨T.b, 0, none⟩)) := (HX1'.out.cell 0).trans rfl
       have y0 : V1.cell? ⟨wr.heap.size, 0, none⟩ = some (.int .i64 y.kind) := (HY1.out.cell 0).trans rfl
       have y1 : V1.cell? ⟨wr.heap.size, 1, none⟩ = some (.string y.text) := (HY1.out.cell 1).trans rfl
       have y2 : V1.cell? ⟨wr.heap.size, 2, none⟩ = some (.int .i64 y.n) := (HY1.out.cell 2).trans rfl
       have hyl1 := HY1.out.lt
       have hxl1 := HX1'.out.lt
       cases hh : has cmpSym l y
       · have HH := Lib.hid hh
         clear hh
         go_wp2_with fail
         refine (put_Sym k c sn A (frsh l (L.take i)) y V1 HS1.out (frsh_srt _ _) (by omega)).mono ?_
         rintro e V2 ⟨rfl, sn2, A2', c2', hS2, hF2, hM2⟩
         have hFF : put cmpSym (frsh l (L.take i)) y = frsh l (L.take (i + 1)) := by rw [HTK.out, frsh_snoc, if_neg (by rw [HH.out]; simp)]
         rw [hFF] at hS2
         have hb2 : Below w1.heap.size V1 V2 := hF2.below (by omega) (fun j hj hm => by
          rcases hm with rfl | ⟨_, a, ha, rfl⟩
          · omega
          · have := HAf.out a ha; omega)
         have HBF2 := Lib.hid (HBF1.out.trans hb2)
         have HA2 := Lib.hid (show AIn A2' (w1.heap.size ≤ ·) by
          rcases hM2 with ⟨_, rfl⟩ | ⟨_, g2, hg2, rfl⟩
          · exact HAf.out
          · intro a ha; cases ha; dsimp only; omega)
         have HS2 := Lib.hid hS2
         clear hS2 hF2 hM2 hb2 p0 y0 y1 y2 hFF
         have hbVV := HB01.out.trans (HBF2.out.mono hz01)
         have HBVV := Lib.hid hbVV
         have HTV := Lib.hid (HT.out.below hbVV)
         have hBV := HB.out.below hbVV
         have p0 : V2.cell? ⟨w.heap.size, 0, none⟩ = some (.pointer (some ⟨T.b, 0, none⟩)) := ((HX1.out.new_ HBF2.out).cell 0).trans rfl
         have s0 : V2.cell? ⟨T.b, 0, none⟩ = some (.int .i64 T.room) := (hBV.1.cell 0).trans rfl
         have s1 : V2.cell? ⟨T.b, 1, none⟩ = some (.pointer (some ⟨T.bs, 0, none⟩)) := (hBV.1.cell 1).trans rfl
         have hxV := (HX1.out.new_ HBF2.out).lt
         have hbV := hBV.1.lt
         have v1 : IntKind.i64.wrap (T.room - (l.length : Int)) = T.room - (l.length : Int) := IntWalk.i64_in _ (by omega)
         clear hbVV hBV
         by_cases hfull : T.room - (l.length : Int) < ((frsh l (L.take (i + 1))).length : Int)
         · have t1 : decide (T.room - (l.length : Int) < ((frsh l (L.take (i + 1))).length : Int)) = true := by simpa using hfull
           have HFU := Lib.hid hfull
           clear hfull
           go_wp2_with fail
           refine wp_region_E (fun w9 => Below V2.heap.size V2 w9) [(0, 0), (2, 1), (3, 0), (4, 0), (5, 1), (6, 1), (7, 0), (8, 0), (9, 1), (1, 2), (10, 2), (11, 0), (12, 0)] (by kernel_rfl) (by kernel_rfl) (fun KK hKK => ?_)
           simp only [beside, List.filterMap_cons, List.filterMap_nil, List.getElem?_toArray, List.getElem?_cons_zero, List.getElem?_cons_succ, Option.map_some]
           repeat ((first | (refine wpX_w ?_ (Or.inl ⟨by rfl, fun w9 => ?_⟩) ?_; rotate_left 1; go_simp; with_reducible rfl) | (refine wpX_l ?_ (((Below.refl _ _).drew)) (Or.inl ⟨by rfl, fun w9 hw9 => ?_⟩) ?_; rotate_left 1; obtain ⟨hc9, hf9⟩ := bcell hw9; go_simp; with_reducible rfl) | refine wpX_w undef (Or.inr ⟨by rfl, rfl⟩) ?_ | refine wpX_l undef (((Below.refl _ _).drew)) (Or.inr ⟨by rfl, rfl⟩) ?_); go_frame)
           refine wpX_es (fun K9 hK9 => ?_)
           go_simp
           refine (len_Sym k _ _ _ (frsh l (L.take (i + 1))) _ (HS2.out.new_ ((Below.refl _ _).drew))).mono ?_
           rintro e wx ⟨rfl, rfl⟩
           refine hK9 _ _ ((Below.refl _ _).drew) ?_
           clear hK9 K9
           refine wpX_es (fun K9 hK9 => ?_)
           go_simp
           refine (len_Sym T.bs _ _ _ l _ ((HTV.out.below ((Below.refl _ _).drew)).syms.at_ T.bs l HS.out)).mono ?_
           rintro e wx ⟨rfl, rfl⟩
           refine hK9 _ _ ((Below.refl _ _).drew) ?_
           clear hK9 K9
           repeat ((first | (refine wpX_w ?_ (Or.inl ⟨by rfl, fun w9 => ?_⟩) ?_; rotate_left 1; go_simp; with_reducible rfl) | (refine wpX_l ?_ (((Below.refl _ _).drew)) (Or.inl ⟨by rfl, fun w9 hw9 => ?_⟩) ?_; rotate_left 1; obtain ⟨hc9, hf9⟩ := bcell hw9; go_simp; with_reducible rfl) | refine wpX_w undef (Or.inr ⟨by rfl, rfl⟩) ?_ | refine wpX_l undef (((Below.refl _ _).drew)) (Or.inr ⟨by rfl, rfl⟩) ?_); go_frame)
           refine wpX_nil ?_
           simp only [OnlyN_normal]
           refine hKK _ _ ?_
           clear hKK KK
           go_wp2_with fail
           refine ⟨_, results_tmp rfl _ _ _, ?_⟩
           unfold TPut
           have h1 := length_frsh HSO.out L
           have h2 := length_frsh_take l L (i + 1)
           have h3 := HFU.out
           rw [HE.out, if_pos rfl, if_pos (by omega)]
           exact ⟨rfl, HBVV.out.drew⟩
         · have t1 : decide (T.room - (l.length : Int) < ((frsh l (L.take (i + 1))).length : Int)) = false := by simpa using hfull
           have HFU := Lib.hid hfull
           clear hfull
           go_wp2_with fail
           refine wp_region_E (fun w9 => Below V2.heap.size V2 w9) [(0, 0), (2, 1), (3, 0), (4, 0), (5, 1), (6, 1), (7, 0), (8, 0), (9, 1), (1, 2), (10, 2), (11, 0), (12, 0)] (by kernel_rfl) (by kernel_rfl) (fun KK hKK => ?_)
           simp only [beside, List.filterMap_cons, List.filterMap_nil, List.getElem?_toArray, List.getElem?_cons_zero, List.getElem?_cons_succ, Option.map_some]
           repeat ((first | (refine wpX_w ?_ (Or.inl ⟨by rfl, fun w9 => ?_⟩) ?_; rotate_left 1; go_simp; with_reducible rfl) | (refine wpX_l ?_ (((Below.refl _ _).drew)) (Or.inl ⟨by rfl, fun w9 hw9 => ?_⟩) ?_; rotate_left 1; obtain ⟨hc9, hf9⟩ := bcell hw9; go_simp; with_reducible rfl) | refine wpX_w undef (Or.inr ⟨by rfl, rfl⟩) ?_ | refine wpX_l undef (((Below.refl _ _).drew)) (Or.inr ⟨by rfl, rfl⟩) ?_); go_frame)
           refine wpX_es (fun K9 hK9 => ?_)
           go_simp
           refine (len_Sym k _ _ _ (frsh l (L.take (i + 1))) _ (HS2.out.new_ ((Below.refl _ _).drew))).mono ?_
           rintro e wx ⟨rfl, rfl⟩
           refine hK9 _ _ ((Below.refl _ _).drew) ?_
           clear hK9 K9
           refine wpX_es (fun K9 hK9 => ?_)
           go_simp
           refine (len_Sym T.bs _ _ _ l _ ((HTV.out.below ((Below.refl _ _).drew)).syms.at_ T.bs l HS.out)).mono ?_
           rintro e wx ⟨rfl, rfl⟩
           refine hK9 _ _ ((Below.refl _ _).drew) ?_
           clear hK9 K9
           repeat ((first | (refine wpX_w ?_ (Or.inl ⟨by rfl, fun w9 => ?_⟩) ?_; rotate_left 1; go_simp; with_reducible rfl) | (refine wpX_l ?_ (((Below.refl _ _).drew)) (Or.inl ⟨by rfl, fun w9 hw9 => ?_⟩) ?_; rotate_left 1; obtain ⟨hc9, hf9⟩ := bcell hw9; go_simp; with_reducible rfl) | refine wpX_w undef (Or.inr ⟨by rfl, rfl⟩) ?_ | refine wpX_l undef (((Below.refl _ _).drew)) (Or.inr ⟨by rfl, rfl⟩) ?_); go_frame)
           refine wpX_nil ?_
           simp only [OnlyN_normal]
           refine hKK _ _ ?_
           clear hKK KK
           go_wp2_with fail
           go_roundw
           case rel => exact ⟨i + 1, sn2, A2', c2', rfl, by go_num, by omega, HS2.out.new_ ((Below.refl _ _).drew), HA2.out, HBF2.out.drew, by have := HFU.out; omega⟩
           case measure => simp [intOf] <;> omega
       · have HH := Lib.hid hh
         clear hh p0 y0 y1 y2
         have HFF := Lib.hid (show frsh l (L.take i) = frsh l (L.take (i + 1)) by rw [HTK.out, frsh_snoc, if_pos HH.out])
         have HS1' := Lib.hid (show SymSet V1 k sn A c (frsh l (L.take (i + 1))) by rw [← HFF.out]; exact HS1.out)
         have p0 : V1.cell? ⟨w.heap.size, 0, none⟩ = some (.pointer (some ⟨T.b, 0, none⟩)) := (HX1'.out.cell 0).trans rfl
         have hbVV := HB01.out.trans (HBF1.out.mono hz01)
         have HBVV := Lib.hid hbVV
         have HTV := Lib.hid (HT.out.below hbVV)
         have hBV := HB.out.below hbVV
         have p0 : V1.cell? ⟨w.heap.size, 0, none⟩ = some (.pointer (some ⟨T.b, 0, none⟩)) := ((HX1.out.new_ HBF1.out).cell 0).trans rfl
         have s0 : V1.cell? ⟨T.b, 0, none⟩ = some (.int .i64 T.room) := (hBV.1.cell 0).trans rfl
         have s1 : V1.cell? ⟨T.b, 1, none⟩ = some (.pointer (some ⟨T.bs, 0, none⟩)) := (hBV.1.cell 1).trans rfl
         have hxV := (HX1.out.new_ HBF1.out).lt
         have hbV := hBV.1.lt
         have v1 : IntKind.i64.wrap (T.room - (l.length : Int)) = T.room - (l.length : Int) := IntWalk.i64_in _ (by omega)
         clear hbVV hBV
         by_cases hfull : T.room - (l.length : Int) < ((frsh l (L.take (i + 1))).length : Int)
         · have t1 : decide (T.room - (l.length : Int) < ((frsh l (L.take (i + 1))).length : Int)) = true := by simpa using hfull
           have HFU := Lib.hid hfull
           clear hfull
           go_wp2_with fail
           refine wp_region_E (fun w9 => Below V1.heap.size V1 w9) [(0, 0), (2, 1), (3, 0), (4, 0), (5, 1), (6, 1), (7, 0), (8, 0), (9, 1), (1, 2), (10, 2), (11, 0), (12, 0)] (by kernel_rfl) (by kernel_rfl) (fun KK hKK => ?_)
           simp only [beside, List.filterMap_cons, List.filterMap_nil, List.getElem?_toArray, List.getElem?_cons_zero, List.getElem?_cons_succ, Option.map_some]
           repeat ((first | (refine wpX_w ?_ (Or.inl ⟨by rfl, fun w9 => ?_⟩) ?_; rotate_left 1; go_simp; with_reducible rfl) | (refine wpX_l ?_ (((Below.refl _ _).drew)) (Or.inl ⟨by rfl, fun w9 hw9 => ?_⟩) ?_; rotate_left 1; obtain ⟨hc9, hf9⟩ := bcell hw9; go_simp; with_reducible rfl) | refine wpX_w undef (Or.inr ⟨by rfl, rfl⟩) ?_ | refine wpX_l undef (((Below.refl _ _).drew)) (Or.inr ⟨by rfl, rfl⟩) ?_); go_frame)
           refine wpX_es (fun K9 hK9 => ?_)
           go_simp
           refine (len_Sym k _ _ _ (frsh l (L.take (i + 1))) _ (HS1'.out.new_ ((Below.refl _ _).drew))).mono ?_
           rintro e wx ⟨rfl, rfl⟩
           refine hK9 _ _ ((Below.refl _ _).drew) ?_
           clear hK9 K9
           refine wpX_es (fun K9 hK9 => ?_)
           go_simp
           refine (len_Sym T.bs _ _ _ l _ ((HTV.out.below ((Below.refl _ _).drew)).syms.at_ T.bs l HS.out)).mono ?_
           rintro e wx ⟨rfl, rfl⟩
           refine hK9 _ _ ((Below.refl _ _).drew) ?_
           clear hK9 K9
           repeat ((first | (refine wpX_w ?_ (Or.inl ⟨by rfl, fun w9 => ?_⟩) ?_; rotate_left 1; go_simp; with_reducible rfl) | (refine wpX_l ?_ (((Below.refl _ _).drew)) (Or.inl ⟨by rfl, fun w9 hw9 => ?_⟩) ?_; rotate_left 1; obtain ⟨hc9, hf9⟩ := bcell hw9; go_simp; with_reducible rfl) | refine wpX_w undef (Or.inr ⟨by rfl, rfl⟩) ?_ | refine wpX_l undef (((Below.refl _ _).drew)) (Or.inr ⟨by rfl, rfl⟩) ?_); go_frame)
           refine wpX_nil ?_
           simp only [OnlyN_normal]
           refine hKK _ _ ?_
           clear hKK KK
           go_wp2_with fail
           refine ⟨_, results_tmp rfl _ _ _, ?_⟩
           unfold TPut
           have h1 := length_frsh HSO.out L
           have h2 := length_frsh_take l L (i + 1)
           have h3 := HFU.out
           rw [HE.out, if_pos rfl, if_pos (by omega)]
           exact ⟨rfl, HBVV.out.drew⟩
         · have t1 : decide (T.room - (l.length : Int) < ((frsh l (L.take (i + 1))).length : Int)) = false := by simpa using hfull
           have HFU := Lib.hid hfull
           clear hfull
           go_wp2_with fail
           refine wp_region_E (fun w9 => Below V1.heap.size V1 w9) [(0, 0), (2, 1), (3, 0), (4, 0), (5, 1), (6, 1), (7, 0), (8, 0), (9, 1), (1, 2), (10, 2), (11, 0), (12, 0)] (by kernel_rfl) (by kernel_rfl) (fun KK hKK => ?_)
           simp only [beside, List.filterMap_cons, List.filterMap_nil, List.getElem?_toArray, List.getElem?_cons_zero, List.getElem?_cons_succ, Option.map_some]
           repeat ((first | (refine wpX_w ?_ (Or.inl ⟨by rfl, fun w9 => ?_⟩) ?_; rotate_left 1; go_simp; with_reducible rfl) | (refine wpX_l ?_ (((Below.refl _ _).drew)) (Or.inl ⟨by rfl, fun w9 hw9 => ?_⟩) ?_; rotate_left 1; obtain ⟨hc9, hf9⟩ := bcell hw9; go_simp; with_reducible rfl) | refine wpX_w undef (Or.inr ⟨by rfl, rfl⟩) ?_ | refine wpX_l undef (((Below.refl _ _).drew)) (Or.inr ⟨by rfl, rfl⟩) ?_); go_frame)
           refine wpX_es (fun K9 hK9 => ?_)
           go_simp
           refine (len_Sym k _ _ _ (frsh l (L.take (i + 1))) _ (HS1'.out.new_ ((Below.refl _ _).drew))).mono ?_
           rintro e wx ⟨rfl, rfl⟩
           refine hK9 _ _ ((Below.refl _ _).drew) ?_
           clear hK9 K9
           refine wpX_es (fun K9 hK9 => ?_)
           go_simp
           refine (len_Sym T.bs _ _ _ l _ ((HTV.out.below ((Below.refl _ _).drew)).syms.at_ T.bs l HS.out)).mono ?_
           rintro e wx ⟨rfl, rfl⟩
           refine hK9 _ _ ((Below.refl _ _).drew) ?_
           clear hK9 K9
           repeat ((first | (refine wpX_w ?_ (Or.inl ⟨by rfl, fun w9 => ?_⟩) ?_; rotate_left 1; go_simp; with_reducible rfl) | (refine wpX_l ?_ (((Below.refl _ _).drew)) (Or.inl ⟨by rfl, fun w9 hw9 => ?_⟩) ?_; rotate_left 1; obtain ⟨hc9, hf9⟩ := bcell hw9; go_simp; with_reducible rfl) | refine wpX_w undef (Or.inr ⟨by rfl, rfl⟩) ?_ | refine wpX_l undef (((Below.refl _ _).drew)) (Or.inr ⟨by rfl, rfl⟩) ?_); go_frame)
           refine wpX_nil ?_
           simp only [OnlyN_normal]
           refine hKK _ _ ?_
           clear hKK KK
           go_wp2_with fail
           go_roundw
           case rel => exact ⟨i + 1, sn, A, c, rfl, by go_num, by omega, HS1'.out.new_ ((Below.refl _ _).drew), HAf.out, HBF1.out.drew, by have := HFU.out; omega⟩
           case measure => simp [intOf] <;> omega
     · have hie : i = L.length := by omega
       subst hie
       obtain ⟨w4, hw4⟩ : ∃ w4, w4 = wr := ⟨_, rfl⟩
       rw [← hw4] at HSf HBf HXf HBw hzf ⊢
       clear hw4
       rw [List.take_length] at HSf hroom
       go_wp2_with fail
       refine (mkall_Sym k w4).mono ?_
       rintro e w5 ⟨rfl, hb5, hbox5⟩
       have hz5 := hb5.size
       have hbw5 := HBw.out.trans (hb5.mono HBw.out.size)
       have hS5 := HSf.out.new_ hb5
       have hX5 := HXf.out.new_ hb5
       have hSQ := seq_all_Sym w4.heap.size k _ _ _ _ w5 hbox5 hS5
       have HSQ := Lib.hid hSQ
       have HB5 := Lib.hid hbw5
       have HS5 := Lib.hid hS5
       have HX5 := Lib.hid hX5
       have hkl := hS5.lt
       have HA5 := Lib.hid hS5.row_lt
       clear hSQ hbw5 hS5 hX5 hb5 hbox5 HSf HBf HXf HBw
       have hof := Off.new_ HT.out.syms (show w.heap.size ≤ k by omega)
       have hof2 := Off.new_ HT.out.pages (show w.heap.size ≤ k by omega)
       have hXl := HX5.out.lt
       have HOF := Lib.hid (⟨hof, hof2⟩ : Off k S σ ∧ Off k S2 σ2)
       clear hof hof2
       go_wp2_with fail
       obtain ⟨D3, hD3⟩ : ∃ D3 : Nat → Prop, D3 = fun j => D j ∨ (w.heap.size ≤ j ∧ j < w5.heap.size) := ⟨_, rfl⟩
       obtain ⟨I, hI⟩ : ∃ I : List Sym → World → Prop, I = fun p W => (∃ σ' σ2', Tabs D3 W (upd S T.bs (some (puts cmpSym l p))) σ' (upd S2 T.bp (some (p.foldl tputM m))) σ2' ∧ ∀ j, j < w.heap.size → Off j S σ → Off j S2 σ2 → Off j (upd S T.bs (some (puts cmpSym l p))) σ' ∧ Off j (upd S2 T.bp (some (p.foldl tputM m))) σ2') ∧ KB w W ∧ Fr (fun j => ¬ D j) w W ∧ W.cell? ⟨w.heap.size, 0, none⟩ = some (.pointer (some ⟨T.b, 0, none⟩)) := ⟨_, rfl⟩
       have hws : w.heap.size ≤ w5.heap.size := HB5.out.size
       refine (wpIn_wide (n := 0)).1 ?_
       refine wpIn_range (w := w5) (by rfl) HSQ.out.enter HSQ.out.iter (fun x => by rfl) HSQ.out.trans HSQ.out.keep (fun W W1 h => keepsFrom_of_fr (HSQ.out.mods W W1 h)) I (fun _ _ _ => False) ?_ (fun _ _ _ _ h => h.elim) ?_ ?_ ?_ ?_
       · subst hI
         rintro p X Y ⟨⟨σ', σ2', g1, g2⟩, g3, g4, g5⟩ hp
         exact ⟨⟨σ', σ2', g1.priv hp, g2⟩, g3.priv hp, g4.priv hp hws, cell_priv g5 hp⟩
       · intro W W1 hW hs
         subst hI
         have hbW := HB5.out.trans (hW.mono hws)
         have g1 := HT.out.protect hbW
         have g2 := (g1.off HOF.out.1 HOF.out.2 hs.fr).weaken (D' := D3) (fun j hj => by
          rw [hD3] at hj
          have := hW.size
          rcases hj with hj | hj
          · exact .inl hj
          · exact .inr ⟨hj.1, by omega⟩)
         refine ⟨⟨σ, σ2, ?_, fun j hj h1 h2 => ?_⟩, ?_, ?_, ?_⟩
         · simp only [puts, List.foldl_nil]
           rw [upd_id _ _ _ HS.out, upd_id _ _ _ HP.out]; exact g2
         · simp only [puts, List.foldl_nil]
           rw [upd_id _ _ _ HS.out, upd_id _ _ _ HP.out]; exact ⟨h1, h2⟩
         · exact (KB.of_below hbW).trans (KB.of_sym (HS5.out.new_ hW) (hs.fr.mono (fun j _ hj => .inl hj)))
         · exact (Fr.of_new hbW).trans (hs.fr.mono (fun j _ hj hd => by have := HT.out.syms.low j hd; omega))
         · exact (hs.fr.cell (p := ⟨w.heap.size, 0, none⟩) (Nat.lt_of_lt_of_le hXl hW.size) (fun e => by dsimp only at e; omega)).trans (((HX5.out.new_ hW).cell 0).trans rfl)
       · intro lo pre x post W hx hlo hIW
         have hx' : (frsh l L).length = pre.length + (post.length + 1) := by rw [hx]; simp
         have hxv : validB x = true := by
          have h1 : x ∈ frsh l L := by rw [hx]; simp
          exact List.all_eq_true.1 HE.out x (mem_frsh.1 h1).1
         have HXV := Lib.hid hxv
         clear hx hxv
         rw [hI] at hIW
         obtain ⟨⟨σ', σ2', g1, g2⟩, g3, g4, g5⟩ := hIW
         have HI := Lib.hid hI
         have G1 := Lib.hid g1
         have G2 := Lib.hid g2
         have G3 := Lib.hid g3
         have G4 := Lib.hid g4
         have G5 := Lib.hid g5
         have HD3 := Lib.hid hD3
         clear g1 g2 g3 g4 g5 hI hD3
         simp only [encSym, Array.zip]
         gi_wp2_with fail
         refine ⟨KeepsFrom.alloc_ (keepsFrom_same _ _) _, fun W3 hp3 hz3 _ => ?_⟩
         have hx3 : Blk W3 W.heap.size 23 #[.int .i64 x.kind, .string x.text, .int .i64 x.n] := (Blk.new W 23 #[.int .i64 x.kind, .string x.text, .int .i64 x.n]).priv hp3
         have x0 : W3.cell? ⟨W.heap.size, 0, none⟩ = some (.int .i64 x.kind) := (hx3.cell 0).trans rfl
         have x1 : W3.cell? ⟨W.heap.size, 1, none⟩ = some (.string x.text) := (hx3.cell 1).trans rfl
         have x2 : W3.cell? ⟨W.heap.size, 2, none⟩ = some (.int .i64 x.n) := (hx3.cell 2).trans rfl
         have hba : Below W.heap.size W (W.alloc (.cells #[.int .i64 x.kind, .string x.text, .int .i64 x.n] 23)) := (Below.refl _ _).alloc (Nat.le_refl _) _
         have s3 := (G1.out.below hba).priv hp3
         have b3 := ((HB.out.kb G3.out).below hba).priv hp3
         have c3 : W3.cell? ⟨w.heap.size, 0, none⟩ = some (.pointer (some ⟨T.b, 0, none⟩)) := cell_priv ((hba.cell (World.block_lt_of_cell? _ _ G5.out)).trans G5.out) hp3
         have hcl3 := World.block_lt_of_cell? _ _ c3
         have hxl3 := hx3.lt
         have S3 := Lib.hid s3
         have B3 := Lib.hid b3
         have C3 := Lib.hid c3
         have P3 := Lib.hid hp3
         clear s3 b3 hx3 hp3 hz3 hba
         gi_wp2_with fail
         refine ⟨trivial, rfl, ?_⟩
         have hlen : (((puts cmpSym l pre).length : Nat) : Int) ≤ 1000000 := by
          have := length_puts_le tc_sym pre HSO.out
          omega
         have hlen2 : (((pre.foldl tputM m).length : Nat) : Int) ≤ 1000000 := by
          have := length_tputMs pre m
          omega
         refine (callsIn_wide.2 (tabput T (puts cmpSym l pre) (pre.foldl tputM m) x S3.out.quiet B3.out (upd_same _ _ _) (upd_same _ _ _) HXV.out hlen hlen2)).mono ?_
         rintro e W4 ⟨rfl, ⟨σ4, σ5, s4, ho4⟩, hK4, hF4⟩
         rw [upd_upd, upd_upd] at s4 ho4
         have k4 := keeps_quiet hF4 w5.heap.size
         have hF4' : Fr (fun j => ¬ D3 j) W3 W4 := hF4.mono (fun j _ hj hd => hj (.inl hd))
         have hDp : D3 w.heap.size := by rw [HD3.out]; exact .inr ⟨Nat.le_refl _, hXl⟩
         have c4 : W4.cell? ⟨w.heap.size, 0, none⟩ = some (.pointer (some ⟨T.b, 0, none⟩)) := (hF4'.cell hcl3 (fun h => h hDp)).trans C3.out
         have S4 := Lib.hid (s4.weaken (D' := D3) (fun j hj => .inl hj))
         have O4 := Lib.hid ho4
         have C4 := Lib.hid c4
         have K4 := Lib.hid k4
         have F4 := Lib.hid hF4'
         have KB4 := Lib.hid hK4
         have hz4 := hF4.size
         clear s4 ho4 c4 k4 hF4 hF4' hK4 c3 hDp
         gi_wp2_with fail
         have hI := HI.out
         subst hI
         have hpr : Fr (fun j => ¬ D j) W W3 := ((Fr.refl _ W).alloc _).into (Fr.of_priv P3.out) (fun j hj => .inl (fun hd => by have := HT.out.syms.low j hd; omega))
         have hws4 : w.heap.size ≤ W3.heap.size := by omega
         refine ⟨K4.out, ⟨Nat.le_trans hpr.size hz4, fun q hq hlt => ?_⟩, ⟨σ4, σ5, ?_, ?_⟩, ?_, ?_, C4.out⟩
         · have e1 := F4.out.block q.block (Nat.lt_of_lt_of_le hlt hpr.size) (fun h => h (by rw [HD3.out]; exact .inr ⟨by have := HAf.out q hq; omega, HA5.out q hq⟩))
           have e2 := P3.out.block q.block (by simp; omega) (.inl (HA5.out q hq))
           exact e1.trans (e2.trans (Below.heap_alloc W _ _ hlt))
         · rw [puts_snoc, List.foldl_append]; exact S4.out
         · intro j hj h1 h2
           rw [puts_snoc, List.foldl_append]
           obtain ⟨h3, h4⟩ := G2.out j hj h1 h2
           exact O4.out j (by omega) h3 h4
         · exact ((G3.out.trans (KB.of_below ((Below.refl _ _).alloc (Nat.le_refl _) _))).priv P3.out).trans KB4.out
         · exact (G4.out.trans hpr).trans (F4.out.mono (fun j _ hj hd => hj (by rw [HD3.out]; exact .inl hd)))
       · intro Dd W hDd hIW hK
         subst hI
         obtain ⟨⟨σ', σ2', g1, g2⟩, g3, g4, g5⟩ := hIW
         have G1 := Lib.hid g1
         have G2 := Lib.hid g2
         have G3 := Lib.hid g3
         have G4 := Lib.hid g4
         have HK := Lib.hid hK
         have HD3 := Lib.hid hD3
         clear g1 g2 g3 g4 g5 hK hD3
         go_wp2_with fail
         refine ⟨by simp, .inl ⟨_, _, rfl, run_takeDeferred HK.out, ?_⟩⟩
         have hpv : Priv w5.heap.size W (W.putObj Dd (.deferred none)) := (Priv.refl _ _).putObj hDd HK.out rfl _
         refine ⟨_, results_tmp rfl _ _ _, ?_⟩
         unfold TPut
         have h1 := length_frsh HSO.out L
         have h2 := G1.out
         have h3 := G2.out
         rw [puts_frsh HSO.out] at h2 h3
         rw [HE.out, if_pos rfl, if_neg (by omega)]
         exact ⟨rfl, ⟨σ', σ2', (h2.priv hpv).weaken (fun j hj => by rw [HD3.out]; exact .inl hj), h3⟩, G3.out.priv hpv, G4.out.priv hpv hws⟩
       · intro Dd c pre post W _ _ h
         exact h.elim
end
end Go.Proofs.YtpndmjabjjbefaaGreat
namespace Go.Proofs.YtpndmjabjjbefaaGreat
open Go.RowKit Go.Shelf
section
variable {D : Nat → Prop} {w : World} {S : Nat → Option (List Sym)} {σ : Nat → St} {S2 : Nat → Option (List Page)} {σ2 : Nat → St}
theorem Off.cloned {α : Type} {S : Nat → Option (List α)} {σ σ' : Nat → St} {q b k : Nat} {l : List α} (h : Off q S σ) (hb : S b = some l) (e1 : ∀ j, j ≠ k → j ≠ b → σ' j = σ j) (e2 : (σ' b).A = (σ b).A) (e3 : (σ' k).A = (σ b).A) (hqk : q ≠ k) : Off q (upd S k (some l)) σ' := by
 intro b' m hm
 by_cases e : b' = k
 · subst e
   rw [e3]
   exact ⟨Ne.symm hqk, (h b l hb).2⟩
 · rw [upd_ne _ _ e] at hm
   by_cases e' : b' = b
   · subst e'
     rw [e2]
     exact h b' m hm
   · rw [e1 _ e e']
     exact h b' m hm
def MapCloned (D : Nat → Prop) (w : World) (S : Nat → Option (List Sym)) (σ : Nat → St) (S2 : Nat → Option (List Page)) (σ2 : Nat → St) (m : List Page) (e : Ending) (w' : World) : Prop :=
 ∃ bm bp, e = .returned (.pointer (some ⟨bm, 0, none⟩)) ∧ Blk w' bm 137 #[.pointer (some ⟨bp, 0, none⟩)] ∧ (∃ σ2', Tabs D w' S σ (upd S2 bp (some m)) σ2' ∧ ∀ k, k < w.heap.size → Off k S2 σ2 → Off k (upd S2 bp (some m)) σ2') ∧ KB w w' ∧ Fr (fun k => ¬ D k) w w' ∧ w.heap.size ≤ bm ∧ w.heap.size ≤ bp
set_option maxRecDepth 100000 in
set_option maxHeartbeats 2000000 in
theorem mapclone_is (bm bp : Nat) (m : List Page) (hT : Tabs D w S σ S2 σ2) (hM : Blk w bm 137 #[.pointer (some ⟨bp, 0, none⟩)]) (hb : S2 bp = some m) :
 Calls Tryz.prog 76 #[.pointer (some ⟨bm, 0, none⟩)] w (MapCloned D w S σ S2 σ2 m) := by
 have s0 := (hM.cell 0).trans rfl
 have hml := hM.lt
 have HT := Lib.hid hT
 have HS := Lib.hid hb
 clear hT hM hb
 go_enter Tryz.func76, Tryz.ntmps76
 go_wp2_with fail
 refine (sClone_Page HT.out.pages HS.out).mono ?_
 rintro e w1 ⟨k, rfl, hk, _, σ2', h1, g1, _, g2, _, g3, hF, hFb⟩
 have HOF := Lib.hid (fun q (hq : q < w.heap.size) (ho : Off q S2 σ2) => Off.cloned (k := k) ho HS.out g1 g2 g3 (by omega))
 clear g1 g2 g3
 have h2 := HT.out.syms.other (HT.out.pages.at_ bp m HS.out) (by decide) (by decide) (by decide) (by decide) (hFb.mono (M' := SetMod bp (σ2 bp).sn (σ2 bp).A) (fun j _ hj => .inl hj))
 have h3 := KB.of_page (HT.out.pages.at_ bp m HS.out) (hFb.mono (M' := SetMod bp (σ2 bp).sn (σ2 bp).A) (fun j _ hj => .inl hj))
 have H1 := Lib.hid (show Tabs D w1 S σ (upd S2 k (some m)) σ2' from ⟨h2, h1⟩)
 have H3 := Lib.hid h3
 have HF := Lib.hid hF
 clear h1 h2 h3 hF hFb
 go_wp2_with fail
 go_ret
 have hn : Below w1.heap.size w1 (w1.alloc (.cells #[.pointer (some ⟨k, 0, none⟩)] 137)) := (Below.refl _ _).alloc (Nat.le_refl _) _
 exact ⟨w1.heap.size, k, rfl, Blk.new _ _ _, ⟨σ2', H1.out.below hn, HOF.out⟩, H3.out.trans (KB.of_below hn), HF.out.trans (Fr.of_new hn), HF.out.size, hk⟩
def TabCloned (D : Nat → Prop) (w : World) (S : Nat → Option (List Sym)) (σ : Nat → St) (S2 : Nat → Option (List Page)) (σ2 : Nat → St) (T : TB) (l : List Sym) (m : List Page) (e : Ending) (w' : World) : Prop :=
 ∃ T' : TB, e = .returned (.pointer (some ⟨T'.b, 0, none⟩)) ∧ T'.room = T.room ∧ TabBlk w' T' ∧ (∃ σ' σ2', Tabs D w' (upd S T'.bs (some l)) σ' (upd S2 T'.bp (some m)) σ2' ∧ ∀ k, k < w.heap.size → Off k S σ → Off k S2 σ2 → Off k (upd S T'.bs (some l)) σ' ∧ Off k (upd S2 T'.bp (some m)) σ2') ∧ KB w w' ∧ Fr (fun k => ¬ D k) w w' ∧ w.heap.size ≤ T'.bs ∧ w.heap.size ≤ T'.bp
set_option maxRecDepth 100000 in
set_option maxHeartbeats 4000000 in
theorem tabclone_is (T : TB) (l : List Sym) (m : List Page) (hT : Tabs D w S σ S2 σ2) (hB : TabBlk w T) (hb : S T.bs = some l) (hb2 : S2 T.bp = some m) :
 Calls Tryz.prog 54 #[.pointer (some ⟨T.b, 0, none⟩)] w (TabCloned D w S σ S2 σ2 T l m) := by
 have HT := Lib.hid hT
 have HB := Lib.hid hB
 have HS := Lib.hid hb
 have HP := Lib.hid hb2
 clear hT hB hb hb2
 go_enter Tryz.func54, Tryz.ntmps54
 go_wp2_with fail
 refine wp_region_E (fun w9 => TabBlk w9 T) [(0, 0), (1, 0), (2, 0), (3, 1), (4, 0), (5, 0), (6, 0), (7, 1), (9, 0), (10, 0), (11, 0), (12, 1), (8, 2), (13, 2), (14, 0), (15, 2), (16, 0)] (by kernel_rfl) (by kernel_rfl) (fun KK hKK => ?_)
 simp only [beside, List.filterMap_cons, List.filterMap_nil, List.getElem?_toArray, List.getElem?_cons_zero, List.getElem?_cons_succ, Option.map_some]
 repeat ((first | (refine wpX_w ?_ (Or.inl ⟨by rfl, fun w9 => ?_⟩) ?_; rotate_left 1; go_simp; with_reducible rfl) | (refine wpX_l ?_ ((HB.out.below ((Below.refl _ _).drew))) (Or.inl ⟨by rfl, fun w9 hw9 => ?_⟩) ?_; rotate_left 1; have l0 := (hw9.1.cell 0).trans rfl; have l1 := (hw9.1.cell 1).trans rfl; have l2 := (hw9.1.cell 2).trans rfl; have lb := hw9.1.lt; go_simp; with_reducible rfl) | refine wpX_w undef (Or.inr ⟨by rfl, rfl⟩) ?_ | refine wpX_l undef ((HB.out.below ((Below.refl _ _).drew))) (Or.inr ⟨by rfl, rfl⟩) ?_); go_frame)
 refine wpX_es (fun K9 hK9 => ?_)
 go_simp
 refine (sClone_Sym (HT.out.below ((Below.refl _ _).drew)).syms HS.out).mono ?_
 rintro e w1 ⟨k, rfl, hk, _, σ1, h1, g1, _, g2, _, g3, hF, hFb⟩
 have HOF1 := Lib.hid (fun q (hq : q < w.heap.size) (ho : Off q S σ) => Off.cloned (k := k) ho HS.out g1 g2 g3 (by have : w.heap.size ≤ k := (by simpa using hk); omega))
 clear g1 g2 g3
 have hT0 := HT.out.below ((Below.refl w.heap.size w).drew)
 have h2 := hT0.pages.other (hT0.syms.at_ T.bs l HS.out) (by decide) (by decide) (by decide) (by decide) (hFb.mono (M' := SetMod T.bs (σ T.bs).sn (σ T.bs).A) (fun j _ hj => .inl hj))
 have h3 := KB.of_sym (hT0.syms.at_ T.bs l HS.out) (hFb.mono (M' := SetMod T.bs (σ T.bs).sn (σ T.bs).A) (fun j _ hj => .inl hj))
 have H1 := Lib.hid (show Tabs D w1 (upd S k (some l)) σ1 S2 σ2 from ⟨h1, h2⟩)
 have HK1 := Lib.hid ((KB.of_below ((Below.refl w.heap.size w).drew)).trans h3)
 have HF1 := Lib.hid ((Fr.refl _ w).drew.trans hF)
 have hk : w.heap.size ≤ k := (by simpa using hk)
 have HB1 := Lib.hid (HB.out.kb HK1.out)
 clear hT0 h1 h2 h3 hF hFb
 refine hK9 _ _ HB1.out ?_
 clear hK9 K9
 refine wpX_es (fun K9 hK9 => ?_)
 go_simp
 refine (mapclone_is T.bm T.bp m H1.out HB1.out.2 HP.out).mono ?_
 rintro e w2 ⟨bm, bp, rfl, hM, ⟨σ3, h2, hof⟩, hK, hF, hbm, hbp⟩
 have HOF2 := Lib.hid hof
 clear hof
 have H2 := Lib.hid h2
 have HM := Lib.hid hM
 have HK2 := Lib.hid (HK1.out.trans hK)
 have HF2 := Lib.hid (HF1.out.trans hF)
 have HB2 := Lib.hid (HB1.out.kb hK)
 clear h2 hM hK hF
 refine hK9 _ _ HB2.out ?_
 clear hK9 K9
 repeat ((first | (refine wpX_w ?_ (Or.inl ⟨by rfl, fun w9 => ?_⟩) ?_; rotate_left 1; go_simp; with_reducible rfl) | (refine wpX_l ?_ (HB2.out) (Or.inl ⟨by rfl, fun w9 hw9 => ?_⟩) ?_; rotate_left 1; have l0 := (hw9.1.cell 0).trans rfl; have l1 := (hw9.1.cell 1).trans rfl; have l2 := (hw9.1.cell 2).trans rfl; have lb := hw9.1.lt; go_simp; with_reducible rfl) | refine wpX_w undef (Or.inr ⟨by rfl, rfl⟩) ?_ | refine wpX_l undef (HB2.out) (Or.inr ⟨by rfl, rfl⟩) ?_); go_frame)
 refine wpX_e (by kernel_rfl) (fun K9 hK9 => ?_)
 go_simp
 refine hK9 _ _ ?_
 clear hK9 K9
 repeat ((first | (refine wpX_w ?_ (Or.inl ⟨by rfl, fun w9 => ?_⟩) ?_; rotate_left 1; go_simp; with_reducible rfl) | (refine wpX_l ?_ (HB2.out) (Or.inl ⟨by rfl, fun w9 hw9 => ?_⟩) ?_; rotate_left 1; have l0 := (hw9.1.cell 0).trans rfl; have l1 := (hw9.1.cell 1).trans rfl; have l2 := (hw9.1.cell 2).trans rfl; have lb := hw9.1.lt; go_simp; with_reducible rfl) | refine wpX_w undef (Or.inr ⟨by rfl, rfl⟩) ?_ | refine wpX_l undef (HB2.out) (Or.inr ⟨by rfl, rfl⟩) ?_); go_frame)
 refine wpX_nil ?_
 simp only [OnlyN_normal]
 refine hKK _ _ ?_
 clear hKK KK
 go_wp2_with fail
 go_ret
 have hn : Below w2.heap.size w2 (w2.alloc (.cells #[.int .i64 T.room, .pointer (some ⟨k, 0, none⟩), .pointer (some ⟨bm, 0, none⟩)] 111)) := (Below.refl _ _).alloc (Nat.le_refl _) _
 exact ⟨⟨w2.heap.size, T.room, k, bm, bp⟩, rfl, rfl, ⟨Blk.new _ _ _, HM.out.new_ hn⟩, ⟨σ1, σ3, H2.out.below hn, fun q hq o1 o2 => ⟨HOF1.out q hq o1, HOF2.out q (Nat.lt_of_lt_of_le hq HF1.out.size) o2⟩⟩, HK2.out.trans (KB.of_below hn), HF2.out.trans (Fr.of_new hn), hk, by have := HF1.out.size; dsimp only; omega⟩
end
end Go.Proofs.YtpndmjabjjbefaaGreat
namespace Go.Proofs.YtpndmjabjjbefaaGreat
open Go.RowKit Go.Shelf
structure TabSt (W : World) (S : Nat → Option (List Sym)) (S2 : Nat → Option (List Page)) (T : TB) (L : List Sym) (m : List Page) : Prop where
 blk : TabBlk W T
 bs : S T.bs = some L
 bp : S2 T.bp = some m
 ti : TI L m
 srt : Srt cmpSym L
 val : ∀ s ∈ L, validB s = true
 len : (L.length : Int) ≤ T.room
 r1 : 1 ≤ T.room
 r2 : T.room ≤ 4096
def putCode (room : Int) (L X : List Sym) : Int := if X.all validB = true then (if room < ((puts cmpSym L X).length : Int) then 20 else 0) else 9
def putList (room : Int) (L X : List Sym) : List Sym := if X.all validB = true then (if room < ((puts cmpSym L X).length : Int) then L else puts cmpSym L X) else L
def zsym : Sym := ⟨0, ⟨#[]⟩, 0⟩
def freshE (room : Int) (L : List Sym) (c : UInt8) : Int := if nextL L c = 0 then 1 else if room ≤ (L.length : Int) ∨ 1048576 < nextL L c then 20 else 0
def freshS (room : Int) (L : List Sym) (c : UInt8) : Sym := if freshE room L c = 0 then ⟨1, letB c, nextL L c⟩ else zsym
def freshL (room : Int) (L : List Sym) (c : UInt8) : List Sym := if freshE room L c = 0 then put cmpSym L ⟨1, letB c, nextL L c⟩ else L
theorem nextL_pos {L : List Sym} {c : UInt8} (h : greatB c = true) : 1 ≤ nextL L c := by unfold nextL; rw [if_pos h]; have := maxL_nonneg L c; omega
theorem fresh_not {L : List Sym} {c : UInt8} (hg : greatB c = true) : has cmpSym L ⟨1, letB c, nextL L c⟩ = false := by
 rw [hasNot]
 intro hm
 have h5 := (maxL_le.1 (Int.le_refl (maxL L c))).2 _ hm ⟨rfl, rfl⟩
 have h6 : nextL L c = maxL L c + 1 := by unfold nextL; rw [if_pos hg]
 dsimp only at h5
 omega
theorem nextL_zero {L : List Sym} {c : UInt8} (h : greatB c = false) : nextL L c = 0 := by unfold nextL; simp [h]
section
variable {D D' : Nat → Prop} {W W' : World} {T : TB} {L : List Sym}
theorem TabSt.blk_ {S : Nat → Option (List Sym)} {S2 : Nat → Option (List Page)} {m : List Page} (h : TabSt W S S2 T L m) (hb : TabBlk W' T) : TabSt W' S S2 T L m := ⟨hb, h.bs, h.bp, h.ti, h.srt, h.val, h.len, h.r1, h.r2⟩
theorem Tabs.off_blk {S : Nat → Option (List Sym)} {σ : Nat → St} {S2 : Nat → Option (List Page)} {σ2 : Nat → St} {k : Nat} {t : TypeId} {cs : Array Value} (h : Tabs D W S σ S2 σ2) (hB : Blk W k t cs) (h1 : t ≠ 131) (h2 : t ≠ 23) (h3 : t ≠ 161) (h4 : t ≠ 135) : Off k S σ ∧ Off k S2 σ2 := by
 refine ⟨fun b l hb => ⟨fun e => ?_, fun a ha e => ?_⟩, fun b l hb => ⟨fun e => ?_, fun a ha e => ?_⟩⟩
 · exact hB.ne_ (h.syms.at_ b l hb).blk h1 e.symm
 · have := own_blk_ne (h.syms.at_ b l hb).row hB (Ne.symm h2)
   rw [ha] at this
   exact this (by simp [Value.ownBlock, e])
 · exact hB.ne_ (h.pages.at_ b l hb).blk h3 e.symm
 · have := own_blk_ne (h.pages.at_ b l hb).row hB (Ne.symm h4)
   rw [ha] at this
   exact this (by simp [Value.ownBlock, e])
theorem putList_valid {room : Int} {L X : List Sym} (h : ∀ s ∈ L, validB s = true) : ∀ s ∈ putList room L X, validB s = true := by
 unfold putList
 split
 · rename_i hx
   split
   · exact h
   · intro s hs
     rw [mem_puts_iff] at hs
     rcases hs with hs | hs
     · exact h s hs
     · exact List.all_eq_true.1 hx s hs
 · exact h
end
def Out (D : Nat → Prop) (W : World) (S : Nat → Option (List Sym)) (σ : Nat → St) (S2 : Nat → Option (List Page)) (σ2 : Nat → St) (T : TB) (L' : List Sym) (W' : World) : Prop :=
 (∃ σ' σ2' m', Tabs D W' (upd S T.bs (some L')) σ' (upd S2 T.bp (some m')) σ2' ∧ TI L' m' ∧ Srt cmpSym L' ∧ (∀ s ∈ L', validB s = true) ∧ (L'.length : Int) ≤ T.room ∧ ∀ q, q < W.heap.size → Off q S σ → Off q S2 σ2 → Off q (upd S T.bs (some L')) σ' ∧ Off q (upd S2 T.bp (some m')) σ2') ∧ KB W W' ∧ Fr (fun j => ¬ D j) W W'
section
variable {D D' : Nat → Prop} {W W' : World} {T T' : TB} {L L' L1 : List Sym} {S : Nat → Option (List Sym)} {σ : Nat → St} {S2 : Nat → Option (List Page)} {σ2 : Nat → St} {m : List Page}
theorem Out.same (h1 : Tabs D W S σ S2 σ2) (h2 : TabSt W S S2 T L m) (hb : Below W.heap.size W W') : Out D W S σ S2 σ2 T L W' :=
 ⟨⟨σ, σ2, m, by rw [upd_id _ _ _ h2.bs, upd_id _ _ _ h2.bp]; exact h1.below hb, h2.ti, h2.srt, h2.val, h2.len, fun q _ o1 o2 => by rw [upd_id _ _ _ h2.bs, upd_id _ _ _ h2.bp]; exact ⟨o1, o2⟩⟩, KB.of_below hb, Fr.of_new hb⟩
set_option maxHeartbeats 1000000 in
theorem st_put (X : List Sym) (A2 : Option Addr) (c2 : Nat) (h1 : Tabs D W S σ S2 σ2) (h2 : TabSt W S S2 T L m) (hX : RowRd W 3 Sym.cells A2 c2 X) (hl : (X.length : Int) ≤ 10000) :
 Calls Tryz.prog 59 #[.pointer (some ⟨T.b, 0, none⟩), .slice A2 X.length c2] W fun e W' => e = .returned (.int .i64 (putCode T.room L X)) ∧ Out D W S σ S2 σ2 T (putList T.room L X) W' := by
 refine (tputl_is T L m X A2 c2 h1 h2.blk h2.bs h2.bp hX h2.r1 h2.r2 h2.len (page_len h2.ti.1) hl).mono ?_
 intro e W' hp
 have hval := putList_valid (room := T.room) (X := X) h2.val
 unfold TPut at hp
 unfold putList at hval ⊢
 unfold putCode
 split at hp
 · rename_i hx
   rw [if_pos hx] at hval
   rw [if_pos hx, if_pos hx]
   split at hp
   · rename_i hr
     rw [if_pos hr, if_pos hr]
     exact ⟨hp.1, Out.same h1 h2 hp.2⟩
   · rename_i hr
     rw [if_neg hr] at hval
     rw [if_neg hr, if_neg hr]
     have hti := h2.ti.puts (m := m) (frsh L X) (fun s hs => List.all_eq_true.1 hx s (mem_frsh.1 hs).1)
     rw [puts_frsh h2.srt] at hti
     obtain ⟨he, ⟨σ', σ2', g1, gof⟩, hK, hF⟩ := hp
     exact ⟨he, ⟨σ', σ2', _, g1, hti, Srt.puts tc_sym _ h2.srt, hval, by omega, gof⟩, hK, hF⟩
 · rename_i hx
   rw [if_neg hx, if_neg hx]
   exact ⟨hp.1, Out.same h1 h2 hp.2⟩
set_option maxHeartbeats 1000000 in
theorem st_fresh (c : UInt8) (h1 : Tabs D W S σ S2 σ2) (h2 : TabSt W S S2 T L m) :
 Calls Tryz.prog 55 #[.pointer (some ⟨T.b, 0, none⟩), .int .u8 (c.toNat : Int)] W fun e W' => e = .returned (.tuple #[.agg #[.int .i64 (freshS T.room L c).kind, .string (freshS T.room L c).text, .int .i64 (freshS T.room L c).n], .int .i64 (freshE T.room L c)]) ∧ Out D W S σ S2 σ2 T (freshL T.room L c) W' := by
 have hlen := h2.len
 have hr2 := h2.r2
 have hpl := page_len h2.ti.1
 cases hg : greatB c
 · have e0 : freshE T.room L c = 1 := by unfold freshE; rw [if_pos (nextL_zero hg)]
   have e1 : freshS T.room L c = zsym := by unfold freshS; rw [e0]; rfl
   have e2 : freshL T.room L c = L := by unfold freshL; rw [e0]; rfl
   rw [e0, e1, e2]
   exact (fresh_arg T c hg).mono fun e W' ⟨h3, h4⟩ => ⟨h3, Out.same h1 h2 h4⟩
 · have hp := nextL_pos (L := L) hg
   have hnb := h2.ti.next c
   by_cases hf : T.room ≤ L.length
   · have e0 : freshE T.room L c = 20 := by unfold freshE; rw [if_neg (by omega), if_pos (.inl hf)]
     have e1 : freshS T.room L c = zsym := by unfold freshS; rw [e0]; rfl
     have e2 : freshL T.room L c = L := by unfold freshL; rw [e0]; rfl
     rw [e0, e1, e2]
     exact (fresh_full T L m c h1 h2.blk h2.bs h2.bp hg hf (by omega)).mono fun e W' ⟨h3, h4⟩ => ⟨h3, Out.same h1 h2 h4⟩
   · by_cases hn : 1048576 < nextL L c
     · have e0 : freshE T.room L c = 20 := by unfold freshE; rw [if_neg (by omega), if_pos (.inr hn)]
       have e1 : freshS T.room L c = zsym := by unfold freshS; rw [e0]; rfl
       have e2 : freshL T.room L c = L := by unfold freshL; rw [e0]; rfl
       rw [e0, e1, e2]
       exact (fresh_far T L m c h1 h2.blk h2.bs h2.bp hg hf (by omega) (by omega)).mono fun e W' ⟨h3, h4⟩ => ⟨h3, Out.same h1 h2 h4⟩
     · have e0 : freshE T.room L c = 0 := by unfold freshE; rw [if_neg (by omega), if_neg (fun h => h.elim hf hn)]
       have e1 : freshS T.room L c = ⟨1, letB c, nextL L c⟩ := by unfold freshS; rw [if_pos e0]
       have e2 : freshL T.room L c = put cmpSym L ⟨1, letB c, nextL L c⟩ := by unfold freshL; rw [if_pos e0]
       have hv : validB ⟨1, letB c, nextL L c⟩ = true := valid_let hg hp (by omega)
       have hlp := length_put tc_sym h2.srt (fresh_not hg)
       rw [e0, e1, e2]
       refine (fresh_new T L m c h1 h2.blk h2.bs h2.bp hg hf (by omega) (by omega) (by omega) (by omega)).mono fun e W' ⟨h3, h4⟩ => ?_
       rw [hnb] at h3 h4
       obtain ⟨⟨σ', σ2', g1, gof⟩, hK, hF⟩ := h4
       exact ⟨h3, ⟨σ', σ2', _, g1, h2.ti.put hv, h2.srt.put tc_sym _, (fun s hs => by
        rcases mem_put_iff.1 hs with hs | rfl
        · exact h2.val s hs
        · exact hv), by rw [hlp]; omega, gof⟩, hK, hF⟩
end
end Go.Proofs.YtpndmjabjjbefaaGreat
namespace Go.Proofs.YtpndmjabjjbefaaGreat
open Go.RowKit Go.Shelf
section
variable {D : Nat → Prop} {w : World} {S : Nat → Option (List Sym)} {σ : Nat → St} {S2 : Nat → Option (List Page)} {σ2 : Nat → St}
theorem sNewC_Sym (A : Option Addr) (c : Nat) (xs : List Sym) (h : SymSets D w S σ) (hrd : RowRd w 3 Sym.cells A c xs) (hl : (xs.length : Int) ≤ 10000000) :
 Calls Tryz.prog 52 #[.slice A xs.length c] w fun e w' => ∃ k, e = .returned (.pointer (some ⟨k, 0, none⟩)) ∧ w.heap.size ≤ k ∧ (∃ σ', SymSets D w' (upd S k (some (puts cmpSym [] xs))) σ' ∧ ∀ q, q < w.heap.size → Off q S σ → Off q (upd S k (some (puts cmpSym [] xs))) σ') ∧ Below w.heap.size w w' := by
 refine (new_Sym A c xs w hrd hl).mono ?_
 rintro e w' ⟨k, he, hk, sn, A', c', h1, hA, hB⟩
 refine ⟨k, he, hk, ⟨_, h.add hk h1 (Srt.puts tc_sym xs Srt.nil) (.inl hA) hB, fun q hq ho b l hb => ?_⟩, hB⟩
 by_cases e : b = k
 · subst e
   rw [upd_same]
   exact ⟨by omega, fun a ha => by have := hA a ha; omega⟩
 · rw [upd_ne _ _ e] at hb ⊢
   exact ho b l hb
theorem sNewC_Page (A : Option Addr) (c : Nat) (xs : List Page) (h : PageSets D w S2 σ2) (hrd : RowRd w 2 Page.cells A c xs) (hl : (xs.length : Int) ≤ 10000000) :
 Calls Tryz.prog 74 #[.slice A xs.length c] w fun e w' => ∃ k, e = .returned (.pointer (some ⟨k, 0, none⟩)) ∧ w.heap.size ≤ k ∧ (∃ σ', PageSets D w' (upd S2 k (some (puts cmpPage [] xs))) σ' ∧ ∀ q, q < w.heap.size → Off q S2 σ2 → Off q (upd S2 k (some (puts cmpPage [] xs))) σ') ∧ Below w.heap.size w w' := by
 refine (new_Page A c xs w hrd hl).mono ?_
 rintro e w' ⟨k, he, hk, sn, A', c', h1, hA, hB⟩
 refine ⟨k, he, hk, ⟨_, h.add hk h1 (Srt.puts tc_page xs Srt.nil) (.inl hA) hB, fun q hq ho b l hb => ?_⟩, hB⟩
 by_cases e : b = k
 · subst e
   rw [upd_same]
   exact ⟨by omega, fun a ha => by have := hA a ha; omega⟩
 · rw [upd_ne _ _ e] at hb ⊢
   exact ho b l hb
def MadeMapC (D : Nat → Prop) (w : World) (S : Nat → Option (List Sym)) (σ : Nat → St) (S2 : Nat → Option (List Page)) (σ2 : Nat → St) (e : Ending) (w' : World) : Prop :=
 ∃ bm bp, e = .returned (.pointer (some ⟨bm, 0, none⟩)) ∧ Blk w' bm 137 #[.pointer (some ⟨bp, 0, none⟩)] ∧ (∃ σ2', Tabs D w' S σ (upd S2 bp (some [])) σ2' ∧ ∀ q, q < w.heap.size → Off q S2 σ2 → Off q (upd S2 bp (some [])) σ2') ∧ Below w.heap.size w w' ∧ w.heap.size ≤ bm ∧ w.heap.size ≤ bp
set_option maxHeartbeats 1000000 in
theorem booknewC_is (hT : Tabs D w S σ S2 σ2) : Calls Tryz.prog 53 #[] w (MadeMapC D w S σ S2 σ2) := by
 have HT := Lib.hid hT
 clear hT
 go_enter Tryz.func53, Tryz.ntmps53
 go_wp2_with fail
 refine (sNewC_Page none 0 [] HT.out.pages (RowRd.nil _ _ _) (by simp)).mono ?_
 rintro e w1 ⟨k, rfl, hk, ⟨σ', h1, hof⟩, hB⟩
 have HB := Lib.hid hB
 have HOF := Lib.hid hof
 have H1 := Lib.hid (show Tabs D w1 S σ (upd S2 k (some [])) σ' from ⟨HT.out.syms.below hB, h1⟩)
 clear hB h1 hof
 go_wp2_with fail
 go_ret
 have hz := HB.out.size
 exact ⟨w1.heap.size, k, rfl, Blk.new _ _ _, ⟨σ', H1.out.below ((Below.refl _ _).alloc (Nat.le_refl _) _), HOF.out⟩, HB.out.alloc hz _, hz, hk⟩
def MadeTabC (D : Nat → Prop) (w : World) (S : Nat → Option (List Sym)) (σ : Nat → St) (S2 : Nat → Option (List Page)) (σ2 : Nat → St) (room : Int) (e : Ending) (w' : World) : Prop :=
 ∃ T : TB, e = .returned (.tuple #[.pointer (some ⟨T.b, 0, none⟩), .int .i64 0]) ∧ T.room = room ∧ TabBlk w' T ∧ (∃ σ' σ2', Tabs D w' (upd S T.bs (some [])) σ' (upd S2 T.bp (some [])) σ2' ∧ ∀ q, q < w.heap.size → Off q S σ → Off q S2 σ2 → Off q (upd S T.bs (some [])) σ' ∧ Off q (upd S2 T.bp (some [])) σ2') ∧ Below w.heap.size w w' ∧ w.heap.size ≤ T.bs ∧ w.heap.size ≤ T.bp
set_option maxHeartbeats 1000000 in
theorem tabnewC_is (room : Int) (h1 : 1 ≤ room) (h2 : room ≤ 4096) (hT : Tabs D w S σ S2 σ2) : Calls Tryz.prog 24 #[.int .i64 room] w (MadeTabC D w S σ S2 σ2 room) := by
 have HT := Lib.hid hT
 have t1 : decide (room < 1) = false := by simp; omega
 have t2 : decide ((4096 : Int) < room) = false := by simp; omega
 clear hT h1 h2
 go_enter Tryz.func24, Tryz.ntmps24
 go_wp2_with fail
 refine (sNewC_Sym none 0 [] HT.out.syms (RowRd.nil _ _ _) (by simp)).mono ?_
 rintro e w1 ⟨k, rfl, hk, ⟨σ', h1, hof⟩, hB⟩
 have HB := Lib.hid hB
 have HOF := Lib.hid hof
 have H1 := Lib.hid (show Tabs D w1 (upd S k (some [])) σ' S2 σ2 from ⟨h1, HT.out.pages.below hB⟩)
 clear hB h1 hof
 go_wp2_with fail
 refine (booknewC_is H1.out).mono ?_
 rintro e w2 ⟨bm, bp, rfl, hM, ⟨σ2', h2, hof2⟩, hB2, hbm, hbp⟩
 have HM := Lib.hid hM
 have H2 := Lib.hid h2
 have HOF2 := Lib.hid hof2
 have hz1 := HB.out.size
 have hz2 := hB2.size
 have HB2 := Lib.hid (HB.out.trans (hB2.mono hz1))
 clear hM h2 hB2 hof2
 go_wp2_with fail
 go_ret2
 have hnew : Below w2.heap.size w2 (w2.alloc (.cells #[.int .i64 room, .pointer (some ⟨k, 0, none⟩), .pointer (some ⟨bm, 0, none⟩)] 111)) := (Below.refl _ _).alloc (Nat.le_refl _) _
 exact ⟨⟨w2.heap.size, room, k, bm, bp⟩, rfl, rfl, ⟨Blk.new _ _ _, HM.out.new_ hnew⟩, ⟨σ', σ2', H2.out.below hnew, fun q hq o1 o2 => ⟨HOF.out q hq o1, HOF2.out q (by omega) o2⟩⟩, HB2.out.alloc (by omega) _, hk, by dsimp only; omega⟩
end
end Go.Proofs.YtpndmjabjjbefaaGreat
namespace Go.Proofs.YtpndmjabjjbefaaGreat
open Go.RowKit Go.Shelf
section
variable {D D' : Nat → Prop} {W W' : World} {T T' : TB} {L L' L1 : List Sym} {S : Nat → Option (List Sym)} {σ : Nat → St} {S2 : Nat → Option (List Page)} {σ2 : Nat → St} {m : List Page}
def Offs (D : Nat → Prop) (S : Nat → Option (List Sym)) (σ : Nat → St) (S2 : Nat → Option (List Page)) (σ2 : Nat → St) : Prop := ∀ q, D q → Off q S σ ∧ Off q S2 σ2
def GT (D : Nat → Prop) (W : World) (T : TB) (L : List Sym) : Prop := ∃ S σ S2 σ2 m, Tabs D W S σ S2 σ2 ∧ Offs D S σ S2 σ2 ∧ TabSt W S S2 T L m
def GT2 (D : Nat → Prop) (W : World) (T T' : TB) (L L' : List Sym) : Prop := ∃ S σ S2 σ2 m m', Tabs D W S σ S2 σ2 ∧ Offs D S σ S2 σ2 ∧ TabSt W S S2 T L m ∧ TabSt W S S2 T' L' m' ∧ T.bs ≠ T'.bs ∧ T.bp ≠ T'.bp
def GTS (D : Nat → Prop) (W : World) (T : TB) (L : List Sym) (k : Nat) (l : List Sym) : Prop := ∃ S σ S2 σ2 m, Tabs D W S σ S2 σ2 ∧ Offs D S σ S2 σ2 ∧ TabSt W S S2 T L m ∧ S k = some l ∧ k ≠ T.bs
theorem Sets.inD {α : Type} {tSet tE size : Nat} {cells : α → List Value} {cmp : α → α → Int} {S : Nat → Option (List α)} (h : Sets tSet tE size cells cmp D W S σ) (ho : ∀ q, D q → Off q S σ) (hF : Fr D W W') : Sets tSet tE size cells cmp (fun k => D k ∨ (W.heap.size ≤ k ∧ k < W'.heap.size)) W' S σ :=
 Sets.widen (D := D) ⟨fun b l hb => (h.at_ b l hb).fr hF (fun hd => (ho b hd b l hb).1 rfl) (fun a ha hd => (ho _ hd b l hb).2 a ha rfl), h.srt, h.out, h.apart, fun k hk => Nat.lt_of_lt_of_le (h.low k hk) hF.size⟩ W.heap.size (fun b l hb => ⟨h.lt hb, fun _ a ha => (h.at_ b l hb).row_lt a ha⟩)
theorem Offs.grow (h1 : Tabs D W S σ S2 σ2) (h : Offs D S σ S2 σ2) (n : Nat) : Offs (fun k => D k ∨ (W.heap.size ≤ k ∧ k < n)) S σ S2 σ2 := fun q hq => hq.elim (h q) (fun hq => ⟨Off.new_ h1.syms hq.1, Off.new_ h1.pages hq.1⟩)
theorem Tabs.inD (h1 : Tabs D W S σ S2 σ2) (h : Offs D S σ S2 σ2) (hF : Fr D W W') : Tabs (fun k => D k ∨ (W.heap.size ≤ k ∧ k < W'.heap.size)) W' S σ S2 σ2 := ⟨h1.syms.inD (fun q hq => (h q hq).1) hF, h1.pages.inD (fun q hq => (h q hq).2) hF⟩
theorem GT.low (h : GT D W T L) : ∀ k, D k → k < W.heap.size := by
 obtain ⟨S, σ, S2, σ2, m, h1, _⟩ := h
 exact h1.syms.low
theorem GT2.low (h : GT2 D W T T' L L') : ∀ k, D k → k < W.heap.size := by
 obtain ⟨S, σ, S2, σ2, m, m', h1, _⟩ := h
 exact h1.syms.low
theorem GT.weaken (h : GT D W T L) (hD : ∀ j, D' j → D j) : GT D' W T L := by
 obtain ⟨S, σ, S2, σ2, m, h1, h2, h3⟩ := h
 exact ⟨S, σ, S2, σ2, m, h1.weaken hD, fun q hq => h2 q (hD q hq), h3⟩
theorem GT2.weaken (h : GT2 D W T T' L L') (hD : ∀ j, D' j → D j) : GT2 D' W T T' L L' := by
 obtain ⟨S, σ, S2, σ2, m, m', h1, h2, h3⟩ := h
 exact ⟨S, σ, S2, σ2, m, m', h1.weaken hD, fun q hq => h2 q (hD q hq), h3⟩
theorem GT.grow (h : GT D W T L) (hF : Fr D W W') (hK : KB W W') : GT (fun k => D k ∨ (W.heap.size ≤ k ∧ k < W'.heap.size)) W' T L := by
 obtain ⟨S, σ, S2, σ2, m, h1, h2, h3⟩ := h
 exact ⟨S, σ, S2, σ2, m, h1.inD h2 hF, h2.grow h1 _, h3.blk_ (h3.blk.kb hK)⟩
theorem GT2.grow (h : GT2 D W T T' L L') (hF : Fr D W W') (hK : KB W W') : GT2 (fun k => D k ∨ (W.heap.size ≤ k ∧ k < W'.heap.size)) W' T T' L L' := by
 obtain ⟨S, σ, S2, σ2, m, m', h1, h2, h3, h4, h5, h6⟩ := h
 exact ⟨S, σ, S2, σ2, m, m', h1.inD h2 hF, h2.grow h1 _, h3.blk_ (h3.blk.kb hK), h4.blk_ (h4.blk.kb hK), h5, h6⟩
theorem GT.new_ (h : GT D W T L) (hb : Below W.heap.size W W') : GT (fun k => D k ∨ (W.heap.size ≤ k ∧ k < W'.heap.size)) W' T L := h.grow (Fr.of_new hb) (KB.of_below hb)
theorem GT2.new_ (h : GT2 D W T T' L L') (hb : Below W.heap.size W W') : GT2 (fun k => D k ∨ (W.heap.size ≤ k ∧ k < W'.heap.size)) W' T T' L L' := h.grow (Fr.of_new hb) (KB.of_below hb)
theorem GT.below (h : GT D W T L) (hb : Below W.heap.size W W') : GT D W' T L := (h.new_ hb).weaken (fun _ hj => .inl hj)
theorem GT2.below (h : GT2 D W T T' L L') (hb : Below W.heap.size W W') : GT2 D W' T T' L L' := (h.new_ hb).weaken (fun _ hj => .inl hj)
theorem GTS.below {k : Nat} {l : List Sym} (h : GTS D W T L k l) (hb : Below W.heap.size W W') : GTS D W' T L k l := by
 obtain ⟨S, σ, S2, σ2, m, h1, h2, h3, h4, h5⟩ := h
 exact ⟨S, σ, S2, σ2, m, h1.below hb, h2, h3.blk_ (h3.blk.below hb), h4, h5⟩
theorem GTS.gt {k : Nat} {l : List Sym} (h : GTS D W T L k l) : GT D W T L := by
 obtain ⟨S, σ, S2, σ2, m, h1, h2, h3, h4, h5⟩ := h
 exact ⟨S, σ, S2, σ2, m, h1, h2, h3⟩
theorem GT.off {k : Nat} {t : TypeId} {cs : Array Value} (h : GT D W T L) (hB : Blk W k t cs) (h1 : t ≠ 131) (h2 : t ≠ 23) (h3 : t ≠ 161) (h4 : t ≠ 135) (h5 : t ≠ 111) (h6 : t ≠ 137) (hF : Fr (· = k) W W') : GT D W' T L := by
 obtain ⟨S, σ, S2, σ2, m, g1, g2, g3⟩ := h
 have ho := g1.off_blk hB h1 h2 h3 h4
 exact ⟨S, σ, S2, σ2, m, g1.off ho.1 ho.2 hF, g2, g3.blk_ ⟨g3.blk.1.fr hF (g3.blk.1.ne_ hB (Ne.symm h5)), g3.blk.2.fr hF (g3.blk.2.ne_ hB (Ne.symm h6))⟩⟩
theorem GT2.swap (h : GT2 D W T T' L L') : GT2 D W T' T L' L := by
 obtain ⟨S, σ, S2, σ2, m, m', h1, h2, h3, h4, h5, h6⟩ := h
 exact ⟨S, σ, S2, σ2, m', m, h1, h2, h4, h3, Ne.symm h5, Ne.symm h6⟩
theorem GT2.one (h : GT2 D W T T' L L') : GT D W T L := by
 obtain ⟨S, σ, S2, σ2, m, m', h1, h2, h3, _⟩ := h
 exact ⟨S, σ, S2, σ2, m, h1, h2, h3⟩
theorem Out.gt (h1 : Tabs D W S σ S2 σ2) (ho : Offs D S σ S2 σ2) (h2 : TabSt W S S2 T L m) (h : Out D W S σ S2 σ2 T L1 W') : GT D W' T L1 := by
 obtain ⟨⟨σ', σ2', m2, g1, g2, g3, g4, g5, g6⟩, hK, _⟩ := h
 exact ⟨_, σ', _, σ2', m2, g1, fun q hq => g6 q (h1.syms.low q hq) (ho q hq).1 (ho q hq).2, ⟨h2.blk.kb hK, upd_same _ _ _, upd_same _ _ _, g2, g3, g4, g5, h2.r1, h2.r2⟩⟩
theorem Out.gt2 {m' : List Page} (h1 : Tabs D W S σ S2 σ2) (ho : Offs D S σ S2 σ2) (h2 : TabSt W S S2 T L m) (h3 : TabSt W S S2 T' L' m') (h4 : T.bs ≠ T'.bs) (h5 : T.bp ≠ T'.bp) (h : Out D W S σ S2 σ2 T L1 W') : GT2 D W' T T' L1 L' := by
 obtain ⟨⟨σ', σ2', m2, g1, g2, g3, g4, g5, g6⟩, hK, _⟩ := h
 exact ⟨_, σ', _, σ2', m2, m', g1, fun q hq => g6 q (h1.syms.low q hq) (ho q hq).1 (ho q hq).2, ⟨h2.blk.kb hK, upd_same _ _ _, upd_same _ _ _, g2, g3, g4, g5, h2.r1, h2.r2⟩, ⟨h3.blk.kb hK, by rw [upd_ne _ _ (Ne.symm h4)]; exact h3.bs, by rw [upd_ne _ _ (Ne.symm h5)]; exact h3.bp, h3.ti, h3.srt, h3.val, h3.len, h3.r1, h3.r2⟩, h4, h5⟩
theorem gt_put (X : List Sym) (A2 : Option Addr) (c2 : Nat) (h : GT D W T L) (hX : RowRd W 3 Sym.cells A2 c2 X) (hl : (X.length : Int) ≤ 10000) :
 Calls Tryz.prog 59 #[.pointer (some ⟨T.b, 0, none⟩), .slice A2 X.length c2] W fun e W' => e = .returned (.int .i64 (putCode T.room L X)) ∧ GT D W' T (putList T.room L X) ∧ Fr (fun j => ¬ D j) W W' ∧ KB W W' := by
 obtain ⟨S, σ, S2, σ2, m, h1, h2, h3⟩ := h
 exact (st_put X A2 c2 h1 h3 hX hl).mono fun e W' ⟨he, ho⟩ => ⟨he, Out.gt h1 h2 h3 ho, ho.2.2, ho.2.1⟩
theorem gt2_put (X : List Sym) (A2 : Option Addr) (c2 : Nat) (h : GT2 D W T T' L L') (hX : RowRd W 3 Sym.cells A2 c2 X) (hl : (X.length : Int) ≤ 10000) :
 Calls Tryz.prog 59 #[.pointer (some ⟨T'.b, 0, none⟩), .slice A2 X.length c2] W fun e W' => e = .returned (.int .i64 (putCode T'.room L' X)) ∧ GT2 D W' T T' L (putList T'.room L' X) ∧ Fr (fun j => ¬ D j) W W' ∧ KB W W' := by
 obtain ⟨S, σ, S2, σ2, m', m, h1, h2, h4, h3, h5, h6⟩ := h.swap
 exact (st_put X A2 c2 h1 h4 hX hl).mono fun e W' ⟨he, ho⟩ => ⟨he, (Out.gt2 h1 h2 h4 h3 h5 h6 ho).swap, ho.2.2, ho.2.1⟩
theorem gt2_fresh (c : UInt8) (h : GT2 D W T T' L L') :
 Calls Tryz.prog 55 #[.pointer (some ⟨T'.b, 0, none⟩), .int .u8 (c.toNat : Int)] W fun e W' => e = .returned (.tuple #[.agg #[.int .i64 (freshS T'.room L' c).kind, .string (freshS T'.room L' c).text, .int .i64 (freshS T'.room L' c).n], .int .i64 (freshE T'.room L' c)]) ∧ GT2 D W' T T' L (freshL T'.room L' c) ∧ Fr (fun j => ¬ D j) W W' ∧ KB W W' := by
 obtain ⟨S, σ, S2, σ2, m', m, h1, h2, h4, h3, h5, h6⟩ := h.swap
 exact (st_fresh c h1 h4).mono fun e W' ⟨he, ho⟩ => ⟨he, (Out.gt2 h1 h2 h4 h3 h5 h6 ho).swap, ho.2.2, ho.2.1⟩
theorem gt_clone (h : GT D W T L) : Calls Tryz.prog 54 #[.pointer (some ⟨T.b, 0, none⟩)] W fun e W' => ∃ T' : TB, e = .returned (.pointer (some ⟨T'.b, 0, none⟩)) ∧ T'.room = T.room ∧ GT2 D W' T T' L L ∧ Fr (fun j => ¬ D j) W W' ∧ KB W W' := by
 obtain ⟨S, σ, S2, σ2, m, h1, ho, h2⟩ := h
 refine (tabclone_is T L m h1 h2.blk h2.bs h2.bp).mono ?_
 rintro e W' ⟨T', he, hr, hB, ⟨σ', σ2', hT, hof⟩, hK, hF, hbs, hbp⟩
 have hl1 := h1.syms.lt h2.bs
 have hl2 := h1.pages.lt h2.bp
 have n1 : T.bs ≠ T'.bs := by omega
 have n2 : T.bp ≠ T'.bp := by omega
 exact ⟨T', he, hr, ⟨_, σ', _, σ2', m, m, hT, fun q hq => hof q (h1.syms.low q hq) (ho q hq).1 (ho q hq).2, ⟨h2.blk.kb hK, by rw [upd_ne _ _ n1]; exact h2.bs, by rw [upd_ne _ _ n2]; exact h2.bp, h2.ti, h2.srt, h2.val, h2.len, h2.r1, h2.r2⟩, ⟨hB, upd_same _ _ _, upd_same _ _ _, h2.ti, h2.srt, h2.val, by rw [hr]; exact h2.len, by rw [hr]; exact h2.r1, by rw [hr]; exact h2.r2⟩, n1, n2⟩, hF, hK⟩
theorem gt_new (room : Int) (w : World) (h1 : 1 ≤ room) (h2 : room ≤ 4096) : Calls Tryz.prog 24 #[.int .i64 room] w fun e w' => ∃ T : TB, e = .returned (.tuple #[.pointer (some ⟨T.b, 0, none⟩), .int .i64 0]) ∧ T.room = room ∧ GT (· < w.heap.size) w' T [] ∧ Below w.heap.size w w' := by
 refine (tabnewC_is room h1 h2 (Tabs.start w)).mono ?_
 rintro e w' ⟨T, he, hr, hB, ⟨σ', σ2', hT, hof⟩, hb, _, _⟩
 exact ⟨T, he, hr, ⟨_, σ', _, σ2', [], hT, fun q hq => hof q hq (fun _ _ h => by cases h) (fun _ _ h => by cases h), ⟨hB, upd_same _ _ _, upd_same _ _ _, TI.nil, Srt.nil, (fun s hs => absurd hs (by simp)), (by rw [List.length_nil]; omega), (by omega), (by omega)⟩⟩, hb⟩
end
theorem owns_kb {W W' : World} {base size n : Nat} {e : TypeId} {v : Value} {xs : List Value} (h : W.ownsRow base e size v n xs) (hK : KB W W') (h1 : e ≠ 131) (h2 : e ≠ 23) (h3 : e ≠ 161) (h4 : e ≠ 135) : W'.ownsRow base e size v n xs :=
 ⟨h.1, h.2.imp id fun ⟨g, cap, cur, hv, h0, hg, hr⟩ => ⟨g, cap, cur, hv, h0, hK g e cur h1 h2 h3 h4 hg, hr⟩⟩
theorem KB.grown {w w1 w2 : World} {base n : Nat} {v : Value} {xs : List Value} (h : KB w w1) (hown : w1.ownsRow base 23 3 v n xs) (hg : w1.grownBy w2 v.ownBlock) : KB w w2 := fun g t cs h1 h2 h3 h4 hb => (h g t cs h1 h2 h3 h4 hb).grown hg (own_blk_ne hown (h g t cs h1 h2 h3 h4 hb) (Ne.symm h2))
theorem row_grown {D : Nat → Prop} {X w4 : World} {A : Option Addr} {c n m B : Nat} {v' : Value} {xs news : List Value} (hown : X.ownsRow 0 23 3 (.slice A n c) n xs) (hA : AIn A D) (hB : AIn A (B ≤ ·)) (hBX : B ≤ X.heap.size) (hown' : w4.ownsRow 0 23 3 v' (n + m) (xs ++ news)) (hg : X.grownBy w4 (Value.slice A n c).ownBlock) (hat : v'.ownBlock = (Value.slice A n c).ownBlock ∨ v'.ownBlock = some X.heap.size) :
 ∃ A' c', v' = .slice A' (n + m) c' ∧ Fr D X w4 ∧ KB X w4 ∧ AIn A' (fun k => D k ∨ (X.heap.size ≤ k ∧ k < w4.heap.size)) ∧ AIn A' (B ≤ ·) ∧ Below B X w4 ∧ Fr (fun k => (Value.slice A n c).ownBlock = some k) X w4 ∧ n + m ≤ c' := by
 obtain ⟨A', c', rfl, hc, _, hz⟩ := own_form2 hown'
 have hob : ∀ k, (Value.slice A n c).ownBlock = some k → D k ∧ B ≤ k := by
  intro k hk
  rcases A with _ | a
  · simp [Value.ownBlock] at hk
  · have e : a.block = k := by simpa [Value.ownBlock] using hk
    exact ⟨e ▸ hA a rfl, e ▸ hB a rfl⟩
 have hat' : ∀ a, A' = some a → (∃ k, (Value.slice A n c).ownBlock = some k ∧ a.block = k) ∨ a.block = X.heap.size := by
  intro a ha
  subst ha
  rcases hat with h | h
  · exact .inl ⟨a.block, by rw [← h]; simp [Value.ownBlock], rfl⟩
  · exact .inr (by simpa [Value.ownBlock] using h)
 refine ⟨A', c', rfl, (Fr.refl D X).grown hg (fun k hk => .inl (hob k hk).1), KB.grown (KB.refl X) hown hg, fun a ha => ?_, fun a ha => ?_, (Below.refl B X).grown hg hBX (fun k hk => (hob k hk).2), (Fr.refl _ X).grown hg (fun k hk => .inl hk), hc⟩
 · rcases hat' a ha with ⟨k, hk, e⟩ | e
   · exact .inl (e ▸ (hob k hk).1)
   · refine .inr ⟨by omega, ?_⟩
     subst ha
     rcases ownsRow_form hown' with ⟨hv, _⟩ | ⟨g, cap, hv, _, _, hr, _⟩
     · cases hv
     · injection hv with hv
       injection hv with hv
       subst hv
       exact hr.lt
 · rcases hat' a ha with ⟨k, hk, e⟩ | e
   · exact e ▸ (hob k hk).2
   · show B ≤ a.block
     omega
theorem step_row {P : (Nat → Prop) → World → Prop} (hgrow : ∀ D W W', P D W → Fr D W W' → KB W W' → P (fun k => D k ∨ (W.heap.size ≤ k ∧ k < W'.heap.size)) W') {D : Nat → Prop} {w3 X w4 : World} {A : Option Addr} {c n m B : Nat} {v' : Value} {xs news : List Value}
 (h : P D w3) (hb : Below w3.heap.size w3 X) (hown : w3.ownsRow 0 23 3 (.slice A n c) n xs) (hA : AIn A D) (hB : AIn A (B ≤ ·)) (hBX : B ≤ w3.heap.size) (hown' : w4.ownsRow 0 23 3 v' (n + m) (xs ++ news)) (hg : X.grownBy w4 (Value.slice A n c).ownBlock) (hat : v'.ownBlock = (Value.slice A n c).ownBlock ∨ v'.ownBlock = some X.heap.size) :
 ∃ A' c' D3, v' = .slice A' (n + m) c' ∧ P D3 w4 ∧ (∀ j, D j → D3 j) ∧ AIn A' D3 ∧ AIn A' (B ≤ ·) ∧ KB w3 w4 ∧ Below B w3 w4 ∧ Fr (fun k => (Value.slice A n c).ownBlock = some k) w3 w4 ∧ n + m ≤ c' := by
 obtain ⟨A', c', e1, hF, hK, h1, h2, h3, h4, h5⟩ := row_grown (D := fun k => D k ∨ (w3.heap.size ≤ k ∧ k < X.heap.size)) (ownsRow_new hown hb) (hA.mono (fun _ h => .inl h)) hB (Nat.le_trans hBX hb.size) hown' hg hat
 exact ⟨A', c', _, e1, hgrow _ _ _ (hgrow _ _ _ h (Fr.of_new hb) (KB.of_below hb)) hF hK, fun j hj => .inl (.inl hj), h1, h2, (KB.of_below hb).trans hK, (hb.mono hBX).trans h3, (Fr.of_new hb).trans h4, h5⟩
end Go.Proofs.YtpndmjabjjbefaaGreat
namespace Go.Proofs.YtpndmjabjjbefaaGreat
open Go.RowKit
abbrev NameSet := SetAt (α := Name) 155 125 1 Name.cells
theorem nilAhead_Name (k0 : ByteArray) (w : World) : (nilAhead 310 125 (.string k0) "Compare").run Tryz.prog w = .ok (some false) w := by kernel_rfl
theorem method_Name (k0 : ByteArray) (w : World) : (method 310 125 (.string k0) "Compare").run Tryz.prog w = .ok (167, .string k0) w := by kernel_rfl
def FoundName (l : List Name) (x : Name) (w : World) (e : Ending) (w' : World) : Prop :=
 e = .returned (.tuple #[.int .i64 (rank cmpName l x), .bool (has cmpName l x)]) ∧ Below w.heap.size w w'
set_option maxRecDepth 100000 in
set_option maxHeartbeats 4000000 in
theorem find_Name (b c : Nat) (sn : Bool) (A : Option Addr) (l : List Name) (x : Name) (w : World) (hS : NameSet w b sn A c l) (hs : Srt cmpName l) (hl : (l.length : Int) ≤ 4611686018427387904) :
 Calls Tryz.prog 118 #[.pointer (some ⟨b, 0, none⟩), .string x] w (FoundName l x w) := by
 have hrd := hS.rd Name.cells_length
 have h0 := hS.cell0
 have hb := hS.lt
 clear hS
 have HS := Lib.hid hs
 have HRD := Lib.hid hrd
 clear hs hrd
 go_enter Tryz.func118, Tryz.ntmps118
 go_wp2_with fail
 go_quiet (fail)
 go_wp2_with fail
 obtain ⟨W0, hW0⟩ : ∃ W0, W0 = (w.drewN nq) := ⟨_, rfl⟩
 have hB0 : Below w.heap.size w W0 := by rw [hW0]; exact Below.drewN' (Below.refl _ _) _
 rw [← hW0]
 clear hW0
 have HB0 := Lib.hid hB0
 clear hB0
 go_loopw [6, 7] (fun lo hi wr => ∃ i j : Nat, lo = .int .i64 i ∧ hi = .int .i64 j ∧ i ≤ j ∧ j ≤ l.length ∧ (∀ k, (h : k < l.length) → k < i → cmpName l[k] x < 0) ∧ (∀ k, (h : k < l.length) → j ≤ k → 0 < cmpName l[k] x) ∧ Below W0.heap.size W0 wr) (fun lo hi wr => (intOf hi).toNat - (intOf lo).toNat)
 case atStart => exact ⟨0, l.length, rfl, rfl, Nat.zero_le _, Nat.le_refl _, fun k _ h => absurd h (by omega), fun k h h' => absurd h (by omega), Below.refl _ _⟩
 case round =>
  obtain ⟨i, j, rfl, rfl, hij, hj, hlo, hhi, hB⟩ := hrel
  have HLO := Lib.hid hlo
  have HHI := Lib.hid hhi
  clear hlo hhi
  have hsz : w.heap.size ≤ W0.heap.size := HB0.out.size
  by_cases hlt : i < j
  · obtain ⟨m, hm⟩ : ∃ m, m = i + (j - i) / 2 := ⟨_, rfl⟩
    have hml : m < l.length := by omega
    have hmj : m < j := by omega
    have hmi : i ≤ m := by omega
    have e1 : ((i : Int) + ((j : Int) - (i : Int)) / 2) = (m : Int) := by omega
    have E1 := Lib.hid e1
    clear e1 hm
    obtain ⟨g, off, rfl, hgs, hcell⟩ := HRD.out.at_ hml
    have low : ∀ (p : Addr), p.block < w.heap.size → wr.cell? p = w.cell? p := fun p hp => (hB.cell (p := p) (by omega)).trans (HB0.out.cell (p := p) hp)
    have r0 := (low ⟨b, 0, none⟩ hb).trans h0
    have q0 : wr.cell? ⟨g, off + m, none⟩ = some (.string l[m]) := (low ⟨g, off + m, none⟩ hgs).trans (by simpa using hcell 0 _ rfl)
    have b1 : (0 : Int) ≤ (m : Int) := by omega
    have b2 : (m : Int) < (l.length : Int) := by omega
    have hsw : W0.heap.size ≤ wr.heap.size := hB.size
    have N := nilAhead_Name
    have M := method_Name
    clear low hcell h0
    have HB := Lib.hid hB
    clear hB
    obtain ⟨y, hy⟩ : ∃ y, y = l[m] := ⟨_, rfl⟩
    rw [← hy] at q0
    have HY := Lib.hid hy
    clear hy
    have hbw : b < wr.heap.size := by omega
    have hgw : g < wr.heap.size := by omega
    go_upto_region 4 with (fail)
    rw [E1.out]
    go_wp2_with fail
    refine (cmp_name y x _).mono ?_
    rintro e w1 ⟨rfl, hb1⟩
    have HB1 : Below W0.heap.size W0 w1 := HB.out.trans (hb1.mono hsw)
    clear r0 q0 N M
    have HB1' := Lib.hid HB1
    clear HB1
    by_cases hc : cmpName y x = 0
    · have HC := Lib.hid hc
      have t1 : (cmpName y x == 0) = true := by simp [hc]
      clear hc
      go_wp2_with fail
      go_ret2
      have e := HC.out
      rw [HY.out] at e
      refine ⟨?_, HB0.out.trans (HB1'.out.mono (by omega))⟩
      rw [rank_some tc_name HS.out hml e, (at_some tc_name HS.out hml e).2.2.1]
      rfl
    · have t1 : (cmpName y x == 0) = false := by simp [hc]
      by_cases hc2 : cmpName y x < 0
      · have HC := Lib.hid hc2
        have t2 : decide (cmpName y x < 0) = true := by simpa using hc2
        clear hc hc2
        go_wp2_with fail
        go_roundw
        case rel =>
         refine ⟨m + 1, j, by go_num, rfl, by omega, hj, fun k h1 h2 => ?_, HHI.out, HB1'.out⟩
         have e := HC.out
         rw [HY.out] at e
         rcases Nat.lt_or_ge k m with h3 | h3
         · exact tc_name.lt_of_lt_of_le (HS.out.lt h3 hml) (by omega)
         · obtain rfl : k = m := by omega
           exact e
        case measure => simp [intOf]; omega
      · have t2 : decide (cmpName y x < 0) = false := by simpa using hc2
        have hc3 : 0 < cmpName y x := by omega
        have HC := Lib.hid hc3
        clear hc hc2 hc3
        go_wp2_with fail
        go_roundw
        case rel =>
         refine ⟨i, m, rfl, rfl, by omega, by omega, HLO.out, fun k h1 h2 => ?_, HB1'.out⟩
         have e := HC.out
         rw [HY.out] at e
         rcases Nat.lt_or_ge m k with h3 | h3
         · exact (tc_name.symm _ _).1 (tc_name.lt_trans ((tc_name.symm _ _).2 e) (HS.out.lt h3 h1))
         · obtain rfl : k = m := by omega
           exact e
        case measure => simp [intOf]; omega
  · obtain rfl : i = j := by omega
    have HB := Lib.hid hB
    clear hB
    go_wp2_with fail
    go_ret2
    refine ⟨?_, HB0.out.trans (HB.out.mono (by omega))⟩
    rw [rank_none hj HLO.out HHI.out, (at_none HLO.out HHI.out).2.2]
    rfl
end Go.Proofs.YtpndmjabjjbefaaGreat
namespace Go.Proofs.YtpndmjabjjbefaaGreat
open Go.RowKit
theorem info_Name : (Tryz.prog.info? 125).map (fun i => (i.zero, i.size, i.bytes)) = some (some (.string ⟨#[]⟩), 1, 16) := by kernel_rfl
theorem Name.one (x : Name) : ∀ u ∈ Name.cells x, u.oneCell' = true := by intro u hu; simp [Name.cells] at hu; rcases hu with rfl <;> rfl
theorem Name.oneAll (l : List Name) : ∀ u ∈ l.flatMap Name.cells, u.oneCell' = true := by intro u hu; obtain ⟨x, _, hx⟩ := List.mem_flatMap.1 hu; exact Name.one x u hx
def OwnPostName (w : World) (b : Nat) (sn : Bool) (A : Option Addr) (l : List Name) (e : Ending) (w' : World) : Prop :=
 e = .returned (.tuple #[]) ∧ ∃ A' c', NameSet w' b false A' c' l ∧ Fr (· = b) w w' ∧ Moved w sn A false A'
set_option maxRecDepth 100000 in
set_option maxHeartbeats 1000000 in
theorem own_no_Name (b c : Nat) (A : Option Addr) (l : List Name) (w : World) (hS : NameSet w b false A c l) :
 Calls Tryz.prog 119 #[.pointer (some ⟨b, 0, none⟩)] w (OwnPostName w b false A l) := by
 have h1 := hS.cell1
 have HS := Lib.hid hS
 clear hS
 go_enter Tryz.func119, Tryz.ntmps119
 go_wp2
 go_end0
 exact ⟨rfl, A, c, HS.out, Fr.refl _ _, .inl ⟨rfl, rfl⟩⟩
set_option maxRecDepth 100000 in
set_option maxHeartbeats 1000000 in
theorem own_yes_Name (b c : Nat) (A : Option Addr) (l : List Name) (w : World) (hS : NameSet w b true A c l) (hl : (l.length : Int) ≤ 1000000000) :
 Calls Tryz.prog 119 #[.pointer (some ⟨b, 0, none⟩)] w (OwnPostName w b true A l) := by
 obtain ⟨i0, hi, hz0, hz1, hz2⟩ := info_parts info_Name
 have h0 := hS.cell0
 have h1 := hS.cell1
 have hb := hS.lt
 have f0 := hS.blk.frozen 0
 have f1 := hS.blk.frozen 1
 have hrd := hS.rd Name.cells_length
 have HB := Lib.hid hS.blk
 have HRD := Lib.hid hrd
 clear hS hrd
 have e1 : IntKind.i64.wrap ((l.length : Int) + 1) = (l.length : Int) + 1 := IntWalk.i64_in _ (by omega)
 have hmk : ∀ W : World, (Instr.makeSlice 153 (.int .i64 0) (.int .i64 ((l.length : Int) + 1))).run Tryz.prog W = .ok (.slice (some ⟨W.heap.size, 0, none⟩) 0 (l.length + 1)) (W.alloc (.cells (madeCells (Value.cells (.string ⟨#[]⟩)) ((l.length + 1))) 125)) := fun W => by
  have h := run_make (P := Tryz.prog) W 153 125 i0 _ Tryz.underlying153 hi hz0 .i64 .i64 0 ((l.length : Int) + 1) (by omega) (by omega) (by rw [hz2]; omega) (by omega)
  rw [hz1] at h
  simpa [show ((l.length : Int) + 1).toNat = l.length + 1 by omega] using h
 go_enter Tryz.func119, Tryz.ntmps119
 go_wp2_with fail
 refine wp_region_E (fun w9 => Below w.heap.size w w9) [(0, 0), (1, 0), (2, 0), (3, 0), (4, 1), (5, 0), (6, 0), (8, 0), (9, 0), (10, 0), (11, 1), (7, 2), (12, 2), (13, 0), (14, 0), (15, 2)] (by kernel_rfl) (by kernel_rfl) (fun KK hKK => ?_)
 simp only [beside, List.filterMap_cons, List.filterMap_nil, List.getElem?_toArray, List.getElem?_cons_zero, List.getElem?_cons_succ, Option.map_some]
 repeat ((first | (refine wpX_w ?_ (Or.inl ⟨by rfl, fun w9 => ?_⟩) ?_; rotate_left 1; go_simp; with_reducible rfl) | (refine wpX_l ?_ (((Below.refl _ _).drew)) (Or.inl ⟨by rfl, fun w9 hw9 => ?_⟩) ?_; rotate_left 1; obtain ⟨hc9, hf9⟩ := bcell hw9; go_simp; with_reducible rfl) | refine wpX_w undef (Or.inr ⟨by rfl, rfl⟩) ?_ | refine wpX_l undef (((Below.refl _ _).drew)) (Or.inr ⟨by rfl, rfl⟩) ?_); go_frame)
 refine wpX_es (fun K9 hK9 => ?_)
 go_simp
 refine hK9 _ _ (((Below.refl _ _).drew).alloc (Nat.le_refl _) _) ?_
 clear hK9 K9
 refine wpX_e (by kernel_rfl) (fun K9 hK9 => ?_)
 refine step_append_src _ (by rfl) _ _ _ (by rfl) 125 i0 _ 1 16 Tryz.underlying153 hi hz0 hz1 hz2 rfl (by omega) _ 0 [] (by rfl) (World.ownsRow_made _ _ _ (Nat.zero_le _) (by unfold maxLen; omega) (by simp [madeCells])) A l.length c (l.flatMap Name.cells) (by rfl) (flat_length Name.cells_length l)
  ((HRD.out.drew.alloc _).news Name.cells_length (by omega)) (Name.oneAll l) (by unfold maxLen; omega) (by omega) ?_
 intro v2 w2 hown hgr hnil hat
 refine hK9 _ _ ?_
 clear hK9 K9
 rw [Nat.zero_add, List.nil_append] at hown
 obtain ⟨A', c', rfl, _, _, hz⟩ := own_form2 hown
 have HB1 := (HB.out.drew.alloc (.cells (madeCells (Value.cells (.string ⟨#[]⟩)) ((l.length + 1))) 125)).grown hgr (by simp [Value.ownBlock]; omega)
 have c0 := (HB1.cell 0).trans rfl
 have c1 := (HB1.cell 1).trans rfl
 have z0 := HB1.frozen 0
 have z1 := HB1.frozen 1
 have HB2 := Lib.hid HB1
 clear HB1
 repeat ((first | (refine wpX_w ?_ (Or.inl ⟨by rfl, fun w9 => ?_⟩) ?_; rotate_left 1; go_simp; with_reducible rfl) | (refine wpX_l ?_ (((Below.refl _ _).drew).alloc (Nat.le_refl _) _) (Or.inl ⟨by rfl, fun w9 hw9 => ?_⟩) ?_; rotate_left 1; obtain ⟨hc9, hf9⟩ := bcell hw9; go_simp; with_reducible rfl) | refine wpX_w undef (Or.inr ⟨by rfl, rfl⟩) ?_ | refine wpX_l undef (((Below.refl _ _).drew).alloc (Nat.le_refl _) _) (Or.inr ⟨by rfl, rfl⟩) ?_); go_frame)
 refine wpX_e (by kernel_rfl) (fun K9 hK9 => ?_)
 go_simp
 refine hK9 _ _ ?_
 clear hK9 K9
 refine wpX_nil ?_
 simp only [OnlyN_normal]
 refine hKK _ _ ?_
 clear hKK KK
 go_wp2
 go_end0
 have hb2 : (Value.slice A' l.length c').ownBlock = some w.heap.size ∨ (Value.slice A' l.length c').ownBlock = some (w.heap.size + 1) := by
  rcases hat with h | h
  · left; rw [h]; rfl
  · right; rw [h]; simp
 have hA : ∃ g, w.heap.size ≤ g ∧ A' = some ⟨g, 0, none⟩ := by
  rcases A' with _ | a
  · exfalso; simp [Value.ownBlock] at hb2
  · obtain ⟨g, rfl⟩ := hz a rfl
    refine ⟨g, ?_, rfl⟩
    simp [Value.ownBlock] at hb2
    omega
 obtain ⟨g, hg, rfl⟩ := hA
 have HB1 := HB2.out
 have HF : Fr (· = b) w w2 := ((Fr.refl (· = b) w).drew.alloc _).grown hgr (fun k e => by simp [Value.ownBlock] at e; right; omega)
 refine ⟨rfl, some ⟨g, 0, none⟩, c', ⟨(HB1.set_ 0 _).set_ 1 _, ?_⟩, (HF.setCell (p := ⟨b, 0, none⟩) (.inl rfl) _).setCell (p := ⟨b, 1, none⟩) (.inl rfl) _, .inr ⟨rfl, g, hg, rfl⟩⟩
 have hne : (Value.slice (some ⟨g, 0, none⟩) l.length c').ownBlock ≠ some b := by simp [Value.ownBlock]; omega
 exact ownsRow_setCell_other (a := ⟨b, 1, none⟩) (ownsRow_setCell_other (a := ⟨b, 0, none⟩) hown hne _) hne _
theorem own_Name (b c : Nat) (sn : Bool) (A : Option Addr) (l : List Name) (w : World) (hS : NameSet w b sn A c l) (hl : (l.length : Int) ≤ 1000000000) :
 Calls Tryz.prog 119 #[.pointer (some ⟨b, 0, none⟩)] w (OwnPostName w b sn A l) := by
 cases sn
 · exact own_no_Name b c A l w hS
 · exact own_yes_Name b c A l w hS hl
end Go.Proofs.YtpndmjabjjbefaaGreat
