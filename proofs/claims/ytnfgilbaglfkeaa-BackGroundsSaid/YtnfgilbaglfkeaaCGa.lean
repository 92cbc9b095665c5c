/-
  For every input BackGrounds answers true, and leaves its arguments and all that was there as they were. No conditions.
-/
import Derived.Test.YtnfgilbaglfkeaaBa
import Derived.Test.YtnfgilbaglfkeaaBb
import Derived.Test.YtnfgilbaglfkeaaBc
import Derived.Test.YtnfgilbaglfkeaaBd
import Derived.Test.YtnfgilbaglfkeaaBe
import Derived.Test.YtnfgilbaglfkeaaBf
import Derived.Test.YtnfgilbaglfkeaaBg
import Derived.Test.YtnfgilbaglfkeaaBh
import Derived.Test.YtnfgilbaglfkeaaBi
import Derived.Test.YtnfgilbaglfkeaaBj
import Derived.Test.YtnfgilbaglfkeaaBk
import Derived.WalkKit
import Derived.WalkSpells
import Derived.WalkLawsBesides
import Derived.Lib.Hide
import Derived.Deep.QuietTactic
import Derived.BigQuiet
import Derived.Deep.RegionHeld3
import Derived.Deep.AppendLies
import Derived.Maps.AppendAt
import Derived.StillTailTactics
import Derived.Maps.RangeWalk
import Derived.ProofKit
import Derived.Carry
import Derived.ChangeSame
import Derived.Deep.Slices
import Derived.Deep.Strs
import Derived.OrdersHeld
import Derived.StillTail
import Derived.RangeFuncNested
import Derived.RangeFuncBound
import Derived.RangeFuncCalls
import Derived.RangeFuncLeaves
import Derived.OrdersIn
import Derived.OwnWalkIn
import Derived.TacticsInMore
import Derived.LoopNIn
import Derived.LoopIn
import Derived.Shelf.Abstract
import Derived.Test.YtnfgilbaglfkeaaRows
import Derived.Lib.Strings
import Derived.Deep.MidRow
import Derived.Deep.Cut
import Derived.ArgAppend
import Derived.Deep.LoopGhost
import Derived.IntWalk
import Derived.Laws.EntriesVeiled
import Derived.Lib.MinMax
namespace Go.Proofs.Ytnfgilbaglfkeaa
open Go.RowKit
theorem int_at {w : World} {A : Option Addr} {c k : Nat} {l : List Int} (h : RowRd w 1 Int.cells1 A c l) (hk : k < l.length) : ∃ b off, A = some ⟨b, off, none⟩ ∧ b < w.heap.size ∧ w.cell? ⟨b, off + k, none⟩ = some (.int .i64 l[k]) := by
 obtain ⟨b, off, hA, hb, hc⟩ := h.at_ hk
 refine ⟨b, off, hA, hb, ?_⟩
 have := hc 0 (.int .i64 l[k]) rfl
 simpa using this
set_option maxRecDepth 100000 in
set_option maxHeartbeats 1000000 in
theorem has10_is (A : Option Addr) (c : Nat) (l : List Int) (x : Int) (w : World) (h : RowRd w 1 Int.cells1 A c l) :
 Calls Try.prog 21 #[.slice A l.length c, .int .i64 x] w fun e w' => e = .returned (.bool (decide (x ∈ l))) ∧ w = w' := by
 have HL := Lib.hid h
 have hlc := h.cap
 clear h
 go_enter Try.func21, Try.ntmps21
 go_wp2_with fail
 go_loopw [5] (fun s wr => ∃ i : Nat, s = .int .i64 i ∧ i ≤ l.length ∧ (∀ j, (h : j < l.length) → j < i → l[j] ≠ x) ∧ wr = w) (fun s wr => l.length - (intOf s).toNat)
 case atStart => exact ⟨0, rfl, Nat.zero_le _, fun j _ h => absurd h (by omega), rfl⟩
 case round =>
  obtain ⟨i, rfl, hi, hno, rfl⟩ := hrel
  have HNO := Lib.hid hno
  clear hno
  by_cases hlt : i < l.length
  · obtain ⟨b, off, rfl, hb, hc⟩ := int_at HL.out hlt
    obtain ⟨y, hy⟩ : ∃ y, y = l[i] := ⟨_, rfl⟩
    rw [← hy] at hc
    have HY := Lib.hid hy
    have b1 : (0 : Int) ≤ (i : Int) := by omega
    have b2 : (i : Int) < (l.length : Int) := by omega
    clear hy
    by_cases hk : y = x
    · have t1 : (y == x) = true := by simpa using hk
      have HK := Lib.hid hk
      clear hk
      go_wp2_with fail
      go_ret
      exact ⟨by rw [decide_eq_true (by rw [← HK.out, HY.out]; exact List.getElem_mem _)]; rfl, rfl⟩
    · have t1 : (y == x) = false := by simpa using hk
      have HK := Lib.hid hk
      clear hk
      go_wp2_with fail
      go_roundw
      case rel =>
       refine ⟨i + 1, by go_num, by omega, fun j h hj => ?_, trivial⟩
       rcases Nat.lt_or_ge j i with h2 | h2
       · exact HNO.out j h h2
       · obtain rfl : j = i := by omega
         rw [← HY.out]; exact HK.out
      case measure => simp [intOf] <;> omega
  · obtain rfl : i = l.length := by omega
    go_wp2_with fail
    go_ret
    exact ⟨by rw [decide_eq_false (fun hm => by obtain ⟨j, h, e⟩ := List.getElem_of_mem hm; exact HNO.out j h h e)]; rfl, rfl⟩
end Go.Proofs.Ytnfgilbaglfkeaa
namespace Go.Proofs.Ytnfgilbaglfkeaa
open Go.RowKit Go.Shelf
def GG (ta ts : Nat) (W0 : World) (E : Nat → Prop) (ks : List Int) (w : World) : Prop :=
 Fr (fun j => j = ta ∨ j = ts) W0 w ∧ Blk w ta 3 #[.int .i64 (ks.length : Nat)] ∧ ∃ A c, Blk w ts 22 #[.slice A ks.length c] ∧ w.ownsRow 0 3 1 (.slice A ks.length c) ks.length (ks.flatMap Int.cells1) ∧ AIn A (W0.heap.size ≤ ·) ∧ ∀ j, E j ↔ (j = ta ∨ j = ts ∨ ∃ a, A = some a ∧ a.block = j)
set_option maxRecDepth 100000 in
set_option maxHeartbeats 8000000 in
theorem gf_is (n kb ta ts tf : Nat) (l : List RecordT) (A3 : Option Addr) (c3 : Nat) {D : Nat → Prop} (k : Int) (ks : List Int) (A : Option Addr) (c : Nat) (w : World) (B : Nat) (hB : B ≤ w.heap.size) (hks : ks.length ≤ 100000) (hk : k ∉ ks)
 (hta : Blk w ta 3 #[.int .i64 (ks.length : Nat)]) (hts : Blk w ts 22 #[.slice A ks.length c]) (ho : w.ownsRow 0 3 1 (.slice A ks.length c) ks.length (ks.flatMap Int.cells1)) (hA : AIn A (B ≤ ·)) (hBt : ta < B ∧ ts < B ∧ tf < B ∧ kb < B)
 (htf : Blk w tf 35 #[.func (.func 47) #[] #[.pointer (some ⟨kb, 0, none⟩)]]) (hkb : Blk w kb 23 #[.slice A3 l.length c3]) (hrd : RowR (repRecordT n) D w A3 c3 l) (hD : ∀ k, D k → k < B ∧ k ≠ ta ∧ k ≠ ts) (hs : ∀ r ∈ l, SmR n r) :
 Calls Try.prog 20 #[.int .i64 k, .pointer (some ⟨ta, 0, none⟩), .pointer (some ⟨ts, 0, none⟩), .pointer (some ⟨tf, 0, none⟩)] w fun e w' =>
  ∃ A' c' m, w.heap.size ≤ m ∧ Blk w' ta 3 #[.int .i64 ((ks ++ [k]).length : Nat)] ∧ Blk w' ts 22 #[.slice A' (ks ++ [k]).length c'] ∧ w'.ownsRow 0 3 1 (.slice A' (ks ++ [k]).length c') (ks ++ [k]).length ((ks ++ [k]).flatMap Int.cells1) ∧
    (∀ a, A' = some a → (∃ a0, A = some a0 ∧ a0.block = a.block) ∨ (w.heap.size ≤ a.block ∧ a.block < m)) ∧ Fr (fun j => j = ta ∨ j = ts ∨ ∃ a, A = some a ∧ a.block = j) w w' ∧ Ans n (lookR l k) (NewD m w') e w' := by
 obtain ⟨i0, hi0, hz0, hz1, hz2⟩ := infp inf_Int
 have HRD := Lib.hid hrd
 have HS := Lib.hid hs
 have HTA := Lib.hid hta
 have HTS := Lib.hid hts
 have HTF := Lib.hid htf
 have HKB := Lib.hid hkb
 have HO := Lib.hid ho
 have HA := Lib.hid hA
 have HD := Lib.hid hD
 have HK := Lib.hid hk
 have htl := hta.lt
 have hsl := hts.lt
 have hfl := htf.lt
 obtain ⟨hB1, hB2, hB3, hB4⟩ := hBt
 clear hrd hs hta hts htf hkb ho hA hD hk
 go_enter Try.func20, Try.ntmps20
 go_upto_region 1 with fail
 obtain ⟨W1, hW1⟩ : ∃ W1, W1 = w.alloc (.cells #[.int .i64 0, .int .i64 0, .slice none 0 0, .slice none 0 0, .slice none 0 0, .slice none 0 0] 47) := ⟨_, rfl⟩
 have hb1 : Below w.heap.size w W1 := by rw [hW1]; exact (Below.refl _ _).alloc (Nat.le_refl _) _
 have hX1 : Blk W1 w.heap.size 47 #[.int .i64 0, .int .i64 0, .slice none 0 0, .slice none 0 0, .slice none 0 0, .slice none 0 0] := by rw [hW1]; exact Blk.new _ _ _
 have hz1 : W1.heap.size = w.heap.size + 1 := by rw [hW1]; simp
 rw [← hW1]
 clear hW1
 have HB1 := Lib.hid hb1
 have HX1 := Lib.hid hX1
 have HZ1 := Lib.hid hz1
 have a0 := (HTA.out.new_ hb1).c1
 have af := (HTA.out.new_ hb1).frozen 0
 have htl1 := (HTA.out.new_ hb1).lt
 have vk : IntKind.i64.wrap ((ks.length : Int) + 1) = (ks.length : Int) + 1 := IntWalk.i64_in _ (by omega)
 clear hb1 hX1 hz1
 go_upto_region 2 with fail
 obtain ⟨W2, hW2⟩ : ∃ W2, W2 = W1.setCell ⟨ta, 0, none⟩ (.int .i64 ((ks.length : Int) + 1)) := ⟨_, rfl⟩
 have hF12 : Fr (· = ta) W1 W2 := by rw [hW2]; exact Fr.setCell (M := (· = ta)) (p := ⟨ta, 0, none⟩) (Fr.refl _ _) (.inl rfl) _
 have hTA2 : Blk W2 ta 3 #[.int .i64 ((ks ++ [k]).length : Nat)] := by
  rw [hW2]
  have := (HTA.out.new_ HB1.out).set_ 0 (.int .i64 ((ks.length : Int) + 1))
  simpa using this
 have hz2 : W2.heap.size = w.heap.size + 1 := by rw [hW2]; simp [HZ1.out]
 rw [← hW2]
 clear hW2 a0 af htl1 vk
 have hTS2 : Blk W2 ts 22 #[.slice A ks.length c] := (HTS.out.new_ HB1.out).fr hF12 (fun e => (HTS.out.ne_ HTA.out (by decide)) e)
 have hO2 : W2.ownsRow 0 3 1 (.slice A ks.length c) ks.length (ks.flatMap Int.cells1) := ownsRow_fr (ownsRow_new HO.out HB1.out) hF12 (fun g hg e => by
  cases A with
  | none => cases hg
  | some a => simp only [Value.ownBlock, Option.some.injEq] at hg; have := HA.out a rfl; omega)
 have s0 := hTS2.c1
 have sf := hTS2.frozen 0
 have hsl2 := hTS2.lt
 have HHAS := Lib.hid (show Calls Try.prog 21 #[.slice A ks.length c, .int .i64 k] W2 fun e w' => e = .returned (.bool false) ∧ W2 = w' by
  have := has10_is A c ks k W2 (ownsRow_rd Int.cells1_length hO2)
  rw [decide_eq_false HK.out] at this
  exact this)
 have HF2 := Lib.hid (show Fr (fun j => j = ta ∨ j = ts ∨ ∃ a, A = some a ∧ a.block = j) w W2 from (Fr.of_new HB1.out).trans (hF12.mono (fun j _ h => .inl h)))
 have HX2 := Lib.hid (HX1.out.fr hF12 (by omega))
 have HTA2 := Lib.hid hTA2
 have HTS2 := Lib.hid hTS2
 have HO2 := Lib.hid hO2
 have HZ2 := Lib.hid hz2
 clear hF12 hTA2 hTS2 hO2 hz2 HB1 HX1 HZ1
 go_wp2_with fail
 refine HHAS.out.mono ?_
 rintro e w0 ⟨rfl, rfl⟩
 clear HHAS
 have hW3 : Below W2.heap.size W2 (W2.alloc (.cells #[.int .i64 k] 3)) := (Below.refl _ _).alloc (Nat.le_refl _) _
 have HO3 := Lib.hid (ownsRow_new HO2.out hW3)
 have HF3 := Lib.hid (HF2.out.trans (Fr.of_new hW3))
 have HX3 := Lib.hid (HX2.out.new_ hW3)
 have HTA3 := Lib.hid (HTA2.out.new_ hW3)
 have HTS3 := Lib.hid (HTS2.out.new_ hW3)
 clear hW3
 go_upto_region 4 with (at_builtin; refine wpList_append_src (W2.alloc (.cells #[.int .i64 k] 3)) rfl (.tmp 13) (.tmp 15) 22 rfl 3 i0 _ 1 8 Try.underlying22 hi0 hz0 hz1 hz2 rfl (by omega) (.slice A ks.length c) ks.length (ks.flatMap Int.cells1) rfl HO3.out (some ⟨W2.heap.size, 0, none⟩) 1 1 ([k].flatMap Int.cells1) rfl rfl (fun _ => ⟨_, rfl, World.news_of_block (heap_alloc_new _ _)⟩) (one_Int [k]) (by unfold maxLen; omega) (by omega) ?_; intro v1 w4 hown1 hg1 hnil1 hat1; obtain ⟨Am, cm, rfl, ho4, hA4, hb4⟩ := grown_int (ys := [k]) hown1 hg1 hat1 HA.out (by rw [World.size_alloc, HZ2.out]; omega); have HF4 := Lib.hid (HF3.out.grown hg1 (fun j hj => .inl (by cases A with | none => cases hj | some a => simp only [Value.ownBlock, Option.some.injEq] at hj; exact .inr (.inr ⟨a, rfl, hj⟩)))); have HX4 := Lib.hid (HX3.out.grown hg1 (fun e => own_blk_ne HO3.out HX3.out (by decide) e)); have HTA4 := Lib.hid (HTA3.out.below hb4 hB1); have HTS4 := Lib.hid (HTS3.out.below hb4 hB2); have HO4 := Lib.hid ho4; have HA4 := Lib.hid hA4; have HAT := Lib.hid hat1; have hz4 := hg1.size; have s0 := HTS4.out.c1; have sf := HTS4.out.frozen 0; have hsl4 := HTS4.out.lt; clear hown1 hg1 hnil1 hat1 ho4 hA4 hb4)
 obtain ⟨W5, hW5⟩ : ∃ W5, W5 = w4.setCell ⟨ts, 0, none⟩ (.slice Am (ks.length + 1) cm) := ⟨_, rfl⟩
 have hF45 : Fr (· = ts) w4 W5 := by rw [hW5]; exact Fr.setCell (M := (· = ts)) (p := ⟨ts, 0, none⟩) (Fr.refl _ _) (.inl rfl) _
 have hkl : (ks ++ [k]).length = ks.length + 1 := by simp
 have HTS5 := Lib.hid (show Blk W5 ts 22 #[.slice Am (ks ++ [k]).length cm] by
  rw [hW5, hkl]
  have := HTS4.out.set_ 0 (.slice Am (ks.length + 1) cm)
  simpa using this)
 have hz5 : W5.heap.size = w4.heap.size := by rw [hW5]; simp
 have hz9 : w.heap.size + 2 ≤ w4.heap.size := by
  have := hz4
  rw [World.size_alloc, HZ2.out] at this
  omega
 have HAT2 := Lib.hid (show ∀ a, Am = some a → (∃ a0, A = some a0 ∧ a0.block = a.block) ∨ a.block = w.heap.size + 2 by
  intro a ha
  subst ha
  rcases HAT.out with h | h
  · left
    cases A with
    | none => cases h
    | some a0 => simp only [Value.ownBlock, Option.some.injEq] at h; exact ⟨a0, rfl, h.symm⟩
  · right
    simp only [Value.ownBlock, Option.some.injEq] at h
    rw [World.size_alloc, HZ2.out] at h
    omega)
 rw [← hW5]
 clear hW5 s0 sf hsl4 HAT
 have HOL := Lib.hid (own_lt HO4.out)
 have HOA := Lib.hid (own_lt HO.out)
 have HTA5 := Lib.hid (HTA4.out.fr hF45 (fun e => HTA4.out.ne_ HTS4.out (by decide) e))
 have HO5 := Lib.hid (show W5.ownsRow 0 3 1 (.slice Am (ks ++ [k]).length cm) (ks ++ [k]).length ((ks ++ [k]).flatMap Int.cells1) from ownsRow_fr HO4.out hF45 (fun g hg e => by
  cases Am with
  | none => cases hg
  | some a => simp only [Value.ownBlock, Option.some.injEq] at hg; have := HA4.out a rfl; omega))
 have HX5 := Lib.hid (HX4.out.fr hF45 (fun e => by have e2 : w.heap.size = ts := e; omega))
 have HF5 := Lib.hid (HF4.out.trans (hF45.mono (fun j _ h => .inr (.inl h))))
 have nf : ∀ j, j < B → j ≠ ta → j ≠ ts → ¬ (j = ta ∨ j = ts ∨ ∃ a, A = some a ∧ a.block = j) := fun j hj h1 h2 h3 => by
  rcases h3 with h3 | h3 | ⟨a, ha, h3⟩
  · exact h1 h3
  · exact h2 h3
  · have := HA.out a ha; omega
 have HTF5 := Lib.hid (HTF.out.fr HF5.out (nf tf hB3 (fun e => HTF.out.ne_ HTA.out (by decide) e) (fun e => HTF.out.ne_ HTS.out (by decide) e)))
 have HKB5 := Lib.hid (HKB.out.fr HF5.out (nf kb hB4 (fun e => HKB.out.ne_ HTA.out (by decide) e) (fun e => HKB.out.ne_ HTS.out (by decide) e)))
 have HRD5 := Lib.hid (HRD.out.fr HF5.out (fun j hj => nf j (HD.out j hj).1 (HD.out j hj).2.1 (HD.out j hj).2.2))
 have f0 := HTF5.out.c1
 have hfl5 := HTF5.out.lt
 obtain ⟨x, hx⟩ : ∃ x, x = lookR l k := ⟨_, rfl⟩
 have hc := find1_is n kb l A3 c3 k W5 HKB5.out HRD5.out HS.out
 rw [← hx] at hc
 obtain ⟨y, bb⟩ := x
 have HC := Lib.hid hc
 have HXX := Lib.hid hx
 clear hF45 hkl nf hc hx hz4 HTF HKB HRD HD HK HO HA HF4 HX4 HTA4 HTS4 HO4 HA4 HO3 HF3 HX3 HTA3 HTS3 HTA2 HTS2 HO2 HF2 HX2
 go_wp2_with fail
 refine HC.out.mono ?_
 rintro e w6 ⟨hB6, Az1, cz1, Az2, cz2, Az3, cz3, Az4, cz4, rfl, hra⟩
 dsimp only at hra ⊢
 have hX6 := HX5.out.new_ hB6
 have HT := Lib.hid (show w6.there w.heap.size 0 (#[Value.int IntKind.i64 y.num, Value.int IntKind.i64 y.level, Value.slice Az1 y.elems.length cz1, Value.slice Az2 y.holes.length cz2, Value.slice Az3 y.aparts.length cz3, Value.slice Az4 y.news.length cz4] : Array Value).size from hX6.there)
 have hxl6 := hX6.lt
 have HB6 := Lib.hid hB6
 have hzb := hB6.size
 have HRA := Lib.hid hra
 clear hB6 hra hX6 f0 HC
 go_wp2_with (with_reducible refine wpList_store_mid rfl 47 _ _ rfl w.heap.size 0 #[Value.int IntKind.i64 y.num, Value.int IntKind.i64 y.level, Value.slice Az1 y.elems.length cz1, Value.slice Az2 y.holes.length cz2, Value.slice Az3 y.aparts.length cz3, Value.slice Az4 y.news.length cz4] rfl rfl HT.out (by kernel_rfl) (by kernel_rfl) ?_)
 try simp only [Exit.inBlock, Exit.then]
 have hFS := Fr.setCells (M := (· = w.heap.size)) [Value.int IntKind.i64 y.num, Value.int IntKind.i64 y.level, Value.slice Az1 y.elems.length cz1, Value.slice Az2 y.holes.length cz2, Value.slice Az3 y.aparts.length cz3, Value.slice Az4 y.news.length cz4] 0 (Fr.refl (· = w.heap.size) w6) (.inl rfl)
 refine bodyPost_ret (v := .tuple #[.agg #[.int .i64 y.num, .int .i64 y.level, .slice Az1 y.elems.length cz1, .slice Az2 y.holes.length cz2, .slice Az3 y.aparts.length cz3, .slice Az4 y.news.length cz4], .bool bb]) ?_ rfl ⟨Am, cm, W5.heap.size, by omega, (HTA5.out.new_ HB6.out).fr hFS (fun e => by have e2 : ta = w.heap.size := e; omega), (HTS5.out.new_ HB6.out).fr hFS (fun e => by have e2 : ts = w.heap.size := e; omega), ownsRow_fr (ownsRow_new HO5.out HB6.out) hFS (fun g hg e => ?_), fun a ha => ?_, (HF5.out.trans (Fr.of_new HB6.out)).into hFS (fun j hj => .inr (by have e2 : j = w.heap.size := hj; omega)), ?_⟩
 · exact results_cell_tmp (t := 5) (s := 6) (T := 47) rfl _ _ w.heap.size [Value.int IntKind.i64 y.num, Value.int IntKind.i64 y.level, Value.slice Az1 y.elems.length cz1, Value.slice Az2 y.holes.length cz2, Value.slice Az3 y.aparts.length cz3, Value.slice Az4 y.news.length cz4] _ rfl (World.rangeAt_setCells_same w6 w.heap.size 0 [Value.int IntKind.i64 y.num, Value.int IntKind.i64 y.level, Value.slice Az1 y.elems.length cz1, Value.slice Az2 y.holes.length cz2, Value.slice Az3 y.aparts.length cz3, Value.slice Az4 y.news.length cz4] HT.out) Try.underlying47 rfl (by kernel_rfl)
 · have e2 : g = w.heap.size := e
   cases Am with
   | none => cases hg
   | some a =>
     simp only [Value.ownBlock, Option.some.injEq] at hg
     rcases HAT2.out a rfl with ⟨a0, h1, h2⟩ | h
     · have := HOA.out a0.block (by rw [h1]; rfl)
       omega
     · omega
 · rcases HAT2.out a ha with h | h
   · exact .inl h
   · have := HOL.out a.block (by rw [ha]; rfl)
     exact .inr (by omega)
 · rw [← HXX.out]
   exact ⟨Az1, cz1, Az2, cz2, Az3, cz3, Az4, cz4, rfl, HRA.out.keep (by rw [size_setCells]; omega) (fun j hj hl => ⟨⟨hj.1, by rw [size_setCells]; exact hj.2⟩, blk_setCells _ _ _ _ _ (by have := hj.1; omega)⟩)⟩
theorem gf_spec (n kb ta ts tf : Nat) (l : List RecordT) (A3 : Option Addr) (c3 : Nat) {D : Nat → Prop} (W0 : World) {cs0 cs1 : Array Value} (hta : Blk W0 ta 3 cs0) (hts : Blk W0 ts 22 cs1) (htf : Blk W0 tf 35 #[.func (.func 47) #[] #[.pointer (some ⟨kb, 0, none⟩)]])
 (hkb : Blk W0 kb 23 #[.slice A3 l.length c3]) (hrd : RowR (repRecordT n) D W0 A3 c3 l) (hD : ∀ k, D k → k < W0.heap.size ∧ k ≠ ta ∧ k ≠ ts) (hs : ∀ r ∈ l, SmR n r) :
 FindSpec n W0.heap.size 20 #[.pointer (some ⟨ta, 0, none⟩), .pointer (some ⟨ts, 0, none⟩), .pointer (some ⟨tf, 0, none⟩)] (lookR l) (GG ta ts W0) where
 enter := by intro args w; kernel_rfl
 lt := by
  rintro E ks w ⟨_, h2, A, c, h3, h4, _, h6⟩ k hk
  rcases (h6 k).1 hk with rfl | rfl | ⟨a, rfl, rfl⟩
  · exact h2.lt
  · exact h3.lt
  · exact own_lt h4 _ rfl
 steady := by
  rintro E ks w w' M ⟨h1, h2, A, c, h3, h4, h5, h6⟩ hF hM
  refine ⟨h1.into hF (fun k hk => .inr (hM k hk).2), h2.fr hF (fun h => (hM _ h).1 ((h6 _).2 (.inl rfl))), A, c, h3.fr hF (fun h => (hM _ h).1 ((h6 _).2 (.inr (.inl rfl)))), ownsRow_fr h4 hF (fun g hg h => ?_), h5, h6⟩
  refine (hM _ h).1 ((h6 _).2 (.inr (.inr ?_)))
  cases A with
  | none => cases hg
  | some a => simp only [Value.ownBlock, Option.some.injEq] at hg; exact ⟨a, rfl, hg⟩
 call := by
  rintro E ks w k hks hk ⟨h1, h2, A, c, h3, h4, h5, h6⟩
  have htl := hta.lt
  have hsl := hts.lt
  have n0 : ∀ j, j ≠ ta → j ≠ ts → ¬ (j = ta ∨ j = ts) := fun j g1 g2 g3 => g3.elim g1 g2
  refine (gf_is n kb ta ts tf l A3 c3 k ks A c w W0.heap.size h1.size hks hk h2 h3 h4 h5 ⟨htl, hsl, htf.lt, hkb.lt⟩
   (htf.fr h1 (n0 _ (fun e => htf.ne_ hta (by decide) e) (fun e => htf.ne_ hts (by decide) e))) (hkb.fr h1 (n0 _ (fun e => hkb.ne_ hta (by decide) e) (fun e => hkb.ne_ hts (by decide) e))) (hrd.fr h1 (fun j hj => n0 j (hD j hj).2.1 (hD j hj).2.2)) hD hs).mono ?_
  rintro e w' ⟨A', c', m, hm, g2, g3, g4, g5, g6, g7⟩
  have hz := g6.size
  have hw0 := h1.size
  have hr : ∀ a, A' = some a → a.block < m ∧ W0.heap.size ≤ a.block := fun a ha => by
   rcases g5 a ha with ⟨a0, h8, h9⟩ | h8
   · have e1 := own_lt h4 a0.block (by rw [h8]; rfl)
     have e2 := h5 a0 h8
     dsimp only at e2
     omega
   · omega
  obtain ⟨Az1, cz1, Az2, cz2, Az3, cz3, Az4, cz4, he, hra⟩ := g7
  refine ⟨fun j => j = ta ∨ j = ts ∨ ∃ a, A' = some a ∧ a.block = j, ⟨h1.into g6 (fun j hj => ?_), g2, A', c', g3, g4, fun a ha => (hr a ha).2, fun j => Iff.rfl⟩, fun j hj => ?_, g6.mono (fun j _ hj => (h6 j).2 hj), Az1, cz1, Az2, cz2, Az3, cz3, Az4, cz4, he, hra.keep (Nat.le_refl _) (fun j hj _ => ⟨⟨⟨Nat.le_trans hm hj.1, hj.2⟩, fun hE => ?_⟩, rfl⟩)⟩
  · rcases hj with h | h | ⟨a, ha, h⟩
    · exact .inl (.inl h)
    · exact .inl (.inr h)
    · exact .inr (by have := h5 a ha; dsimp only at this; omega)
  · rcases hj with h | h | ⟨a, ha, h⟩
    · exact .inl ((h6 j).2 (.inl h))
    · exact .inl ((h6 j).2 (.inr (.inl h)))
    · rcases g5 a ha with ⟨a0, h8, h9⟩ | h8
      · exact .inl ((h6 j).2 (.inr (.inr ⟨a0, h8, by omega⟩)))
      · have := own_lt g4 a.block (by rw [ha]; rfl)
        exact .inr (by omega)
  · have h8 := hj.1
    rcases hE with h | h | ⟨a, ha, h⟩
    · omega
    · omega
    · have := (hr a ha).1
      omega
end Go.Proofs.Ytnfgilbaglfkeaa
namespace Go.Proofs.Ytnfgilbaglfkeaa
open Go.RowKit Go.Shelf
theorem ext_Elem : ∀ {x y : Elem}, x.id = y.id → x.attr = y.attr → x.value = y.value → x.acc = y.acc → x.goal = y.goal → x.tag = y.tag → x = y
 | ⟨u0, u1, u2, u3, u4, u5⟩, ⟨v0, v1, v2, v3, v4, v5⟩, h0, h1, h2, h3, h4, h5 => by simp only at *; simp [*]
instance : DecidableEq Elem := fun x y => decidable_of_iff (x.id = y.id ∧ x.attr = y.attr ∧ x.value = y.value ∧ x.acc = y.acc ∧ x.goal = y.goal ∧ x.tag = y.tag) ⟨fun ⟨h0, h1, h2, h3, h4, h5⟩ => ext_Elem h0 h1 h2 h3 h4 h5, fun h => by subst h; exact ⟨rfl, rfl, rfl, rfl, rfl, rfl⟩⟩
theorem eql_Elem (x y : Elem) (W : World) : (binOp .eql 53 (.agg #[.int .i64 x.id.kind, .string x.id.text, .int .i64 x.id.n, .int .i64 x.attr.kind, .string x.attr.text, .int .i64 x.attr.n, .int .i64 x.value.kind, .string x.value.text, .int .i64 x.value.n, .bool x.acc, .bool x.goal, .int .i64 x.tag]) (.agg #[.int .i64 y.id.kind, .string y.id.text, .int .i64 y.id.n, .int .i64 y.attr.kind, .string y.attr.text, .int .i64 y.attr.n, .int .i64 y.value.kind, .string y.value.text, .int .i64 y.value.n, .bool y.acc, .bool y.goal, .int .i64 y.tag])).run Try.prog W = .ok (.bool (decide (x = y))) W := by
 rw [run_eql_struct]
 go_simp
 by_cases h : x = y
 · subst h; simp
 · rw [decide_eq_false h]
   have hs : ∀ a b : Sym, a.kind = b.kind → a.text.toList = b.text.toList → a.n = b.n → a = b := fun a b h1 h2 h3 => Sym.ext' h1 (toList_inj h2) h3
   by_cases e0 : x.id.kind = y.id.kind
   case neg => rw [if_neg e0]
   rw [if_pos e0]
   by_cases e1 : x.id.text.toList = y.id.text.toList
   case neg => rw [if_neg e1]
   rw [if_pos e1]
   by_cases e2 : x.id.n = y.id.n
   case neg => rw [if_neg e2]
   rw [if_pos e2]
   by_cases e3 : x.attr.kind = y.attr.kind
   case neg => rw [if_neg e3]
   rw [if_pos e3]
   by_cases e4 : x.attr.text.toList = y.attr.text.toList
   case neg => rw [if_neg e4]
   rw [if_pos e4]
   by_cases e5 : x.attr.n = y.attr.n
   case neg => rw [if_neg e5]
   rw [if_pos e5]
   by_cases e6 : x.value.kind = y.value.kind
   case neg => rw [if_neg e6]
   rw [if_pos e6]
   by_cases e7 : x.value.text.toList = y.value.text.toList
   case neg => rw [if_neg e7]
   rw [if_pos e7]
   by_cases e8 : x.value.n = y.value.n
   case neg => rw [if_neg e8]
   rw [if_pos e8]
   by_cases e9 : x.acc = y.acc
   case neg => rw [if_neg e9]
   rw [if_pos e9]
   by_cases e10 : x.goal = y.goal
   case neg => rw [if_neg e10]
   rw [if_pos e10]
   by_cases e11 : x.tag = y.tag
   case neg => rw [if_neg e11]
   rw [if_pos e11]
   exact absurd (ext_Elem (hs _ _ e0 e1 e2) (hs _ _ e3 e4 e5) (hs _ _ e6 e7 e8) e9 e10 e11) h
def Among (l : List RecordT) (k : Nat) (e : TraceT) : Prop := ∃ j, ∃ h : j < l.length, j < k ∧ ∃ x ∈ l[j].elems, x.elem = e.elem ∧ x.level = e.level
def AmongE (l : List TraceT) (k : Nat) (e : TraceT) : Prop := ∃ j, ∃ h : j < l.length, j < k ∧ l[j].elem = e.elem ∧ l[j].level = e.level
theorem among_zero {l : List RecordT} {e : TraceT} : ¬ Among l 0 e := fun ⟨_, _, h, _⟩ => absurd h (by omega)
theorem amongE_zero {l : List TraceT} {e : TraceT} : ¬ AmongE l 0 e := fun ⟨_, _, h, _⟩ => absurd h (by omega)
theorem amongE_succ {l : List TraceT} {k : Nat} {e : TraceT} (hk : k < l.length) (h : AmongE l (k + 1) e) : AmongE l k e ∨ (l[k].elem = e.elem ∧ l[k].level = e.level) := by
 obtain ⟨j, h1, h2, h3⟩ := h
 rcases Nat.lt_or_ge j k with h4 | h4
 · exact .inl ⟨j, h1, h4, h3⟩
 · obtain rfl : j = k := by omega
   exact .inr h3
theorem among_succ {l : List RecordT} {k : Nat} {e : TraceT} (hk : k < l.length) (h : Among l (k + 1) e) : Among l k e ∨ AmongE l[k].elems l[k].elems.length e := by
 obtain ⟨j, h1, h2, x, h3, h5⟩ := h
 rcases Nat.lt_or_ge j k with h4 | h4
 · exact .inl ⟨j, h1, h4, x, h3, h5⟩
 · obtain rfl : j = k := by omega
   obtain ⟨m, hm, rfl⟩ := List.getElem_of_mem h3
   exact .inr ⟨m, hm, hm, h5⟩
structure GroundsT (l : List RecordT) (lv : Int) (T : TrailV) (dl : Nat) : Prop where
 vis : T.visited ≤ l.length
 sum : T.visited + T.lost = dl
 low : ∀ i, (h : i < T.elems.length) → T.elems[i].level < lv ∧ T.elems[i].cause = 0
 up : ∀ i, (h : i + 1 < T.elems.length) → T.elems[i].elem.tag < T.elems[i + 1].elem.tag
 am : ∀ i, (h : i < T.elems.length) → Among l l.length T.elems[i]
theorem grounds_true (l : List RecordT) (lv : Int) (nums : List Int) : GroundsT l lv (trailL l lv nums) (reach (lookR l) lv (l.map RecordT.num) nums []).length := by
 have hk := lookR_keys l
 have hel : (trailL l lv nums).elems = groundsOf lv (recsOf (lookR l) (reach (lookR l) lv (l.map RecordT.num) nums [])) := rfl
 have hmem : ∀ i, (h : i < (trailL l lv nums).elems.length) → ∃ p ∈ recsOf (lookR l) (reach (lookR l) lv (l.map RecordT.num) nums []), ∃ x ∈ p.2.elems, x.level < lv ∧ (trailL l lv nums).elems[i] = bare x := fun i h => mem_grounds (List.getElem_mem h)
 refine ⟨?_, ?_, fun i h => ?_, fun i h => ?_, fun i h => ?_⟩
 · have := recs_le (look := lookR l) (keys := l.map RecordT.num) hk (reach (lookR l) lv (l.map RecordT.num) nums [])
   rw [List.length_map] at this
   exact this
 · exact recs_lost (reach_nodup hk nums List.nodup_nil)
 · obtain ⟨p, _, x, _, h2, h3⟩ := hmem i h
   rw [h3]
   exact ⟨h2, rfl⟩
 · have := (srt_grounds lv (recsOf (lookR l) (reach (lookR l) lv (l.map RecordT.num) nums []))).lt (i := i) (j := i + 1) (by omega) h
   have e : cmpInt _ _ < 0 := this
   unfold cmpInt at e
   split at e
   · assumption
   · split at e <;> omega
 · obtain ⟨p, hp, x, hx, _, h3⟩ := hmem i h
   obtain ⟨_, h4, h5⟩ := mem_recs hp
   rw [h5] at hx
   obtain ⟨j, hj, h6⟩ := List.getElem_of_mem (lookR_num h4).1
   rw [← h6] at hx
   rw [h3]
   exact ⟨j, hj, hj, x, hx, rfl, rfl⟩
def GrPost (n : Nat) (T : TrailV) (dl ta ts : Nat) (w : World) (e : Ending) (w' : World) : Prop :=
 ∃ A1 c1 A2 c2 A3 c3 A4 c4 As cs, e = .returned (.agg #[.slice A1 T.elems.length c1, .slice A2 T.holes.length c2, .slice A3 T.aparts.length c3, .slice A4 T.news.length c4, .int .i64 (T.visited : Nat), .int .i64 (T.lost : Nat)]) ∧
   TrRep n T (· < w'.heap.size) w' A1 c1 A2 c2 A3 c3 A4 c4 ∧ Blk w' ta 3 #[.int .i64 (dl : Nat)] ∧ Blk w' ts 22 #[.slice As dl cs] ∧ dl ≤ maxLen ∧ Fr (fun j => j = ta ∨ j = ts) w w'
theorem gwalk {n kb ta ts tf : Nat} {A Ai : Option Addr} {c ci : Nat} {l : List RecordT} {D : Nat → Prop} (lv : Int) {nums : List Int} (w : World) (hta : Blk w ta 3 #[.int .i64 0]) (hts : Blk w ts 22 #[.slice none 0 0]) (htf : Blk w tf 35 #[.func (.func 47) #[] #[.pointer (some ⟨kb, 0, none⟩)]])
 (hk : Blk w kb 23 #[.slice A l.length c]) (hr : RowR (repRecordT n) D w A c l) (hD : ∀ k, D k → k < w.heap.size ∧ k ≠ ta ∧ k ≠ ts) (h0 : l.length ≤ 20 ∧ ∀ r ∈ l, SmR n r ∧ r.elems.length ≤ 20) (hi : RowRd w 1 Int.cells1 Ai ci nums) (hn : nums.length ≤ 100) :
 Calls Try.prog 11 #[.int .i64 lv, .slice Ai nums.length ci, .func (.func 20) #[] #[.pointer (some ⟨ta, 0, none⟩), .pointer (some ⟨ts, 0, none⟩), .pointer (some ⟨tf, 0, none⟩)]] w (GrPost n (trailL l lv nums) (reach (lookR l) lv (l.map RecordT.num) nums []).length ta ts w) := by
 have hf := gf_spec n kb ta ts tf l A c w hta hts htf hk hr hD (fun r hr => (h0.2 r hr).1)
 have h1 := light_cost (l := l) h0.1 (fun r hr => (h0.2 r hr).2) lv nums hn
 refine (walk_is hf (l.map RecordT.num) (lookR_keys l) (lookR_all (smR_zero n) (fun r hr => (h0.2 r hr).1)) lv nums Ai ci (E0 := fun j => j = ta ∨ j = ts) w ⟨Fr.refl _ _, hta, none, 0, hts, owns_nilC _ _ _, AIn.none_ _, fun j => ⟨fun h => h.elim .inl (fun h => .inr (.inl h)), fun h => h.elim .inl (fun h => h.elim .inr (fun ⟨_, h, _⟩ => by cases h))⟩⟩ (Nat.le_refl _) hi h1.1 h1.2).mono ?_
 rintro e w' ⟨A1, c1, A2, c2, A3, c3, A4, c4, E', he, g1, g2, g3, g4, ⟨hF, k2, As, cs, k3, k4, _, _⟩, _, _⟩
 obtain ⟨_, _, hv, k6, k7, _⟩ := own_form2 k4
 exact ⟨A1, c1, A2, c2, A3, c3, A4, c4, As, cs, he, ⟨g1, g2, g3, g4⟩, k2, k3, Nat.le_trans k6 k7, hF⟩
end Go.Proofs.Ytnfgilbaglfkeaa
namespace Go.Proofs.Ytnfgilbaglfkeaa
open Go.RowKit Go.Shelf
set_option maxRecDepth 100000 in
set_option maxHeartbeats 16000000 in
theorem grounds_walk (n : Nat) (lv : Int) (nums : List Int) (l : List RecordT) (A1 A2 : Option Addr) (c1 c2 : Nat) (w : World) (h1 : RowRd w 1 Int.cells1 A1 c1 nums) (h2 : RowR (repRecordT n) (· < w.heap.size) w A2 c2 l) :
 Calls Try.prog 5 #[.int .i64 lv, .slice A1 nums.length c1, .slice A2 l.length c2] w fun e w' => e = .returned (.bool true) ∧ Below w.heap.size w w' := by
 have H1 := Lib.hid h1
 have H2 := Lib.hid h2
 have hc1 := h1.cap
 have hc2 := h2.cap
 clear h1 h2
 have HB := Lib.hid (Below.refl w.heap.size w)
 go_enter Try.func5, Try.ntmps5
 by_cases hd0 : (20 : Int) < (nums.length : Int)
 · skip
   have d0 : decide ((20 : Int) < (nums.length : Int)) = true := by simpa using hd0
   clear hd0
   go_wp2_with fail
   with_reducible refine (wakes21_is _).mono ?_
   rintro e w2 ⟨rfl, hb⟩
   have hbs := Below.trans (show Below w.heap.size w _ from (by (repeat (first | exact Below.refl _ _ | refine Below.drew ?_ | refine Below.al ?_ _ | refine Below.sc ?_ _)))) (hb.mono (by simp <;> omega))
   have HB := Lib.hid (HB.out.trans (hbs.mono HB.out.size))
   have hsz2 := hbs.size
   clear  hb hbs
   go_wp2_with fail
   go_ret
   exact ⟨rfl, by (repeat (first | exact Below.refl _ _ | exact HB.out | refine Below.drew ?_ | refine Below.al ?_ _ | refine Below.sc ?_ _))⟩
 · skip
   have d0 : decide ((20 : Int) < (nums.length : Int)) = false := by simpa using hd0
   have HL0 := Lib.hid (show nums.length ≤ 20 by omega)
   clear hd0
   go_wp2_with fail
   with_reducible refine (heavy21_is n A2 c2 l _ (H2.out.new_ HB.out)).mono ?_
   rintro e w2 ⟨bh, rfl, hb, hnh⟩
   have hbs := Below.trans (show Below w.heap.size w _ from (by (repeat (first | exact Below.refl _ _ | refine Below.drew ?_ | refine Below.al ?_ _ | refine Below.sc ?_ _)))) (hb.mono (by simp <;> omega))
   have HB := Lib.hid (HB.out.trans (hbs.mono HB.out.size))
   have hsz2 := hbs.size
   clear  hb hbs
   have HNH := Lib.hid hnh
   clear hnh
   cases bh
   · skip
     have HSM := Lib.hid (HNH.out rfl)
     clear HNH
     go_wp2_with fail
     with_reducible refine (mkfind_is l A2 c2 _).mono ?_
     rintro e w3 ⟨rfl, hb, hkb⟩
     have hbs := Below.trans (show Below w2.heap.size w2 _ from (by (repeat (first | exact Below.refl _ _ | refine Below.drew ?_ | refine Below.al ?_ _ | refine Below.sc ?_ _)))) (hb.mono (by simp <;> omega))
     have Kt := Lib.hid (show Blk w3 (w2.heap.size) 3 #[.int .i64 0] from ((Blk.new _ _ _).alloc _).new_ hb)
     have Ks := Lib.hid (show Blk w3 (w2.heap.size + 1) 22 #[.slice none 0 0] from ((show Blk ((w2.alloc (.cells #[.int .i64 0] 3)).alloc (.cells #[.slice none 0 0] 22)) (w2.heap.size + 1) 22 #[.slice none 0 0] by have hh := Blk.new (w2.alloc (.cells #[.int .i64 0] 3)) 22 #[.slice none 0 0]; simp only [World.size_alloc] at hh; exact hh)).new_ hb)
     have HB := Lib.hid (HB.out.trans (hbs.mono HB.out.size))
     have hsz3 := hbs.size
     clear  hb hbs
     have t0 := Kt.out.c1
     have tz := Kt.out.lt
     have s0 := Ks.out.c1
     have sz := Ks.out.lt
     have HKB := Lib.hid hkb
     have hwt : w.heap.size ≤ w2.heap.size := by have := HB.out.size; omega
     clear hkb
     simp only [World.size_alloc, Nat.add_assoc, Nat.reduceAdd] at HKB ⊢
     generalize w2.heap.size = ta at HKB Kt Ks hwt tz sz ⊢
     generalize hkbv : ta + 2 = kb at HKB ⊢
     obtain ⟨W4, hW4⟩ : ∃ W4, W4 = w3.alloc (.cells #[.func (.func 47) #[] #[.pointer (some ⟨kb, 0, none⟩)]] 35) := ⟨_, rfl⟩
     have hb4 : Below w3.heap.size w3 W4 := by rw [hW4]; exact (Below.refl _ _).alloc (Nat.le_refl _) _
     have Kf := Lib.hid (show Blk W4 w3.heap.size 35 #[.func (.func 47) #[] #[.pointer (some ⟨kb, 0, none⟩)]] by rw [hW4]; exact Blk.new _ _ _)
     have Kt := Lib.hid (Kt.out.new_ hb4)
     have Ks := Lib.hid (Ks.out.new_ hb4)
     have HKB := Lib.hid (HKB.out.new_ hb4)
     have HB := Lib.hid (HB.out.trans (hb4.mono HB.out.size))
     clear hb4 hkbv
     go_upto_region 6 with fail
     rw [← hW4]
     clear hW4
     generalize w3.heap.size = tf at Kf ⊢
     have HD := Lib.hid (show ∀ k, k < w.heap.size → k < W4.heap.size ∧ k ≠ ta ∧ k ≠ ta + 1 from fun k hk => ⟨Nat.lt_of_lt_of_le hk HB.out.size, by omega, by omega⟩)
     have HW := Lib.hid (gwalk lv W4 Kt.out Ks.out Kf.out HKB.out (H2.out.new_ HB.out) HD.out HSM.out (H1.out.new_ HB.out) (by have := HL0.out; omega))
     obtain ⟨T, hT⟩ : ∃ T, T = trailL l lv nums := ⟨_, rfl⟩
     obtain ⟨dl, hdl⟩ : ∃ dl, dl = (reach (lookR l) lv (l.map RecordT.num) nums []).length := ⟨_, rfl⟩
     have HGT := Lib.hid (grounds_true l lv nums)
     rw [← hT, ← hdl] at HW HGT
     clear hT hdl
     go_wp2_with fail
     with_reducible refine HW.out.mono ?_
     rintro e w5 ⟨Aa1, aa1, Aa2, aa2, Aa3, aa3, Aa4, aa4, As, cs, rfl, htr, k1, k2, hdm, hF5⟩
     have HB := Lib.hid (HB.out.trans (hF5.below HB.out.size (fun k hk h => by omega)))
     have HTR := Lib.hid htr.1
     have Kt := Lib.hid k1
     have Ks := Lib.hid k2
     clear htr k1 k2 hF5 HW HD HKB Kf tz sz t0 s0
     obtain ⟨W6, hW6⟩ : ∃ W6, W6 = w5.alloc (.cells #[.slice Aa1 T.elems.length aa1, .slice Aa2 T.holes.length aa2, .slice Aa3 T.aparts.length aa3, .slice Aa4 T.news.length aa4, .int .i64 (T.visited : Nat), .int .i64 (T.lost : Nat)] 32) := ⟨_, rfl⟩
     have hb6 : Below w5.heap.size w5 W6 := by rw [hW6]; exact (Below.refl _ _).alloc (Nat.le_refl _) _
     have Ka := Lib.hid (show Blk W6 w5.heap.size 32 #[.slice Aa1 T.elems.length aa1, .slice Aa2 T.holes.length aa2, .slice Aa3 T.aparts.length aa3, .slice Aa4 T.news.length aa4, .int .i64 (T.visited : Nat), .int .i64 (T.lost : Nat)] by rw [hW6]; exact Blk.new _ _ _)
     have Kt := Lib.hid (Kt.out.new_ hb6)
     have Ks := Lib.hid (Ks.out.new_ hb6)
     have HTR := Lib.hid (HTR.out.new_ hb6)
     have HB := Lib.hid (HB.out.trans (hb6.mono HB.out.size))
     clear hb6
     go_upto_region 7 with fail
     rw [← hW6]
     clear hW6
     generalize w5.heap.size = tr at Ka ⊢
     obtain ⟨a0, -, -, -, a4, a5⟩ := Ka.out.c6
     have har := Ka.out.lt
     have b0 := Kt.out.c1
     have b1_ := Ks.out.c1
     have hbt := Kt.out.lt
     have hbs := Ks.out.lt
     have hdm' : (dl : Int) ≤ 9223372036854775807 := by unfold maxLen at hdm; omega
     have hsum := HGT.out.sum
     have hs1 : (T.visited : Int) + (T.lost : Int) ≤ 9223372036854775807 := by omega
     have d1 : decide (l.length < T.visited) = false := by have := HGT.out.vis; simp; omega
     have d2 : ((T.visited : Int) + (T.lost : Int) != (dl : Int)) = false := by simp; omega
     have kT := HTR.out.cap
     clear hsum
     go_wp2_with fail
     clear a0 a4 a5 b0 b1_ d1 d2 hs1
     go_loopw [11] (fun s wr => ∃ i : Nat, s = .int .i64 i ∧ i ≤ T.elems.length ∧ Below W6.heap.size W6 wr) (fun s wr => T.elems.length - (intOf s).toNat)
     case atStart => exact ⟨0, rfl, Nat.zero_le _, Below.refl _ _⟩
     case round =>
      obtain ⟨i, rfl, hi, hB⟩ := hrel
      have a0 := ((Ka.out.new_ hB).cell 0).trans rfl
      have har := (Ka.out.new_ hB).lt
      have HBi := Lib.hid hB
      clear hB
      by_cases hlt : i < T.elems.length
      · obtain ⟨e0, he0⟩ : ∃ e0, e0 = T.elems[i] := ⟨_, rfl⟩
        obtain ⟨g, off, hA, _, hg, q0, q1, q2, q3, q4, q5, q6, q7, q8, q9, q10, q11, q12, q13⟩ := at_TraceT (HTR.out.new_ HBi.out) hlt
        subst hA
        rw [← he0] at q0 q1 q2 q3 q4 q5 q6 q7 q8 q9 q10 q11 q12 q13
        have HLO := Lib.hid (show e0.level < lv ∧ e0.cause = 0 by rw [he0]; exact HGT.out.low i hlt)
        have HAM := Lib.hid (show Among l l.length e0 by rw [he0]; exact HGT.out.am i hlt)
        have HE0 := Lib.hid he0
        have j1 : (0 : Int) ≤ (i : Int) := by omega
        have j2 : (i : Int) < (T.elems.length : Int) := by omega
        clear he0
        go_upto_region 13 with fail
        obtain ⟨W9, hW9⟩ : ∃ W9, W9 = wr.alloc (.cells #[.int .i64 e0.elem.id.kind, .string e0.elem.id.text, .int .i64 e0.elem.id.n, .int .i64 e0.elem.attr.kind, .string e0.elem.attr.text, .int .i64 e0.elem.attr.n, .int .i64 e0.elem.value.kind, .string e0.elem.value.text, .int .i64 e0.elem.value.n, .bool e0.elem.acc, .bool e0.elem.goal, .int .i64 e0.elem.tag, .int .i64 e0.level, .int .i64 e0.cause] 55) := ⟨_, rfl⟩
        have hb9 : Below wr.heap.size wr W9 := by rw [hW9]; exact (Below.refl _ _).alloc (Nat.le_refl _) _
        have Kx := Lib.hid (show Blk W9 wr.heap.size 55 #[.int .i64 e0.elem.id.kind, .string e0.elem.id.text, .int .i64 e0.elem.id.n, .int .i64 e0.elem.attr.kind, .string e0.elem.attr.text, .int .i64 e0.elem.attr.n, .int .i64 e0.elem.value.kind, .string e0.elem.value.text, .int .i64 e0.elem.value.n, .bool e0.elem.acc, .bool e0.elem.goal, .int .i64 e0.elem.tag, .int .i64 e0.level, .int .i64 e0.cause] by rw [hW9]; exact Blk.new _ _ _)
        rw [← hW9]
        have HB9 := Lib.hid (HBi.out.trans (hb9.mono HBi.out.size))
        clear hW9 hb9 q0 q1 q2 q3 q4 q5 q6 q7 q8 q9 q10 q11 q12 q13 a0 hg har
        generalize wr.heap.size = tx at Kx ⊢
        have a0 := ((Ka.out.new_ HB9.out).cell 0).trans rfl
        have har := (Ka.out.new_ HB9.out).lt
        have x11 := (Kx.out.cell 11).trans rfl
        have x12 := (Kx.out.cell 12).trans rfl
        have x13 := (Kx.out.cell 13).trans rfl
        have hxl := Kx.out.lt
        have d1 : decide (lv ≤ e0.level) = false := by have := HLO.out.1; simp; omega
        have d2 : (e0.cause != 0) = false := by have := HLO.out.2; simp [this]
        have tail : ∀ (Wt : World) (Q : Prop), Below W6.heap.size W6 Wt → True := fun _ _ _ => trivial
        clear tail
        obtain ⟨bz, hbz⟩ : ∃ bz, bz = decide (0 < i) := ⟨_, rfl⟩
        cases bz
        · have d3 : decide ((0 : Int) < (i : Int)) = false := by have := hbz.symm; simp at this ⊢; omega
          have d4 : decide (0 < i) = false := hbz.symm
          clear hbz
          go_wp2_with fail
          go_quiet (fail)
          have HB10 := Lib.hid (Below.drewN' HB9.out nq)
          have Kx := Lib.hid (Kx.out.drewN nq)
          obtain ⟨WI, hWI⟩ : ∃ WI, WI = W9.drewN nq := ⟨_, rfl⟩
          rw [← hWI] at HB10 Kx ⊢
          clear hWI a0 x11 x12 x13 hxl har d3 d4 HB9
          go_upto_region 15 with fail
          go_wp2_with fail
          go_loopw [13, 14] (fun s s' wq => ∃ (k : Nat) (b : Bool), s' = .int .i64 k ∧ s = .bool b ∧ k ≤ l.length ∧ (Among l k e0 → b = true) ∧ Below WI.heap.size WI wq) (fun _ s' wq => l.length - (intOf s').toNat)
          case atStart => exact ⟨0, false, rfl, rfl, Nat.zero_le _, fun h => absurd h among_zero, Below.refl _ _⟩
          case round =>
           obtain ⟨k, b, rfl, rfl, hk, hab, hB2⟩ := hrel
           have HAB := Lib.hid hab
           have HB2 := Lib.hid hB2
           have HBk := Lib.hid (HB10.out.trans (hB2.mono HB10.out.size))
           clear hab hB2
           by_cases hlt2 : k < l.length
           · obtain ⟨r, hr⟩ : ∃ r, r = l[k] := ⟨_, rfl⟩
             have HR := Lib.hid hr
             obtain ⟨WK, hWK⟩ : ∃ WK, WK = wr := ⟨_, rfl⟩
             rw [← hWK] at HB2 HBk ⊢
             have j5 : (0 : Int) ≤ (k : Int) := by omega
             have j6 : (k : Int) < (l.length : Int) := by omega
             clear hWK hr
             go_wp2_with fail
             go_loopw [13, 15] (fun s s' wz => ∃ (m : Nat) (b' : Bool), s' = .int .i64 m ∧ s = .bool b' ∧ m ≤ r.elems.length ∧ ((Among l k e0 ∨ AmongE r.elems m e0) → b' = true) ∧ Below WK.heap.size WK wz) (fun _ s' wz => r.elems.length - (intOf s').toNat)
             case atStart => exact ⟨0, b, rfl, rfl, Nat.zero_le _, fun h => h.elim HAB.out (fun h => absurd h amongE_zero), Below.refl _ _⟩
             case round =>
              obtain ⟨m, b', rfl, rfl, hm, hab, hB3⟩ := hrel
              have HAE := Lib.hid hab
              have HBm := Lib.hid (HBk.out.trans (hB3.mono HBk.out.size))
              have HBx := Lib.hid (HB2.out.trans (hB3.mono HB2.out.size))
              have HB3 := Lib.hid hB3
              clear hab hB3
              obtain ⟨gr, or_, Ar1, cr1, Ar2, cr2, Ar3, cr3, Ar4, cr4, hA, _, hgr, -, -, p2, -, -, -, hre, -, -, -⟩ := at_RecordT (H2.out.new_ (HB.out.trans (HBm.out.mono HB.out.size))) hlt2
              subst hA
              rw [← HR.out] at p2 hre
              have HRE := Lib.hid hre
              have hrc := hre.cap
              clear hre
              by_cases hlt3 : m < r.elems.length
              · obtain ⟨x, hx⟩ : ∃ x, x = r.elems[m] := ⟨_, rfl⟩
                obtain ⟨gx, ox, hA, _, hgx, q0, q1, q2, q3, q4, q5, q6, q7, q8, q9, q10, q11, q12, q13⟩ := at_TraceT HRE.out hlt3
                subst hA
                rw [← hx] at q0 q1 q2 q3 q4 q5 q6 q7 q8 q9 q10 q11 q12 q13
                have HSU := Lib.hid (show AmongE r.elems (m + 1) e0 → AmongE r.elems m e0 ∨ (x.elem = e0.elem ∧ x.level = e0.level) by rw [hx]; exact amongE_succ hlt3)
                have j7 : (0 : Int) ≤ (m : Int) := by omega
                have j8 : (m : Int) < (r.elems.length : Int) := by omega
                have y0 := ((Kx.out.new_ HBx.out).cell 0).trans rfl
                have y1 := ((Kx.out.new_ HBx.out).cell 1).trans rfl
                have y2 := ((Kx.out.new_ HBx.out).cell 2).trans rfl
                have y3 := ((Kx.out.new_ HBx.out).cell 3).trans rfl
                have y4 := ((Kx.out.new_ HBx.out).cell 4).trans rfl
                have y5 := ((Kx.out.new_ HBx.out).cell 5).trans rfl
                have y6 := ((Kx.out.new_ HBx.out).cell 6).trans rfl
                have y7 := ((Kx.out.new_ HBx.out).cell 7).trans rfl
                have y8 := ((Kx.out.new_ HBx.out).cell 8).trans rfl
                have y9 := ((Kx.out.new_ HBx.out).cell 9).trans rfl
                have y10 := ((Kx.out.new_ HBx.out).cell 10).trans rfl
                have y11 := ((Kx.out.new_ HBx.out).cell 11).trans rfl
                have y12 := ((Kx.out.new_ HBx.out).cell 12).trans rfl
                have hxl := (Kx.out.new_ HBx.out).lt
                clear hx q13
                cases b'
                · obtain ⟨eb, heb⟩ : ∃ eb, eb = decide (x.elem = e0.elem) := ⟨_, rfl⟩
                  obtain ⟨lb, hlb⟩ : ∃ lb, lb = (x.level == e0.level) := ⟨_, rfl⟩
                  have hbe := fun W => eql_Elem x.elem e0.elem W
                  rw [← heb] at hbe
                  have tl : (x.level == e0.level) = lb := hlb.symm
                  have HNW := Lib.hid (show (Among l k e0 ∨ AmongE r.elems (m + 1) e0) → (eb && lb) = true from fun h => by
                   rcases h with h | h
                   · exact absurd (HAE.out (.inl h)) (by decide)
                   · rcases HSU.out h with h | ⟨h1, h2⟩
                     · exact absurd (HAE.out (.inr h)) (by decide)
                     · rw [heb, hlb, decide_eq_true h1, h2]; simp)
                  clear heb hlb
                  cases eb <;> cases lb
                  all_goals
                   go_wp2_with fail
                   go_quiet (fail)
                   have HB4 := Lib.hid (Below.drewN' HB3.out nq)
                   clear q0 q1 q2 q3 q4 q5 q6 q7 q8 q9 q10 q11 q12 p2 y0 y1 y2 y3 y4 y5 y6 y7 y8 y9 y10 y11 y12
                   go_wp2_with fail
                   go_roundw
                   case rel => exact ⟨m + 1, _, by go_num, rfl, by omega, HNW.out, HB4.out⟩
                   case measure => simp [intOf] <;> omega
                · go_wp2_with fail
                  go_quiet (fail)
                  have HB4 := Lib.hid (Below.drewN' HB3.out nq)
                  clear q0 q1 q2 q3 q4 q5 q6 q7 q8 q9 q10 q11 q12 p2 y0 y1 y2 y3 y4 y5 y6 y7 y8 y9 y10 y11 y12
                  go_wp2_with fail
                  go_roundw
                  case rel => exact ⟨m + 1, true, by go_num, rfl, by omega, fun _ => rfl, HB4.out⟩
                  case measure => simp [intOf] <;> omega
              · obtain rfl : m = r.elems.length := by omega
                have HAK := Lib.hid (show Among l (k + 1) e0 → b' = true from fun h => HAE.out ((among_succ hlt2 h).imp id (fun h => by rw [HR.out]; exact h)))
                go_wp2_with fail
                go_roundw
                case rel => exact ⟨k + 1, b', by go_num, rfl, by omega, HAK.out, HBx.out⟩
                case measure => simp [intOf] <;> omega
           · obtain rfl : k = l.length := by omega
             obtain rfl : b = true := HAB.out HAM.out
             go_wp2_with fail
             go_roundw
             case rel => exact ⟨i + 1, by go_num, by omega, HBk.out⟩
             case measure => simp [intOf] <;> omega
        · have hi0 : 0 < i := by simpa using hbz.symm
          have d3 : decide ((0 : Int) < (i : Int)) = true := by simp; omega
          have d4 : decide (0 < i) = true := hbz.symm
          obtain ⟨m, hm⟩ : ∃ m, m + 1 = i := ⟨i - 1, by omega⟩
          have hmlt : m < T.elems.length := by omega
          obtain ⟨g2, off2, hA, hg2, hq2⟩ := tag_at (HTR.out.new_ HB9.out) hmlt
          obtain ⟨pt, hpt⟩ : ∃ pt, pt = T.elems[m].elem.tag := ⟨_, rfl⟩
          rw [← hpt] at hq2
          have d5 : decide (e0.elem.tag ≤ pt) = false := by
           have := HGT.out.up m (by omega)
           rw [HE0.out, hpt]
           simp only [hm] at this
           simp; omega
          injection hA with hA
          injection hA with hA1 hA2
          subst hA1
          subst hA2
          have v1 : IntKind.i64.wrap ((i : Int) - 1) = (m : Int) := by rw [show ((i : Int) - 1) = (m : Int) by omega]; exact IntWalk.i64_in _ (by omega)
          have j3 : (0 : Int) ≤ (m : Int) := by omega
          have j4 : (m : Int) < (T.elems.length : Int) := by omega
          clear hbz hm hpt hmlt hi0
          go_wp2_with fail
          go_quiet (fail)
          have HB10 := Lib.hid (Below.drewN' HB9.out nq)
          have Kx := Lib.hid (Kx.out.drewN nq)
          obtain ⟨WI, hWI⟩ : ∃ WI, WI = W9.drewN nq := ⟨_, rfl⟩
          rw [← hWI] at HB10 Kx ⊢
          clear hWI a0 x11 x12 x13 hxl har d3 d4 d5 v1 hq2 hg2 j3 j4 HB9
          go_upto_region 15 with fail
          go_wp2_with fail
          go_loopw [13, 14] (fun s s' wq => ∃ (k : Nat) (b : Bool), s' = .int .i64 k ∧ s = .bool b ∧ k ≤ l.length ∧ (Among l k e0 → b = true) ∧ Below WI.heap.size WI wq) (fun _ s' wq => l.length - (intOf s').toNat)
          case atStart => exact ⟨0, false, rfl, rfl, Nat.zero_le _, fun h => absurd h among_zero, Below.refl _ _⟩
          case round =>
           obtain ⟨k, b, rfl, rfl, hk, hab, hB2⟩ := hrel
           have HAB := Lib.hid hab
           have HB2 := Lib.hid hB2
           have HBk := Lib.hid (HB10.out.trans (hB2.mono HB10.out.size))
           clear hab hB2
           by_cases hlt2 : k < l.length
           · obtain ⟨r, hr⟩ : ∃ r, r = l[k] := ⟨_, rfl⟩
             have HR := Lib.hid hr
             obtain ⟨WK, hWK⟩ : ∃ WK, WK = wr := ⟨_, rfl⟩
             rw [← hWK] at HB2 HBk ⊢
             have j5 : (0 : Int) ≤ (k : Int) := by omega
             have j6 : (k : Int) < (l.length : Int) := by omega
             clear hWK hr
             go_wp2_with fail
             go_loopw [13, 15] (fun s s' wz => ∃ (m : Nat) (b' : Bool), s' = .int .i64 m ∧ s = .bool b' ∧ m ≤ r.elems.length ∧ ((Among l k e0 ∨ AmongE r.elems m e0) → b' = true) ∧ Below WK.heap.size WK wz) (fun _ s' wz => r.elems.length - (intOf s').toNat)
             case atStart => exact ⟨0, b, rfl, rfl, Nat.zero_le _, fun h => h.elim HAB.out (fun h => absurd h amongE_zero), Below.refl _ _⟩
             case round =>
              obtain ⟨m, b', rfl, rfl, hm, hab, hB3⟩ := hrel
              have HAE := Lib.hid hab
              have HBm := Lib.hid (HBk.out.trans (hB3.mono HBk.out.size))
              have HBx := Lib.hid (HB2.out.trans (hB3.mono HB2.out.size))
              have HB3 := Lib.hid hB3
              clear hab hB3
              obtain ⟨gr, or_, Ar1, cr1, Ar2, cr2, Ar3, cr3, Ar4, cr4, hA, _, hgr, -, -, p2, -, -, -, hre, -, -, -⟩ := at_RecordT (H2.out.new_ (HB.out.trans (HBm.out.mono HB.out.size))) hlt2
              subst hA
              rw [← HR.out] at p2 hre
              have HRE := Lib.hid hre
              have hrc := hre.cap
              clear hre
              by_cases hlt3 : m < r.elems.length
              · obtain ⟨x, hx⟩ : ∃ x, x = r.elems[m] := ⟨_, rfl⟩
                obtain ⟨gx, ox, hA, _, hgx, q0, q1, q2, q3, q4, q5, q6, q7, q8, q9, q10, q11, q12, q13⟩ := at_TraceT HRE.out hlt3
                subst hA
                rw [← hx] at q0 q1 q2 q3 q4 q5 q6 q7 q8 q9 q10 q11 q12 q13
                have HSU := Lib.hid (show AmongE r.elems (m + 1) e0 → AmongE r.elems m e0 ∨ (x.elem = e0.elem ∧ x.level = e0.level) by rw [hx]; exact amongE_succ hlt3)
                have j7 : (0 : Int) ≤ (m : Int) := by omega
                have j8 : (m : Int) < (r.elems.length : Int) := by omega
                have y0 := ((Kx.out.new_ HBx.out).cell 0).trans rfl
                have y1 := ((Kx.out.new_ HBx.out).cell 1).trans rfl
                have y2 := ((Kx.out.new_ HBx.out).cell 2).trans rfl
                have y3 := ((Kx.out.new_ HBx.out).cell 3).trans rfl
                have y4 := ((Kx.out.new_ HBx.out).cell 4).trans rfl
                have y5 := ((Kx.out.new_ HBx.out).cell 5).trans rfl
                have y6 := ((Kx.out.new_ HBx.out).cell 6).trans rfl
                have y7 := ((Kx.out.new_ HBx.out).cell 7).trans rfl
                have y8 := ((Kx.out.new_ HBx.out).cell 8).trans rfl
                have y9 := ((Kx.out.new_ HBx.out).cell 9).trans rfl
                have y10 := ((Kx.out.new_ HBx.out).cell 10).trans rfl
                have y11 := ((Kx.out.new_ HBx.out).cell 11).trans rfl
                have y12 := ((Kx.out.new_ HBx.out).cell 12).trans rfl
                have hxl := (Kx.out.new_ HBx.out).lt
                clear hx q13
                cases b'
                · obtain ⟨eb, heb⟩ : ∃ eb, eb = decide (x.elem = e0.elem) := ⟨_, rfl⟩
                  obtain ⟨lb, hlb⟩ : ∃ lb, lb = (x.level == e0.level) := ⟨_, rfl⟩
                  have hbe := fun W => eql_Elem x.elem e0.elem W
                  rw [← heb] at hbe
                  have tl : (x.level == e0.level) = lb := hlb.symm
                  have HNW := Lib.hid (show (Among l k e0 ∨ AmongE r.elems (m + 1) e0) → (eb && lb) = true from fun h => by
                   rcases h with h | h
                   · exact absurd (HAE.out (.inl h)) (by decide)
                   · rcases HSU.out h with h | ⟨h1, h2⟩
                     · exact absurd (HAE.out (.inr h)) (by decide)
                     · rw [heb, hlb, decide_eq_true h1, h2]; simp)
                  clear heb hlb
                  cases eb <;> cases lb
                  all_goals
                   go_wp2_with fail
                   go_quiet (fail)
                   have HB4 := Lib.hid (Below.drewN' HB3.out nq)
                   clear q0 q1 q2 q3 q4 q5 q6 q7 q8 q9 q10 q11 q12 p2 y0 y1 y2 y3 y4 y5 y6 y7 y8 y9 y10 y11 y12
                   go_wp2_with fail
                   go_roundw
                   case rel => exact ⟨m + 1, _, by go_num, rfl, by omega, HNW.out, HB4.out⟩
                   case measure => simp [intOf] <;> omega
                · go_wp2_with fail
                  go_quiet (fail)
                  have HB4 := Lib.hid (Below.drewN' HB3.out nq)
                  clear q0 q1 q2 q3 q4 q5 q6 q7 q8 q9 q10 q11 q12 p2 y0 y1 y2 y3 y4 y5 y6 y7 y8 y9 y10 y11 y12
                  go_wp2_with fail
                  go_roundw
                  case rel => exact ⟨m + 1, true, by go_num, rfl, by omega, fun _ => rfl, HB4.out⟩
                  case measure => simp [intOf] <;> omega
              · obtain rfl : m = r.elems.length := by omega
                have HAK := Lib.hid (show Among l (k + 1) e0 → b' = true from fun h => HAE.out ((among_succ hlt2 h).imp id (fun h => by rw [HR.out]; exact h)))
                go_wp2_with fail
                go_roundw
                case rel => exact ⟨k + 1, b', by go_num, rfl, by omega, HAK.out, HBx.out⟩
                case measure => simp [intOf] <;> omega
           · obtain rfl : k = l.length := by omega
             obtain rfl : b = true := HAB.out HAM.out
             go_wp2_with fail
             go_roundw
             case rel => exact ⟨i + 1, by go_num, by omega, HBk.out⟩
             case measure => simp [intOf] <;> omega
      · obtain rfl : i = T.elems.length := by omega
        have HBE := Lib.hid (HB.out.trans (HBi.out.mono HB.out.size))
        have b0 := (Kt.out.new_ HBi.out).c1
        have b1_ := (Ks.out.new_ HBi.out).c1
        have hbt := (Kt.out.new_ HBi.out).lt
        have hbs := (Ks.out.new_ HBi.out).lt
        go_wp2_with fail
        refine (wakes21_is _).mono ?_
        rintro e w10 ⟨rfl, hb10⟩
        have HB10 := Lib.hid (HBE.out.trans (hb10.mono HBE.out.size))
        clear hb10
        go_wp2_with fail
        go_ret
        exact ⟨rfl, HB10.out⟩
   · skip
     go_wp2_with fail
     with_reducible refine (wakes21_is _).mono ?_
     rintro e w3 ⟨rfl, hb⟩
     have hbs := Below.trans (show Below w2.heap.size w2 _ from (by (repeat (first | exact Below.refl _ _ | refine Below.drew ?_ | refine Below.al ?_ _ | refine Below.sc ?_ _)))) (hb.mono (by simp <;> omega))
     have HB := Lib.hid (HB.out.trans (hbs.mono HB.out.size))
     have hsz3 := hbs.size
     clear  hb hbs
     go_wp2_with fail
     go_ret
     exact ⟨rfl, by (repeat (first | exact Below.refl _ _ | exact HB.out | refine Below.drew ?_ | refine Below.al ?_ _ | refine Below.sc ?_ _))⟩
end Go.Proofs.Ytnfgilbaglfkeaa
namespace Go.Proofs.Ytnfgilbaglfkeaa
open Go.ChangeShapes Go.WideShapes Go.ChangeAt Go.RowKit Go.Deep
theorem own_grounds : ownKnob Try.prog.godebug = none := by kernel_rfl
theorem laid_grounds : laidOutB Try.prog = true := by kernel_rfl
set_option maxRecDepth 100000 in
theorem grounds_lifted (os : Os) (started : os.Started) (H : Type) (enc : TypeId × Value → H) :
 ReturnsInHanded {} Try.checked os 5 .any (Rows.backGroundsSpec.pre6 enc Try.prog Try.f5 Rows.backGroundsRow.domain false) (Rows.backGroundsSpec.post enc Try.prog Try.f5 false true false false) := by
 refine returnsInHanded_of_change (C := Try.checked) own_grounds started (by kernel_rfl) Try.func5
  (ChangeSpec.witness6 (enc := enc) (C := Try.checked) false ⟨#[], #[.int .i64 0, .slice none 0 0, .slice none 0 0], []⟩ 8 (by kernel_rfl) (by kernel_rfl) (by kernel_rfl) (by kernel_rfl)) ?_
 intro W base args ds gs before hval0 hW hcnd _
 have hval : ∀ (j : Nat) t v, Try.f5.params[j]? = some t → args[j]? = some v → Value.okWide Try.prog W .any base t v := hval0
 have hW' := hW
 obtain ⟨p, q, hA0, hV, rfl, hfz, hnd⟩ := hW
 have hA : DataW.TrodAll enc Try.prog W 0 (fun _ => true) true Try.f5.params.toList args.toList ds p := hA0
 rw [Try.params5] at hA hval
 obtain ⟨v0, v1, v2, d0, d1, d2, p0, p1, p2, rfl, rfl, rfl, h0, h1, h2⟩ := trodAll_three hA
 obtain ⟨rfl, rfl⟩ := trodVars_none hV
 obtain ⟨n0, rfl, _, _, _⟩ := open_int Try.underlying3 (hval 0 3 v0 rfl rfl) h0
 obtain ⟨A1, c1, l1, rfl, r1⟩ := open_row Try.underlying22 (by omega) (reads_int Try.underlying3 (by kernel_rfl)) (hval 1 22 v1 rfl rfl) h1
 obtain ⟨m2, A2, c2, l2, rfl, r2⟩ := open_Recs (hval 2 23 v2 rfl rfl) h2
 clear hA0 hval0
 refine (grounds_walk m2 n0 l1 l2 A1 A2 c1 c2 W r1 r2).mono fun e W' ⟨he, hb⟩ => ?_
 subst he
 exact ⟨_, rfl, post_true (tb := 4) laid_grounds rfl hW' (by kernel_rfl) Try.underlying4 (fun t ht => by
  have ht' : t ∈ [3, 22, 23] := by
   have e : Try.f5.params.toList = [3, 22, 23] := by rw [Try.params5]
   rwa [e] at ht
  simp only [List.mem_cons, List.not_mem_nil, or_false] at ht'
  rcases ht' with rfl | rfl | rfl <;> exact ⟨by kernel_rfl, of_decide_eq_true (by kernel_rfl)⟩) rfl rfl rfl hb⟩
theorem grounds_holds : Rows.BackGroundsSaid :=
 OpenClaim.holds_of_wide 5 Try.f5 rfl rfl rfl rfl rfl rfl rfl ⟨rfl, rfl, rfl, rfl, rfl⟩ rfl rfl rfl rfl rfl (by kernel_rfl) Try.func5 (by kernel_rfl)
  (of_decide_eq_true (by kernel_rfl)) (by unfold Func.isWrapper; first | (rw [if_pos (by decide +kernel)]; kernel_rfl) | (rw [if_neg (by decide +kernel)]; exact ⟨rfl, rfl⟩))
  (fun os started H enc _ => grounds_lifted os started H enc)
end Go.Proofs.Ytnfgilbaglfkeaa
