/-
  Texts put together: BkLaw2, RefHas10, RefBk1, RefBk2, RefBk3, RefBk5, RefBefore, RefHas.
-/
import Derived.Test.YtnfgilbaglfkeaaBa
import Derived.Test.YtnfgilbaglfkeaaBb
import Derived.Test.YtnfgilbaglfkeaaBc
import Derived.Test.YtnfgilbaglfkeaaBd
import Derived.Test.YtnfgilbaglfkeaaBe
import Derived.Test.YtnfgilbaglfkeaaBf
import Derived.Test.YtnfgilbaglfkeaaBg
import Derived.Test.YtnfgilbaglfkeaaBh
import Derived.Test.YtnfgilbaglfkeaaBi
import Derived.Test.YtnfgilbaglfkeaaBj
import Derived.Test.YtnfgilbaglfkeaaBk
import Derived.WalkKit
import Derived.WalkSpells
import Derived.WalkLawsBesides
import Derived.Lib.Hide
import Derived.Deep.QuietTactic
import Derived.BigQuiet
import Derived.Deep.RegionHeld3
import Derived.Deep.AppendLies
import Derived.Maps.AppendAt
import Derived.StillTailTactics
import Derived.Maps.RangeWalk
import Derived.ProofKit
import Derived.Carry
import Derived.ChangeSame
import Derived.Deep.Slices
import Derived.Deep.Strs
import Derived.OrdersHeld
import Derived.StillTail
import Derived.RangeFuncNested
import Derived.RangeFuncBound
import Derived.RangeFuncCalls
import Derived.RangeFuncLeaves
import Derived.OrdersIn
import Derived.OwnWalkIn
import Derived.TacticsInMore
import Derived.LoopNIn
import Derived.LoopIn
import Derived.Shelf.Abstract
import Derived.Test.YtnfgilbaglfkeaaRows
import Derived.Lib.Strings
import Derived.Deep.MidRow
import Derived.Deep.Cut
import Derived.ArgAppend
import Derived.Deep.LoopGhost
import Derived.Lib.MinMax
import Derived.IntWalk
namespace Go.Proofs.Ytnfgilbaglfkeaa
open Go.RowKit Go.Shelf
theorem RowRd.suffix {α : Type} {w : World} {size c : Nat} {cells : α → List Value} {A : Option Addr} {l : List α} (h : RowRd w size cells A c l) (i : Nat) (hi : i ≤ l.length) :
 RowRd w size cells (if c = i then A else A.map (·.add (i * size))) (c - i) (l.drop i) := by
 refine ⟨by simp; have := h.1; omega, by have := h.2.1; omega, fun h0 => ?_⟩
 rw [List.length_drop] at h0
 obtain ⟨b, off, rfl, hb, hc⟩ := h.2.2 (by omega)
 have h1 := h.1
 rw [if_neg (by omega)]
 refine ⟨b, off + i * size, by simp [Go.WideShapes.add_plain], hb, fun k hk j u hu => ?_⟩
 rw [List.length_drop] at hk
 have := hc (i + k) (by omega) j u (by rw [← hu]; simp)
 rw [Nat.add_mul] at this
 rw [← this]
 congr 2
 omega
theorem run_sl_from {n c j : Nat} (A : Option Addr) (hj : j ≤ n) (Y : World) : (Instr.slice 22 (.slice A n c) (some (.int .i64 (j : Int))) none none).run Try.prog Y = .ok (.slice (if c = j then A else A.map (·.add j)) (n - j) (c - j)) Y := by
 have hl0 : (0 : Int) ≤ (j : Int) := by omega
 have hl1 : (j : Int) ≤ (n : Int) := by omega
 go_simp
theorem run_sl_to {n c j : Nat} (A : Option Addr) (hj : j ≤ c) (Y : World) : (Instr.slice 22 (.slice A n c) none (some (.int .i64 (j : Int))) none).run Try.prog Y = .ok (.slice A j c) Y := by
 have hl0 : (0 : Int) ≤ (j : Int) := by omega
 have hl1 : (j : Int) ≤ (c : Int) := by omega
 go_simp
end Go.Proofs.Ytnfgilbaglfkeaa
namespace Go.Proofs.Ytnfgilbaglfkeaa
open Go.RowKit
theorem int_at {w : World} {A : Option Addr} {c k : Nat} {l : List Int} (h : RowRd w 1 Int.cells1 A c l) (hk : k < l.length) : ∃ b off, A = some ⟨b, off, none⟩ ∧ b < w.heap.size ∧ w.cell? ⟨b, off + k, none⟩ = some (.int .i64 l[k]) := by
 obtain ⟨b, off, hA, hb, hc⟩ := h.at_ hk
 refine ⟨b, off, hA, hb, ?_⟩
 have := hc 0 (.int .i64 l[k]) rfl
 simpa using this
set_option maxRecDepth 100000 in
set_option maxHeartbeats 1000000 in
theorem has10_is (A : Option Addr) (c : Nat) (l : List Int) (x : Int) (w : World) (h : RowRd w 1 Int.cells1 A c l) :
 Calls Try.prog 21 #[.slice A l.length c, .int .i64 x] w fun e w' => e = .returned (.bool (decide (x ∈ l))) ∧ w = w' := by
 have HL := Lib.hid h
 have hlc := h.cap
 clear h
 go_enter Try.func21, Try.ntmps21
 go_wp2_with fail
 go_loopw [5] (fun s wr => ∃ i : Nat, s = .int .i64 i ∧ i ≤ l.length ∧ (∀ j, (h : j < l.length) → j < i → l[j] ≠ x) ∧ wr = w) (fun s wr => l.length - (intOf s).toNat)
 case atStart => exact ⟨0, rfl, Nat.zero_le _, fun j _ h => absurd h (by omega), rfl⟩
 case round =>
  obtain ⟨i, rfl, hi, hno, rfl⟩ := hrel
  have HNO := Lib.hid hno
  clear hno
  by_cases hlt : i < l.length
  · obtain ⟨b, off, rfl, hb, hc⟩ := int_at HL.out hlt
    obtain ⟨y, hy⟩ : ∃ y, y = l[i] := ⟨_, rfl⟩
    rw [← hy] at hc
    have HY := Lib.hid hy
    have b1 : (0 : Int) ≤ (i : Int) := by omega
    have b2 : (i : Int) < (l.length : Int) := by omega
    clear hy
    by_cases hk : y = x
    · have t1 : (y == x) = true := by simpa using hk
      have HK := Lib.hid hk
      clear hk
      go_wp2_with fail
      go_ret
      exact ⟨by rw [decide_eq_true (by rw [← HK.out, HY.out]; exact List.getElem_mem _)]; rfl, rfl⟩
    · have t1 : (y == x) = false := by simpa using hk
      have HK := Lib.hid hk
      clear hk
      go_wp2_with fail
      go_roundw
      case rel =>
       refine ⟨i + 1, by go_num, by omega, fun j h hj => ?_, trivial⟩
       rcases Nat.lt_or_ge j i with h2 | h2
       · exact HNO.out j h h2
       · obtain rfl : j = i := by omega
         rw [← HY.out]; exact HK.out
      case measure => simp [intOf] <;> omega
  · obtain rfl : i = l.length := by omega
    go_wp2_with fail
    go_ret
    exact ⟨by rw [decide_eq_false (fun hm => by obtain ⟨j, h, e⟩ := List.getElem_of_mem hm; exact HNO.out j h h e)]; rfl, rfl⟩
end Go.Proofs.Ytnfgilbaglfkeaa
namespace Go.Proofs.Ytnfgilbaglfkeaa
open Go.RowKit Go.Shelf
set_option maxRecDepth 100000 in
set_option maxHeartbeats 8000000 in
theorem rfind21_is (n : Nat) (l : List RecordT) (A : Option Addr) (c : Nat) {D : Nat → Prop} (k : Int) (w : World) (hrd : RowR (repRecordT n) D w A c l) :
 Calls Try.prog 49 #[.slice A l.length c, .int .i64 k] w fun e w' => Below w.heap.size w w' ∧ Ans n (lookR l k) D e w' := by
 have hlc := hrd.cap
 have HR := Lib.hid hrd
 clear hrd
 go_enter Try.func49, Try.ntmps49
 go_upto_region 1 with fail
 obtain ⟨W1, hW1⟩ : ∃ W1, W1 = w.alloc (.cells #[.int .i64 0, .int .i64 0, .slice none 0 0, .slice none 0 0, .slice none 0 0, .slice none 0 0] 47) := ⟨_, rfl⟩
 have hB1 : Below w.heap.size w W1 := by rw [hW1]; exact (Below.refl _ _).alloc (Nat.le_refl _) _
 have hX1 : Blk W1 w.heap.size 47 #[.int .i64 0, .int .i64 0, .slice none 0 0, .slice none 0 0, .slice none 0 0, .slice none 0 0] := by rw [hW1]; exact Blk.new _ _ _
 have hz1 : W1.heap.size = w.heap.size + 1 := by rw [hW1]; simp
 rw [← hW1]
 clear hW1
 have HB1 := Lib.hid hB1
 have HX1 := Lib.hid hX1
 have HZ1 := Lib.hid hz1
 clear hB1 hX1 hz1
 go_wp2_with fail
 go_loopw [6] (fun i wr => ∃ m : Nat, i = .int .i64 m ∧ m ≤ l.length ∧ (∀ j, (h : j < l.length) → j < m → l[j].num ≠ k) ∧ Below W1.heap.size W1 wr) (fun i wr => l.length - (intOf i).toNat)
 case atStart => exact ⟨0, rfl, Nat.zero_le _, fun j _ h => absurd h (by omega), Below.refl _ _⟩
 case round =>
  obtain ⟨m, rfl, hm, hno, hB⟩ := hrel
  have hzr := hB.size
  have hBB : Below w.heap.size w wr := HB1.out.trans (hB.mono (by have := HZ1.out; omega))
  have hX := HX1.out.new_ hB
  have hxl := hX.lt
  have HNO := Lib.hid hno
  by_cases hlt : m < l.length
  · obtain ⟨g, off, A1, c1, A2, c2, A3, c3, A4, c4, hA0, hDg, hg, q0, q1, q2, q3, q4, q5, r1, r2, r3, r4⟩ := at_RecordT (HR.out.new_ hBB) hlt
    subst hA0
    obtain ⟨y, hy⟩ : ∃ y, y = l[m] := ⟨_, rfl⟩
    rw [← hy] at q0 q1 q2 q3 q4 q5 r1 r2 r3 r4
    have b1 : (0 : Int) ≤ (m : Int) := by omega
    have b2 : (m : Int) < (l.length : Int) := by omega
    have HY := Lib.hid hy
    have HRA := Lib.hid (show RecAt n D wr y A1 c1 A2 c2 A3 c3 A4 c4 from ⟨r1, r2, r3, r4⟩)
    have HB := Lib.hid hB
    have HBB := Lib.hid hBB
    have HT := Lib.hid (show wr.there w.heap.size 0 (#[Value.int IntKind.i64 y.num, Value.int IntKind.i64 y.level, Value.slice A1 y.elems.length c1, Value.slice A2 y.holes.length c2, Value.slice A3 y.aparts.length c3, Value.slice A4 y.news.length c4] : Array Value).size from hX.there)
    have HDL := Lib.hid (show ∀ j, D j → j < w.heap.size → j ≠ w.heap.size from fun j _ h => by omega)
    clear hy r1 r2 r3 r4 hB hBB hX hno
    by_cases hk : y.num = k
    · have t1 : (y.num == k) = true := by simpa using hk
      have HK := Lib.hid hk
      clear hk
      go_wp2_with (with_reducible refine wpList_store_mid rfl 47 _ _ rfl w.heap.size 0 #[Value.int IntKind.i64 y.num, Value.int IntKind.i64 y.level, Value.slice A1 y.elems.length c1, Value.slice A2 y.holes.length c2, Value.slice A3 y.aparts.length c3, Value.slice A4 y.news.length c4] rfl rfl HT.out (by kernel_rfl) (by kernel_rfl) ?_)
      try simp only [Exit.inBlock, Exit.then]
      refine bodyPost_ret (v := .tuple #[.agg #[.int .i64 y.num, .int .i64 y.level, .slice A1 y.elems.length c1, .slice A2 y.holes.length c2, .slice A3 y.aparts.length c3, .slice A4 y.news.length c4], .bool true]) ?_ rfl ⟨Below.setCells' _ _ HBB.out (Nat.le_refl _), ?_⟩
      · exact results_cell_tmp (t := 4) (s := 5) (T := 47) rfl _ _ w.heap.size [Value.int IntKind.i64 y.num, Value.int IntKind.i64 y.level, Value.slice A1 y.elems.length c1, Value.slice A2 y.holes.length c2, Value.slice A3 y.aparts.length c3, Value.slice A4 y.news.length c4] _ rfl (World.rangeAt_setCells_same wr w.heap.size 0 [Value.int IntKind.i64 y.num, Value.int IntKind.i64 y.level, Value.slice A1 y.elems.length c1, Value.slice A2 y.holes.length c2, Value.slice A3 y.aparts.length c3, Value.slice A4 y.news.length c4] HT.out) Try.underlying47 rfl (by kernel_rfl)
      · have e := HY.out
        have hra : RecAt n D w y A1 c1 A2 c2 A3 c3 A4 c4 := by
         obtain ⟨g', off', A1', c1', A2', c2', A3', c3', A4', c4', hA0', _, _, p0, p1, p2, p3, p4, p5, r1, r2, r3, r4⟩ := at_RecordT HR.out hlt
         injection hA0' with hA0'
         injection hA0' with e1 e2
         subst e1
         subst e2
         rw [← e] at p2 p3 p4 p5 r1 r2 r3 r4
         have hc := fun i (hi : (⟨g, i, none⟩ : Addr).block < w.heap.size) => HBB.out.cell (p := ⟨g, i, none⟩) hi
         have hgw : g < w.heap.size := by assumption
         have s2 := q2.symm.trans ((hc (off + m * 6 + 2) hgw).trans p2)
         have s3 := q3.symm.trans ((hc (off + m * 6 + 3) hgw).trans p3)
         have s4 := q4.symm.trans ((hc (off + m * 6 + 4) hgw).trans p4)
         have s5 := q5.symm.trans ((hc (off + m * 6 + 5) hgw).trans p5)
         injection s2 with s2; injection s2 with s2a s2b s2c; subst s2a; subst s2c
         injection s3 with s3; injection s3 with s3a s3b s3c; subst s3a; subst s3c
         injection s4 with s4; injection s4 with s4a s4b s4c; subst s4a; subst s4c
         injection s5 with s5; injection s5 with s5a s5b s5c; subst s5a; subst s5c
         exact ⟨r1, r2, r3, r4⟩
        rw [lookR_is hlt (by rw [← e]; exact HK.out) HNO.out, ← e]
        exact ⟨A1, c1, A2, c2, A3, c3, A4, c4, rfl, hra.keep (by rw [size_setCells]; exact HBB.out.size) (fun j hj hl => ⟨hj, (blk_setCells _ _ _ _ _ (by omega)).trans (HBB.out.block j hl)⟩)⟩
    · have t1 : (y.num == k) = false := by simpa using hk
      have HK := Lib.hid hk
      clear hk
      go_wp2_with fail
      go_roundw
      case rel =>
       refine ⟨m + 1, by go_num, by omega, fun j h hj => ?_, HB.out⟩
       rcases Nat.lt_or_ge j m with h2 | h2
       · exact HNO.out j h h2
       · obtain rfl : j = m := by omega
         rw [← HY.out]; exact HK.out
      case measure => simp [intOf]; omega
  · obtain rfl : m = l.length := by omega
    have HT := Lib.hid (show wr.there w.heap.size 0 (#[Value.int IntKind.i64 0, Value.int IntKind.i64 0, Value.slice none 0 0, Value.slice none 0 0, Value.slice none 0 0, Value.slice none 0 0] : Array Value).size from hX.there)
    have HBB := Lib.hid hBB
    clear hB hBB hX hno
    go_wp2_with (with_reducible refine wpList_store_mid rfl 47 _ _ rfl w.heap.size 0 #[Value.int IntKind.i64 0, Value.int IntKind.i64 0, Value.slice none 0 0, Value.slice none 0 0, Value.slice none 0 0, Value.slice none 0 0] rfl rfl HT.out (by kernel_rfl) (by kernel_rfl) ?_)
    try simp only [Exit.inBlock, Exit.then]
    refine bodyPost_ret (v := .tuple #[.agg #[.int .i64 0, .int .i64 0, .slice none 0 0, .slice none 0 0, .slice none 0 0, .slice none 0 0], .bool false]) ?_ rfl ⟨Below.setCells' _ _ HBB.out (Nat.le_refl _), ?_⟩
    · exact results_cell_tmp (t := 4) (s := 5) (T := 47) rfl _ _ w.heap.size [Value.int IntKind.i64 0, Value.int IntKind.i64 0, Value.slice none 0 0, Value.slice none 0 0, Value.slice none 0 0, Value.slice none 0 0] _ rfl (World.rangeAt_setCells_same wr w.heap.size 0 [Value.int IntKind.i64 0, Value.int IntKind.i64 0, Value.slice none 0 0, Value.slice none 0 0, Value.slice none 0 0, Value.slice none 0 0] HT.out) Try.underlying47 rfl (by kernel_rfl)
    · rw [lookR_no (fun j h => HNO.out j h h)]
      exact ⟨none, 0, none, 0, none, 0, none, 0, rfl, recat0 _ _⟩
end Go.Proofs.Ytnfgilbaglfkeaa
namespace Go.Proofs.Ytnfgilbaglfkeaa
open Go.RowKit Go.Shelf
theorem run_slT_from {n c j : Nat} (A : Option Addr) (hj : j ≤ n) (Y : World) : (Instr.slice 27 (.slice A n c) (some (.int .i64 (j : Int))) none none).run Try.prog Y = .ok (.slice (if c = j then A else A.map (·.add (j * 14))) (n - j) (c - j)) Y := by
 have hl0 : (0 : Int) ≤ (j : Int) := by omega
 have hl1 : (j : Int) ≤ (n : Int) := by omega
 go_simp
theorem run_slT_to {n c j : Nat} (A : Option Addr) (hj : j ≤ c) (Y : World) : (Instr.slice 27 (.slice A n c) none (some (.int .i64 (j : Int))) none).run Try.prog Y = .ok (.slice A j c) Y := by
 have hl0 : (0 : Int) ≤ (j : Int) := by omega
 have hl1 : (j : Int) ≤ (c : Int) := by omega
 go_simp
theorem cmpTag_lt {a b : TraceT} : cmpTag a b < 0 ↔ a.elem.tag < b.elem.tag := by
 unfold cmpTag cmpInt
 constructor
 · intro h; split at h
   · assumption
   · split at h <;> omega
 · intro h; rw [if_pos h]; omega
theorem cmpTag_gt {a b : TraceT} : 0 < cmpTag a b ↔ b.elem.tag < a.elem.tag := by rw [← cmpTag_lt, ← tc_tag.symm]
theorem ground_put {l : List TraceT} (hs : Srt cmpTag l) (e : TraceT) {m : Nat} (hm : m ≤ l.length) (h1 : ∀ j, (h : j < l.length) → m ≤ j → e.elem.tag < l[j].elem.tag) (h2 : ∀ h : 0 < m, l[m - 1].elem.tag < e.elem.tag) : put cmpTag l (bare e) = l.take m ++ bare e :: l.drop m := by
 have g1 : ∀ i, (h : i < l.length) → i < m → cmpTag l[i] (bare e) < 0 := fun i h hi => by
  rw [cmpTag_lt]
  have h3 := h2 (by omega)
  rcases Nat.lt_or_ge i (m - 1) with h4 | h4
  · have := cmpTag_lt.1 (hs.lt h4 (by omega))
    show l[i].elem.tag < e.elem.tag
    omega
  · obtain rfl : i = m - 1 := by omega
    exact h3
 have g2 : ∀ i, (h : i < l.length) → m ≤ i → 0 < cmpTag l[i] (bare e) := fun i h hi => by
  rw [cmpTag_gt]; exact h1 i h hi
 rw [put_eq tc_tag hs (at_none g1 g2).2.2, rank_none hm g1 g2]
theorem ground_has {l : List TraceT} (e : TraceT) {m : Nat} (hm : m < l.length) (h : l[m].elem.tag = e.elem.tag) : put cmpTag l (bare e) = l :=
 put_has (has_iff.2 ⟨l[m], List.getElem_mem hm, cmpInt_eq.2 h⟩)
theorem grown_tr {B : Nat} {w w' : World} {A : Option Addr} {c : Nat} {xs ys : List TraceT} {v : Value} (hown : w'.ownsRow 0 55 14 v (xs.length + ys.length) (xs.flatMap TraceT.cells ++ ys.flatMap TraceT.cells)) (hg : w.grownBy w' (Value.slice A xs.length c).ownBlock)
 (hat : v.ownBlock = (Value.slice A xs.length c).ownBlock ∨ v.ownBlock = some w.heap.size) (hA : AIn A (B ≤ ·)) (hB : B ≤ w.heap.size) :
 ∃ A' c', v = .slice A' (xs ++ ys).length c' ∧ w'.ownsRow 0 55 14 (.slice A' (xs ++ ys).length c') (xs ++ ys).length ((xs ++ ys).flatMap TraceT.cells) ∧ AIn A' (B ≤ ·) ∧ Below B w w' := by
 rw [← List.length_append, ← List.flatMap_append] at hown
 obtain ⟨A', c', rfl, _⟩ := own_form2 hown
 have hown2 : ∀ k, (Value.slice A xs.length c).ownBlock = some k → B ≤ k := fun k hk => by
  cases A with
  | none => cases hk
  | some a => simp only [Value.ownBlock, Option.some.injEq] at hk; rw [← hk]; exact hA a rfl
 refine ⟨A', c', rfl, hown, fun a ha => ?_, (Below.refl B w).grown hg hB hown2⟩
 subst ha
 rcases hat with h | h
 · exact hown2 _ h.symm
 · simp only [Value.ownBlock, Option.some.injEq] at h
   omega
set_option maxRecDepth 100000 in
set_option maxHeartbeats 16000000 in
theorem ground21_is (l : List TraceT) (e : TraceT) (A : Option Addr) (c : Nat) {D : Nat → Prop} (w : World) (hrd : RowR repTraceT D w A c l) (hs : Srt cmpTag l) (hl : l.length ≤ 100000) :
 Calls Try.prog 51 #[.slice A l.length c, .agg #[.int .i64 e.elem.id.kind, .string e.elem.id.text, .int .i64 e.elem.id.n, .int .i64 e.elem.attr.kind, .string e.elem.attr.text, .int .i64 e.elem.attr.n, .int .i64 e.elem.value.kind, .string e.elem.value.text, .int .i64 e.elem.value.n, .bool e.elem.acc, .bool e.elem.goal, .int .i64 e.elem.tag, .int .i64 e.level, .int .i64 e.cause]] w fun en w' => ∃ A' c', en = .returned (.slice A' (put cmpTag l (bare e)).length c') ∧ RowR repTraceT (fun k => D k ∨ NewD w.heap.size w' k) w' A' c' (put cmpTag l (bare e)) ∧ Below w.heap.size w w' := by
 obtain ⟨i0, hi0, hz0, hz1, hz2⟩ := infp inf_Trace
 have hlc := hrd.cap
 have hcc := hrd.1
 have hcm := hrd.2.1
 have HR := Lib.hid hrd
 have HS := Lib.hid hs
 clear hrd hs
 go_enter Try.func51, Try.ntmps51
 go_upto_region 1 with fail
 obtain ⟨W1, hW1⟩ : ∃ W1, W1 = w.alloc (.cells #[.int .i64 e.elem.id.kind, .string e.elem.id.text, .int .i64 e.elem.id.n, .int .i64 e.elem.attr.kind, .string e.elem.attr.text, .int .i64 e.elem.attr.n, .int .i64 e.elem.value.kind, .string e.elem.value.text, .int .i64 e.elem.value.n, .bool e.elem.acc, .bool e.elem.goal, .int .i64 e.elem.tag, .int .i64 e.level, .int .i64 e.cause] 55) := ⟨_, rfl⟩
 have hB1 : Below w.heap.size w W1 := by rw [hW1]; exact (Below.refl _ _).alloc (Nat.le_refl _) _
 have hX1 : Blk W1 w.heap.size 55 #[.int .i64 e.elem.id.kind, .string e.elem.id.text, .int .i64 e.elem.id.n, .int .i64 e.elem.attr.kind, .string e.elem.attr.text, .int .i64 e.elem.attr.n, .int .i64 e.elem.value.kind, .string e.elem.value.text, .int .i64 e.elem.value.n, .bool e.elem.acc, .bool e.elem.goal, .int .i64 e.elem.tag, .int .i64 e.level, .int .i64 e.cause] := by rw [hW1]; exact Blk.new _ _ _
 have hz1' : W1.heap.size = w.heap.size + 1 := by rw [hW1]; simp
 rw [← hW1]
 clear hW1
 have HB1 := Lib.hid hB1
 have HX1 := Lib.hid hX1
 have HZ1 := Lib.hid hz1'
 clear hB1 hX1 hz1'
 go_wp2_with fail
 go_loopw [5] (fun i wr => ∃ m : Nat, i = .int .i64 m ∧ m ≤ l.length ∧ (∀ j, (h : j < l.length) → m ≤ j → e.elem.tag < l[j].elem.tag) ∧ Below W1.heap.size W1 wr) (fun i wr => (intOf i).toNat)
 case atStart => exact ⟨l.length, rfl, Nat.le_refl _, fun j _ h => absurd h (by omega), Below.refl _ _⟩
 case round =>
  obtain ⟨m, rfl, hm, hno, hB⟩ := hrel
  have hzr := hB.size
  have hBB : Below w.heap.size w wr := HB1.out.trans (hB.mono (by have := HZ1.out; omega))
  have hX := HX1.out.new_ hB
  have hxl := hX.lt
  have x11 := (hX.cell 11).trans rfl
  have HNO := Lib.hid hno
  have HB := Lib.hid hB
  have HBB := Lib.hid hBB
  have HX := Lib.hid hX
  clear hno hB hBB hX
  by_cases h0 : 0 < m
  · have d0 : decide ((0 : Int) < (m : Int)) = true := by simpa using h0
    have d0' : decide (0 < m) = true := by simpa using h0
    obtain ⟨p, hp⟩ : ∃ p, p + 1 = m := ⟨m - 1, by omega⟩
    have hpl : p < l.length := by omega
    obtain ⟨g, off, hA0, hg, hq⟩ := tag_at (HR.out.new_ HBB.out) hpl
    subst hA0
    obtain ⟨t, ht⟩ : ∃ t, t = l[p].elem.tag := ⟨_, rfl⟩
    rw [← ht] at hq
    have HTT := Lib.hid ht
    have v1 : IntKind.i64.wrap ((m : Int) - 1) = (p : Int) := by rw [show ((m : Int) - 1) = (p : Int) by omega]; exact IntWalk.i64_in _ (by omega)
    have v1' : (m : Int) - 1 = (p : Int) := by omega
    have j1 : (0 : Int) ≤ (p : Int) := by omega
    have j2 : (p : Int) < (l.length : Int) := by omega
    have HP := Lib.hid hp
    clear ht hp h0
    by_cases hge : e.elem.tag ≤ t
    · have d1 : decide (e.elem.tag ≤ t) = true := by simpa using hge
      clear v1'
      go_wp2_with fail
      go_quiet (fail)
      have HB2 := Lib.hid (Below.drewN' HB.out nq)
      have HX2 := Lib.hid (HX.out.drewN nq)
      have HBB2 := Lib.hid (Below.drewN' HBB.out nq)
      have hq2 : (wr.drewN nq).cell? ⟨g, off + p * 14 + 11, none⟩ = some (.int .i64 t) := hq
      have hg2 : g < (wr.drewN nq).heap.size := hg
      have hxl2 := HX2.out.lt
      obtain ⟨W2, hW2⟩ : ∃ W2, W2 = wr.drewN nq := ⟨_, rfl⟩
      rw [← hW2] at HBB2 HX2 HB2 hq2 hg2 hxl2 ⊢
      have x11 := (HX2.out.cell 11).trans rfl
      clear hW2 hq hxl HB HBB HX
      by_cases heq : t = e.elem.tag
      · have d2 : (t == e.elem.tag) = true := by simpa using heq
        have HEQ := Lib.hid heq
        clear heq hge
        go_wp2_with fail
        go_quiet (fail)
        go_wp2_with fail
        go_ret
        have e2 := ground_has e hpl (by rw [← HTT.out]; exact HEQ.out)
        rw [e2]
        exact ⟨_, c, rfl, (HR.out.new_ (Below.drewN' HBB2.out _)).weaken (fun _ h => .inl h), Below.drewN' HBB2.out _⟩
      · have d2 : (t == e.elem.tag) = false := by simpa using heq
        have HNE := Lib.hid (show e.elem.tag < t by omega)
        clear heq hge
        go_wp2_with fail
        go_quiet (fail)
        have HB3 := Lib.hid (Below.drewN' HB2.out nq)
        obtain ⟨W3, hW3⟩ : ∃ W3, W3 = W2.drewN nq := ⟨_, rfl⟩
        rw [← hW3] at HB3 ⊢
        clear hW3 hq2 x11 d1 d2 d0 d0'
        go_wp2_with fail
        go_roundw
        case rel =>
         refine ⟨p, rfl, by omega, fun j h hj => ?_, HB3.out⟩
         rcases Nat.lt_or_ge j m with h2 | h2
         · obtain rfl : j = p := by have := HP.out; omega
           rw [← HTT.out]; exact HNE.out
         · exact HNO.out j h h2
        case measure => simp [intOf]; have := HP.out; omega
    · have d1 : decide (e.elem.tag ≤ t) = false := by simpa using hge
      have HPT := Lib.hid (ground_put HS.out e hm HNO.out (fun h => by
       have e3 : m - 1 = p := by have := HP.out; omega
       have e4 : l[m - 1].elem.tag = t := by rw [HTT.out]; simp only [e3]
       omega))
      clear hge v1'
      go_wp2_with fail
      go_quiet (fail)
      have HBB2 := Lib.hid (Below.drewN' HBB.out nq)
      have HX2 := Lib.hid (HX.out.drewN nq)
      obtain ⟨W2, hW2⟩ : ∃ W2, W2 = wr.drewN nq := ⟨_, rfl⟩
      rw [← hW2] at HBB2 HX2 ⊢
      clear hW2 hq x11 d0 d0' d1 v1 hxl HB HBB HX
      have x13 := (HX2.out.cell 13).trans rfl
      have f13 := HX2.out.frozen 13
      have hxl2 := HX2.out.lt
      go_upto_region 7 with fail
      obtain ⟨W3, hW3⟩ : ∃ W3, W3 = W2.setCell ⟨w.heap.size, 13, none⟩ (.int .i64 0) := ⟨_, rfl⟩
      have HX3 := Lib.hid (show Blk W3 w.heap.size 55 #[.int .i64 e.elem.id.kind, .string e.elem.id.text, .int .i64 e.elem.id.n, .int .i64 e.elem.attr.kind, .string e.elem.attr.text, .int .i64 e.elem.attr.n, .int .i64 e.elem.value.kind, .string e.elem.value.text, .int .i64 e.elem.value.n, .bool e.elem.acc, .bool e.elem.goal, .int .i64 e.elem.tag, .int .i64 e.level, .int .i64 0] by
       rw [hW3]
       have := HX2.out.set_ 13 (.int .i64 0)
       simpa using this)
      have hF3 : Fr (· = w.heap.size) W2 W3 := by rw [hW3]; exact Fr.setCell (M := (· = w.heap.size)) (p := ⟨w.heap.size, 13, none⟩) (Fr.refl _ _) (.inl rfl) _
      have HB3 := Lib.hid (HBB2.out.trans (hF3.below HBB2.out.size (fun k hk e => by have e2 : k = w.heap.size := e; omega)))
      rw [← hW3]
      clear hW3 x13 f13 hxl2 hF3
      obtain ⟨tk, htk⟩ : ∃ tk, tk = l.take m := ⟨_, rfl⟩
      obtain ⟨dk, hdk⟩ : ∃ dk, dk = l.drop m := ⟨_, rfl⟩
      obtain ⟨As, hAs⟩ : ∃ As : Option Addr, As = (if c = m then (some ⟨g, off, none⟩) else Option.map (fun a : Addr => a.add (m * 14)) (some ⟨g, off, none⟩)) := ⟨_, rfl⟩
      have HDE := Lib.hid hdk
      have HAE := Lib.hid hAs
      have HTK := Lib.hid (show RowRd W3 14 TraceT.cells (some ⟨g, off, none⟩) c tk by rw [htk]; exact (HR.out.new_ HB3.out).rd.prefix_ m)
      have htl : tk.length = m := by rw [htk, List.length_take]; omega
      have hdl : l.length - m = dk.length := by rw [hdk, List.length_drop]
      have hsl1 : ∀ Y, (Instr.slice 27 (.slice (some ⟨g, off, none⟩) l.length c) none (some (.int .i64 (m : Int))) none).run Try.prog Y = .ok (.slice (some ⟨g, off, none⟩) tk.length c) Y := fun Y => by rw [htl]; exact run_slT_to (some ⟨g, off, none⟩) (by omega) Y
      have hsl2 : ∀ Y, (Instr.slice 27 (.slice (some ⟨g, off, none⟩) l.length c) (some (.int .i64 (m : Int))) none none).run Try.prog Y = .ok (.slice As dk.length (c - m)) Y := fun Y => by rw [← hdl, hAs]; exact run_slT_from (some ⟨g, off, none⟩) hm Y
      have HPE := Lib.hid (show (tk ++ [bare e]) ++ dk = put cmpTag l (bare e) by rw [HPT.out, htk, hdk]; simp)
      have htl1 : tk.length ≤ 100000 := by omega
      have hdl1 : dk.length ≤ 100000 := by omega
      have HXR := Lib.hid (show W3.rangeAt w.heap.size 0 [Value.int IntKind.i64 e.elem.id.kind, Value.string e.elem.id.text, Value.int IntKind.i64 e.elem.id.n, Value.int IntKind.i64 e.elem.attr.kind, Value.string e.elem.attr.text, Value.int IntKind.i64 e.elem.attr.n, Value.int IntKind.i64 e.elem.value.kind, Value.string e.elem.value.text, Value.int IntKind.i64 e.elem.value.n, Value.bool e.elem.acc, Value.bool e.elem.goal, Value.int IntKind.i64 e.elem.tag, Value.int IntKind.i64 e.level, Value.int IntKind.i64 0] from HX3.out.range)
      clear htk hdk hAs htl hdl HPT
      go_upto_region 8 with (at_builtin; refine wpList_append_src W3 rfl (.const (.slice none 0 0)) (.tmp 41) 27 rfl 55 i0 _ 14 128 Try.underlying27 hi0 hz0 hz1 hz2 rfl (by omega) (.slice none 0 0) 0 [] rfl (owns_nilC _ _ _) (some ⟨g, off, none⟩) tk.length c (tk.flatMap TraceT.cells) rfl (flat_length TraceT.cells_length _) (HTK.out.news TraceT.cells_length (by omega)) (one_Trace _) (by unfold maxLen; omega) (by omega) ?_; intro v1 w4 hown1 hg1 hnil1 hat1; rw [Nat.zero_add, List.nil_append] at hown1; obtain ⟨Ad, cd, rfl, ho4, hA4, hb4⟩ := fresh1_of hown1 hat1 rfl hg1; have HO4 := Lib.hid ho4; have HA4 := Lib.hid (hA4.mono (S' := fun k => w.heap.size + 1 ≤ k) (fun k hk => by have := hk.1; have := HX3.out.lt; omega)); have HB4 := Lib.hid hb4; clear hown1 hg1 hnil1 hat1 ho4 hA4 hb4)
      clear hsl1
      have HXR := Lib.hid (rangeAt_below HXR.out HB4.out HX3.out.lt)
      obtain ⟨W5, hW5⟩ : ∃ W5, W5 = w4.alloc (.cells #[.int .i64 e.elem.id.kind, .string e.elem.id.text, .int .i64 e.elem.id.n, .int .i64 e.elem.attr.kind, .string e.elem.attr.text, .int .i64 e.elem.attr.n, .int .i64 e.elem.value.kind, .string e.elem.value.text, .int .i64 e.elem.value.n, .bool e.elem.acc, .bool e.elem.goal, .int .i64 e.elem.tag, .int .i64 e.level, .int .i64 0] 55) := ⟨_, rfl⟩
      have HW5 := Lib.hid hW5
      have hb5 : Below w4.heap.size w4 W5 := by rw [hW5]; exact (Below.refl _ _).alloc (Nat.le_refl _) _
      have HB5 := Lib.hid (show Below W3.heap.size W3 W5 from HB4.out.trans (hb5.mono HB4.out.size))
      have HO5 := Lib.hid (ownsRow_new HO4.out hb5)
      have HN5 := Lib.hid (show 0 < 1 → ∃ ad, (some (⟨w4.heap.size, 0, none⟩ : Addr)) = some ad ∧ ∀ j u, ([bare e].flatMap TraceT.cells)[j]? = some u → W5.cell? (ad.add j) = some u from fun _ => ⟨_, rfl, by rw [hW5]; exact World.news_of_block (heap_alloc_new _ _)⟩)
      have hz35 := HB5.out.size
      have hz3 := HX3.out.lt
      clear hW5 hb5
      go_upto_region 9 with (first | (with_reducible refine wpList_load_mid rfl 55 _ rfl w.heap.size 0 rfl [Value.int IntKind.i64 e.elem.id.kind, Value.string e.elem.id.text, Value.int IntKind.i64 e.elem.id.n, Value.int IntKind.i64 e.elem.attr.kind, Value.string e.elem.attr.text, Value.int IntKind.i64 e.elem.attr.n, Value.int IntKind.i64 e.elem.value.kind, Value.string e.elem.value.text, Value.int IntKind.i64 e.elem.value.n, Value.bool e.elem.acc, Value.bool e.elem.goal, Value.int IntKind.i64 e.elem.tag, Value.int IntKind.i64 e.level, Value.int IntKind.i64 0] _ HXR.out Try.underlying55 rfl (by kernel_rfl) ?_) | (at_builtin; rw [← HW5.out]; refine wpList_append_src W5 rfl (.tmp 43) (.tmp 45) 27 rfl 55 i0 _ 14 128 Try.underlying27 hi0 hz0 hz1 hz2 rfl (by omega) (.slice Ad tk.length cd) tk.length (tk.flatMap TraceT.cells) rfl HO5.out (some ⟨w4.heap.size, 0, none⟩) 1 1 ([bare e].flatMap TraceT.cells) rfl rfl HN5.out (one_Trace _) (by unfold maxLen; omega) (by omega) ?_; intro v1 w6 hown1 hg1 hnil1 hat1; obtain ⟨A6, c6, rfl, ho6, hA6, hb6⟩ := grown_tr (ys := [bare e]) hown1 hg1 hat1 HA4.out (by omega); obtain ⟨te, hte⟩ : ∃ te, te = tk ++ [bare e] := ⟨_, rfl⟩; rw [← hte] at ho6 ⊢; have HTE := Lib.hid hte; have hel : te.length ≤ 100001 := (by rw [hte, List.length_append]; simp; omega); have HO6 := Lib.hid ho6; have HA6 := Lib.hid hA6; have HB6 := Lib.hid hb6; clear hown1 hg1 hnil1 hat1 ho6 hA6 hb6 hte))
      have HBW := Lib.hid (show Below w.heap.size w w6 from (HB3.out.trans (HB5.out.mono HB3.out.size)).trans (HB6.out.mono (Nat.le_succ _)))
      have HDK := Lib.hid (show RowRd w6 14 TraceT.cells As (c - m) dk by rw [HDE.out, HAE.out]; exact (HR.out.new_ HBW.out).rd.suffix m hm)
      have hz6 := HB6.out.size
      clear HDE HAE HXR HN5 HW5
      go_wp2_with (at_builtin; refine wpList_append_src w6 rfl (.tmp 47) (.tmp 50) 27 rfl 55 i0 _ 14 128 Try.underlying27 hi0 hz0 hz1 hz2 rfl (by omega) (.slice A6 te.length c6) te.length (te.flatMap TraceT.cells) rfl HO6.out As dk.length (c - m) (dk.flatMap TraceT.cells) rfl (flat_length TraceT.cells_length _) (HDK.out.news TraceT.cells_length (by omega)) (one_Trace _) (by unfold maxLen; omega) (by omega) ?_; intro v1 w7 hown1 hg1 hnil1 hat1; obtain ⟨A7, c7, rfl, ho7, hA7, hb7⟩ := grown_tr hown1 hg1 hat1 HA6.out (by omega); rw [HTE.out, HPE.out] at ho7 ⊢; have HO7 := Lib.hid ho7; have HA7 := Lib.hid hA7; have HB7 := Lib.hid hb7; clear hown1 hg1 hnil1 hat1 ho7 hA7 hb7)
      go_ret
      have HBF := HBW.out.trans (HB7.out.mono (Nat.le_succ _))
      exact ⟨A7, c7, rfl, RowR.of_rd (ownsRow_rd TraceT.cells_length HO7.out) (fun a ha => .inr ⟨Nat.le_of_succ_le (HA7.out a ha), own_lt HO7.out a.block (by subst ha; rfl)⟩), HBF⟩
  · have d0 : decide ((0 : Int) < (m : Int)) = false := by simp; omega
    have d0' : decide (0 < m) = false := by simp; omega
    have HPT := Lib.hid (ground_put HS.out e hm HNO.out (fun h => absurd h (by omega)))
    go_wp2_with fail
    go_quiet (fail)
    have HBB2 := Lib.hid (Below.drewN' HBB.out nq)
    have HX2 := Lib.hid (HX.out.drewN nq)
    obtain ⟨W2, hW2⟩ : ∃ W2, W2 = wr.drewN nq := ⟨_, rfl⟩
    rw [← hW2] at HBB2 HX2 ⊢
    clear hW2 x11 d0 d0' hxl HB HBB HX
    have x13 := (HX2.out.cell 13).trans rfl
    have f13 := HX2.out.frozen 13
    have hxl2 := HX2.out.lt
    go_upto_region 7 with fail
    obtain ⟨W3, hW3⟩ : ∃ W3, W3 = W2.setCell ⟨w.heap.size, 13, none⟩ (.int .i64 0) := ⟨_, rfl⟩
    have HX3 := Lib.hid (show Blk W3 w.heap.size 55 #[.int .i64 e.elem.id.kind, .string e.elem.id.text, .int .i64 e.elem.id.n, .int .i64 e.elem.attr.kind, .string e.elem.attr.text, .int .i64 e.elem.attr.n, .int .i64 e.elem.value.kind, .string e.elem.value.text, .int .i64 e.elem.value.n, .bool e.elem.acc, .bool e.elem.goal, .int .i64 e.elem.tag, .int .i64 e.level, .int .i64 0] by
     rw [hW3]
     have := HX2.out.set_ 13 (.int .i64 0)
     simpa using this)
    have hF3 : Fr (· = w.heap.size) W2 W3 := by rw [hW3]; exact Fr.setCell (M := (· = w.heap.size)) (p := ⟨w.heap.size, 13, none⟩) (Fr.refl _ _) (.inl rfl) _
    have HB3 := Lib.hid (HBB2.out.trans (hF3.below HBB2.out.size (fun k hk e => by have e2 : k = w.heap.size := e; omega)))
    rw [← hW3]
    clear hW3 x13 f13 hxl2 hF3
    obtain ⟨tk, htk⟩ : ∃ tk, tk = l.take m := ⟨_, rfl⟩
    obtain ⟨dk, hdk⟩ : ∃ dk, dk = l.drop m := ⟨_, rfl⟩
    obtain ⟨As, hAs⟩ : ∃ As : Option Addr, As = (if c = m then A else Option.map (fun a : Addr => a.add (m * 14)) A) := ⟨_, rfl⟩
    have HDE := Lib.hid hdk
    have HAE := Lib.hid hAs
    have HTK := Lib.hid (show RowRd W3 14 TraceT.cells A c tk by rw [htk]; exact (HR.out.new_ HB3.out).rd.prefix_ m)
    have htl : tk.length = m := by rw [htk, List.length_take]; omega
    have hdl : l.length - m = dk.length := by rw [hdk, List.length_drop]
    have hsl1 : ∀ Y, (Instr.slice 27 (.slice A l.length c) none (some (.int .i64 (m : Int))) none).run Try.prog Y = .ok (.slice A tk.length c) Y := fun Y => by rw [htl]; exact run_slT_to A (by omega) Y
    have hsl2 : ∀ Y, (Instr.slice 27 (.slice A l.length c) (some (.int .i64 (m : Int))) none none).run Try.prog Y = .ok (.slice As dk.length (c - m)) Y := fun Y => by rw [← hdl, hAs]; exact run_slT_from A hm Y
    have HPE := Lib.hid (show (tk ++ [bare e]) ++ dk = put cmpTag l (bare e) by rw [HPT.out, htk, hdk]; simp)
    have htl1 : tk.length ≤ 100000 := by omega
    have hdl1 : dk.length ≤ 100000 := by omega
    have HXR := Lib.hid (show W3.rangeAt w.heap.size 0 [Value.int IntKind.i64 e.elem.id.kind, Value.string e.elem.id.text, Value.int IntKind.i64 e.elem.id.n, Value.int IntKind.i64 e.elem.attr.kind, Value.string e.elem.attr.text, Value.int IntKind.i64 e.elem.attr.n, Value.int IntKind.i64 e.elem.value.kind, Value.string e.elem.value.text, Value.int IntKind.i64 e.elem.value.n, Value.bool e.elem.acc, Value.bool e.elem.goal, Value.int IntKind.i64 e.elem.tag, Value.int IntKind.i64 e.level, Value.int IntKind.i64 0] from HX3.out.range)
    clear htk hdk hAs htl hdl HPT
    go_upto_region 8 with (at_builtin; refine wpList_append_src W3 rfl (.const (.slice none 0 0)) (.tmp 41) 27 rfl 55 i0 _ 14 128 Try.underlying27 hi0 hz0 hz1 hz2 rfl (by omega) (.slice none 0 0) 0 [] rfl (owns_nilC _ _ _) A tk.length c (tk.flatMap TraceT.cells) rfl (flat_length TraceT.cells_length _) (HTK.out.news TraceT.cells_length (by omega)) (one_Trace _) (by unfold maxLen; omega) (by omega) ?_; intro v1 w4 hown1 hg1 hnil1 hat1; rw [Nat.zero_add, List.nil_append] at hown1; obtain ⟨Ad, cd, rfl, ho4, hA4, hb4⟩ := fresh1_of hown1 hat1 rfl hg1; have HO4 := Lib.hid ho4; have HA4 := Lib.hid (hA4.mono (S' := fun k => w.heap.size + 1 ≤ k) (fun k hk => by have := hk.1; have := HX3.out.lt; omega)); have HB4 := Lib.hid hb4; clear hown1 hg1 hnil1 hat1 ho4 hA4 hb4)
    clear hsl1
    have HXR := Lib.hid (rangeAt_below HXR.out HB4.out HX3.out.lt)
    obtain ⟨W5, hW5⟩ : ∃ W5, W5 = w4.alloc (.cells #[.int .i64 e.elem.id.kind, .string e.elem.id.text, .int .i64 e.elem.id.n, .int .i64 e.elem.attr.kind, .string e.elem.attr.text, .int .i64 e.elem.attr.n, .int .i64 e.elem.value.kind, .string e.elem.value.text, .int .i64 e.elem.value.n, .bool e.elem.acc, .bool e.elem.goal, .int .i64 e.elem.tag, .int .i64 e.level, .int .i64 0] 55) := ⟨_, rfl⟩
    have HW5 := Lib.hid hW5
    have hb5 : Below w4.heap.size w4 W5 := by rw [hW5]; exact (Below.refl _ _).alloc (Nat.le_refl _) _
    have HB5 := Lib.hid (show Below W3.heap.size W3 W5 from HB4.out.trans (hb5.mono HB4.out.size))
    have HO5 := Lib.hid (ownsRow_new HO4.out hb5)
    have HN5 := Lib.hid (show 0 < 1 → ∃ ad, (some (⟨w4.heap.size, 0, none⟩ : Addr)) = some ad ∧ ∀ j u, ([bare e].flatMap TraceT.cells)[j]? = some u → W5.cell? (ad.add j) = some u from fun _ => ⟨_, rfl, by rw [hW5]; exact World.news_of_block (heap_alloc_new _ _)⟩)
    have hz35 := HB5.out.size
    have hz3 := HX3.out.lt
    clear hW5 hb5
    go_upto_region 9 with (first | (with_reducible refine wpList_load_mid rfl 55 _ rfl w.heap.size 0 rfl [Value.int IntKind.i64 e.elem.id.kind, Value.string e.elem.id.text, Value.int IntKind.i64 e.elem.id.n, Value.int IntKind.i64 e.elem.attr.kind, Value.string e.elem.attr.text, Value.int IntKind.i64 e.elem.attr.n, Value.int IntKind.i64 e.elem.value.kind, Value.string e.elem.value.text, Value.int IntKind.i64 e.elem.value.n, Value.bool e.elem.acc, Value.bool e.elem.goal, Value.int IntKind.i64 e.elem.tag, Value.int IntKind.i64 e.level, Value.int IntKind.i64 0] _ HXR.out Try.underlying55 rfl (by kernel_rfl) ?_) | (at_builtin; rw [← HW5.out]; refine wpList_append_src W5 rfl (.tmp 43) (.tmp 45) 27 rfl 55 i0 _ 14 128 Try.underlying27 hi0 hz0 hz1 hz2 rfl (by omega) (.slice Ad tk.length cd) tk.length (tk.flatMap TraceT.cells) rfl HO5.out (some ⟨w4.heap.size, 0, none⟩) 1 1 ([bare e].flatMap TraceT.cells) rfl rfl HN5.out (one_Trace _) (by unfold maxLen; omega) (by omega) ?_; intro v1 w6 hown1 hg1 hnil1 hat1; obtain ⟨A6, c6, rfl, ho6, hA6, hb6⟩ := grown_tr (ys := [bare e]) hown1 hg1 hat1 HA4.out (by omega); obtain ⟨te, hte⟩ : ∃ te, te = tk ++ [bare e] := ⟨_, rfl⟩; rw [← hte] at ho6 ⊢; have HTE := Lib.hid hte; have hel : te.length ≤ 100001 := (by rw [hte, List.length_append]; simp; omega); have HO6 := Lib.hid ho6; have HA6 := Lib.hid hA6; have HB6 := Lib.hid hb6; clear hown1 hg1 hnil1 hat1 ho6 hA6 hb6 hte))
    have HBW := Lib.hid (show Below w.heap.size w w6 from (HB3.out.trans (HB5.out.mono HB3.out.size)).trans (HB6.out.mono (Nat.le_succ _)))
    have HDK := Lib.hid (show RowRd w6 14 TraceT.cells As (c - m) dk by rw [HDE.out, HAE.out]; exact (HR.out.new_ HBW.out).rd.suffix m hm)
    have hz6 := HB6.out.size
    clear HDE HAE HXR HN5 HW5
    go_wp2_with (at_builtin; refine wpList_append_src w6 rfl (.tmp 47) (.tmp 50) 27 rfl 55 i0 _ 14 128 Try.underlying27 hi0 hz0 hz1 hz2 rfl (by omega) (.slice A6 te.length c6) te.length (te.flatMap TraceT.cells) rfl HO6.out As dk.length (c - m) (dk.flatMap TraceT.cells) rfl (flat_length TraceT.cells_length _) (HDK.out.news TraceT.cells_length (by omega)) (one_Trace _) (by unfold maxLen; omega) (by omega) ?_; intro v1 w7 hown1 hg1 hnil1 hat1; obtain ⟨A7, c7, rfl, ho7, hA7, hb7⟩ := grown_tr hown1 hg1 hat1 HA6.out (by omega); rw [HTE.out, HPE.out] at ho7 ⊢; have HO7 := Lib.hid ho7; have HA7 := Lib.hid hA7; have HB7 := Lib.hid hb7; clear hown1 hg1 hnil1 hat1 ho7 hA7 hb7)
    go_ret
    have HBF := HBW.out.trans (HB7.out.mono (Nat.le_succ _))
    exact ⟨A7, c7, rfl, RowR.of_rd (ownsRow_rd TraceT.cells_length HO7.out) (fun a ha => .inr ⟨Nat.le_of_succ_le (HA7.out a ha), own_lt HO7.out a.block (by subst ha; rfl)⟩), HBF⟩
end Go.Proofs.Ytnfgilbaglfkeaa
namespace Go.Proofs.Ytnfgilbaglfkeaa
open Go.RowKit Go.Shelf
structure RecC where
 num : Int
 level : Int
 e : Sl
 h : Sl
 a : Sl
 n : Sl
def RecC.cells (x : RecC) : List Value := [.int .i64 x.num, .int .i64 x.level, .slice x.e.A x.e.n x.e.c, .slice x.h.A x.h.n x.h.c, .slice x.a.A x.a.n x.a.c, .slice x.n.A x.n.n x.n.c]
theorem RecC.cells_length (x : RecC) : x.cells.length = 6 := rfl
theorem one_RecC (l : List RecC) : ∀ u ∈ l.flatMap RecC.cells, u.oneCell' = true := by
 intro u hu
 obtain ⟨b, _, hb⟩ := List.mem_flatMap.1 hu
 simp only [RecC.cells, List.mem_cons, List.not_mem_nil, or_false] at hb
 rcases hb with rfl | rfl | rfl | rfl | rfl | rfl <;> rfl
def RcRel (n : Nat) (D : Nat → Prop) (w : World) (p : KR) (x : RecC) : Prop :=
 x.num = p.2.num ∧ x.level = p.2.level ∧ x.e.n = p.2.elems.length ∧ x.h.n = p.2.holes.length ∧ x.a.n = p.2.aparts.length ∧ x.n.n = p.2.news.length ∧ RecAt n D w p.2 x.e.A x.e.c x.h.A x.h.c x.a.A x.a.c x.n.A x.n.c
theorem RcRel.keep {n : Nat} {D D' : Nat → Prop} {w w' : World} {p : KR} {x : RecC} (h : RcRel n D w p x) (hs : w.heap.size ≤ w'.heap.size) (hk : ∀ k, D k → k < w.heap.size → D' k ∧ w'.heap[k]? = w.heap[k]?) : RcRel n D' w' p x := by
 obtain ⟨h1, h2, h3, h4, h5, h6, h7⟩ := h
 exact ⟨h1, h2, h3, h4, h5, h6, h7.keep hs hk⟩
theorem Each2.take_ {α β : Type} {R : α → β → Prop} : ∀ {l : List α} {m : List β} (i : Nat), Each2 R l m → Each2 R (l.take i) (m.take i)
 | _, _, 0, _ => by simp; exact .nil
 | _, _, _ + 1, .nil => .nil
 | _, _, i + 1, .cons h t => .cons h (t.take_ i)
theorem Each2.drop_ {α β : Type} {R : α → β → Prop} : ∀ {l : List α} {m : List β} (i : Nat), Each2 R l m → Each2 R (l.drop i) (m.drop i)
 | _, _, 0, h => h
 | _, _, _ + 1, .nil => .nil
 | _, _, i + 1, .cons _ t => t.drop_ i
theorem rows_neW {W : World} {e1 e2 : TypeId} {z1 z2 n1 n2 b1 b2 : Nat} {v1 v2 : Value} {x1 x2 : List Value} (h1 : W.ownsRow b1 e1 z1 v1 n1 x1) (h2 : W.ownsRow b2 e2 z2 v2 n2 x2) (hne : e1 ≠ e2) {g : Nat} (hg : v1.ownBlock = some g) : v2.ownBlock ≠ some g := by
 rcases h1.2 with ⟨rfl, _⟩ | ⟨k, cap, cur, rfl, _, hk, _⟩
 · simp [Value.ownBlock] at hg
 · have e : k = g := by simpa [Value.ownBlock] using hg
   subst e
   exact own_blk_ne h2 (t := e1) (cs := cur) hk (Ne.symm hne)
structure R1 (n B : Nat) (D : Nat → Prop) (W0 : World) (todo done asked : List Int) (R : List KR) (v7 v8 v9 v12 : Value) (w : World) : Prop where
 q : QRow w 3 1 v7 todo.length (todo.flatMap Int.cells1)
 d : w.ownsRow 0 3 1 v8 done.length (done.flatMap Int.cells1)
 a : w.ownsRow 0 3 1 v9 asked.length (asked.flatMap Int.cells1)
 r : ∃ m : List RecC, w.ownsRow 0 47 6 v12 m.length (m.flatMap RecC.cells) ∧ Each2 (RcRel n D w) R m
 b7 : ∀ k, v7.ownBlock = some k → B ≤ k ∧ k < w.heap.size
 b8 : ∀ k, v8.ownBlock = some k → B ≤ k
 b9 : ∀ k, v9.ownBlock = some k → B ≤ k
 b12 : ∀ k, v12.ownBlock = some k → B ≤ k
 n7 : ∀ k, v7.ownBlock = some k → v8.ownBlock ≠ some k ∧ v9.ownBlock ≠ some k ∧ v12.ownBlock ≠ some k
 n89 : ∀ k, v8.ownBlock = some k → v9.ownBlock ≠ some k
 dB : ∀ k, D k → k < B
 bel : Below B W0 w
section
variable {n B : Nat} {D M : Nat → Prop} {W0 w w' : World} {todo done asked asked' : List Int} {R R' : List KR} {v7 v8 v9 v12 v' : Value} {k : Int}
theorem R1.n812 (h : R1 n B D W0 todo done asked R v7 v8 v9 v12 w) : ∀ g, v8.ownBlock = some g → v12.ownBlock ≠ some g := fun _ hg => by
 obtain ⟨m, hm, _⟩ := h.r
 exact rows_neW h.d hm (by decide) hg
theorem R1.n912 (h : R1 n B D W0 todo done asked R v7 v8 v9 v12 w) : ∀ g, v9.ownBlock = some g → v12.ownBlock ≠ some g := fun _ hg => by
 obtain ⟨m, hm, _⟩ := h.r
 exact rows_neW h.a hm (by decide) hg
theorem R1.rel (h : R1 n B D W0 todo done asked R v7 v8 v9 v12 w) (hF : Fr M w w') (hM : ∀ g, M g → B ≤ g) {m : List RecC} (hr : Each2 (RcRel n D w) R m) : Each2 (RcRel n D w') R m :=
 hr.imp fun _ _ hx => hx.keep hF.size (fun g hg hl => ⟨hg, hF.block g hl (fun hm => by have := hM g hm; have := h.dB g hg; omega)⟩)
theorem R1.new_ (h : R1 n B D W0 todo done asked R v7 v8 v9 v12 w) (hb : Below w.heap.size w w') (hB : B ≤ w.heap.size) : R1 n B D W0 todo done asked R v7 v8 v9 v12 w' := by
 obtain ⟨m, hm, hr⟩ := h.r
 exact ⟨h.q.new_ hb (fun g hg => (h.b7 g hg).2), ownsRow_new h.d hb, ownsRow_new h.a hb, ⟨m, ownsRow_new hm hb, h.rel (M := fun _ => False) (Fr.of_new hb) (fun _ e => e.elim) hr⟩, fun g hg => ⟨(h.b7 g hg).1, Nat.lt_of_lt_of_le (h.b7 g hg).2 hb.size⟩, h.b8, h.b9, h.b12, h.n7, h.n89, h.dB, h.bel.trans (hb.mono hB)⟩
theorem R1.done_ (h : R1 n B D W0 todo done asked R v7 v8 v9 v12 w) (hB : B ≤ w.heap.size) (hown : w'.ownsRow 0 3 1 v' (done.length + 1) (done.flatMap Int.cells1 ++ [k].flatMap Int.cells1)) (hg : w.grownBy w' v8.ownBlock) (hat : v'.ownBlock = v8.ownBlock ∨ v'.ownBlock = some w.heap.size) :
 R1 n B D W0 todo (done ++ [k]) asked R v7 v' v9 v12 w' := by
 obtain ⟨m, hm, hr⟩ := h.r
 have hF : Fr (fun g => v8.ownBlock = some g) w w' := (Fr.refl _ w).grown hg (fun g hg => .inl hg)
 have hv : ∀ g, v'.ownBlock = some g → v8.ownBlock = some g ∨ g = w.heap.size := fun g hg => by
  rcases hat with e | e
  · exact .inl (e ▸ hg)
  · rw [e] at hg; injection hg with hg; exact .inr hg.symm
 refine ⟨h.q.keep hF (fun g hg => (h.n7 g hg).1) (fun g hg => (h.b7 g hg).2), ?_, ownsRow_fr h.a hF (fun g hg e => h.n89 g e hg), ⟨m, ownsRow_fr hm hF (fun g hg e => h.n812 g e hg), h.rel hF h.b8 hr⟩, fun g hg => ⟨(h.b7 g hg).1, Nat.lt_of_lt_of_le (h.b7 g hg).2 hF.size⟩, fun g hg => ?_, h.b9, h.b12, fun g hg => ⟨fun e => ?_, (h.n7 g hg).2⟩, fun g hg e => ?_, h.dB, h.bel.trans (hF.below hB (fun g hg e => by have := h.b8 g e; omega))⟩
 · rw [List.length_append, List.flatMap_append]; exact hown
 · rcases hv g hg with e | e
   · exact h.b8 g e
   · omega
 · rcases hv g e with e2 | e2
   · exact (h.n7 g hg).1 e2
   · have := (h.b7 g hg).2; omega
 · rcases hv g hg with e2 | e2
   · exact h.n89 g e2 e
   · have := own_lt h.a g e; omega
theorem R1.asked_ (h : R1 n B D W0 todo done asked R v7 v8 v9 v12 w) (hB : B ≤ w.heap.size) (hown : w'.ownsRow 0 3 1 v' asked'.length (asked'.flatMap Int.cells1)) (hF : Fr (fun g => v9.ownBlock = some g) w w') (hv : ∀ g, v'.ownBlock = some g → v9.ownBlock = some g ∨ w.heap.size ≤ g) :
 R1 n B D W0 todo done asked' R v7 v8 v' v12 w' := by
 obtain ⟨m, hm, hr⟩ := h.r
 refine ⟨h.q.keep hF (fun g hg => (h.n7 g hg).2.1) (fun g hg => (h.b7 g hg).2), ownsRow_fr h.d hF (fun g hg e => h.n89 g hg e), hown, ⟨m, ownsRow_fr hm hF (fun g hg e => h.n912 g e hg), h.rel hF h.b9 hr⟩, fun g hg => ⟨(h.b7 g hg).1, Nat.lt_of_lt_of_le (h.b7 g hg).2 hF.size⟩, h.b8, fun g hg => ?_, h.b12, fun g hg => ⟨(h.n7 g hg).1, fun e => ?_, (h.n7 g hg).2.2⟩, fun g hg e => ?_, h.dB, h.bel.trans (hF.below hB (fun g hg e => by have := h.b9 g e; omega))⟩
 · rcases hv g hg with e | e
   · exact h.b9 g e
   · omega
 · rcases hv g e with e2 | e2
   · exact (h.n7 g hg).2.1 e2
   · have := (h.b7 g hg).2; omega
 · rcases hv g e with e2 | e2
   · exact h.n89 g hg e2
   · have := own_lt h.d g hg; omega
theorem R1.recs_ (h : R1 n B D W0 todo done asked R v7 v8 v9 v12 w) (hB : B ≤ w.heap.size) {m' : List RecC} (hown : w'.ownsRow 0 47 6 v' m'.length (m'.flatMap RecC.cells)) (hr' : Each2 (RcRel n D w) R' m') (hF : Fr (fun g => v12.ownBlock = some g) w w') (hv : ∀ g, v'.ownBlock = some g → v12.ownBlock = some g ∨ w.heap.size ≤ g) :
 R1 n B D W0 todo done asked R' v7 v8 v9 v' w' := by
 refine ⟨h.q.keep hF (fun g hg => (h.n7 g hg).2.2) (fun g hg => (h.b7 g hg).2), ownsRow_fr h.d hF (fun g hg e => h.n812 g hg e), ownsRow_fr h.a hF (fun g hg e => h.n912 g hg e), ⟨m', hown, hr'.imp fun _ _ hx => hx.keep hF.size (fun g hg hl => ⟨hg, hF.block g hl (fun e => by have := h.b12 g e; have := h.dB g hg; omega)⟩)⟩, fun g hg => ⟨(h.b7 g hg).1, Nat.lt_of_lt_of_le (h.b7 g hg).2 hF.size⟩, h.b8, h.b9, fun g hg => ?_, fun g hg => ⟨(h.n7 g hg).1, (h.n7 g hg).2.1, fun e => ?_⟩, h.n89, h.dB, h.bel.trans (hF.below hB (fun g hg e => by have := h.b12 g e; omega))⟩
 · rcases hv g hg with e | e
   · exact h.b12 g e
   · omega
 · rcases hv g e with e2 | e2
   · exact (h.n7 g hg).2.2 e2
   · have := (h.b7 g hg).2; omega
theorem R1.todo_ (h : R1 n B D W0 todo done asked R v7 v8 v9 v12 w) (hB : B ≤ w.heap.size) (hq : QRow w' 3 1 v' (todo.length + 1) (todo.flatMap Int.cells1 ++ [.int .i64 k])) (hF : Fr (fun g => v7.ownBlock = some g) w w') (hv : v'.ownBlock = v7.ownBlock ∨ ∀ g, v'.ownBlock = some g → w.heap.size ≤ g ∧ g < w'.heap.size) :
 R1 n B D W0 (todo ++ [k]) done asked R v' v8 v9 v12 w' := by
 obtain ⟨m, hm, hr⟩ := h.r
 have hv2 : ∀ g, v'.ownBlock = some g → v7.ownBlock = some g ∨ (w.heap.size ≤ g ∧ g < w'.heap.size) := fun g hg => hv.elim (fun e => .inl (e ▸ hg)) (fun e => .inr (e g hg))
 refine ⟨by rw [List.length_append, List.flatMap_append]; exact hq, ownsRow_fr h.d hF (fun g hg e => (h.n7 g e).1 hg), ownsRow_fr h.a hF (fun g hg e => (h.n7 g e).2.1 hg), ⟨m, ownsRow_fr hm hF (fun g hg e => (h.n7 g e).2.2 hg), h.rel hF (fun g hg => (h.b7 g hg).1) hr⟩, fun g hg => ?_, h.b8, h.b9, h.b12, fun g hg => ?_, h.n89, h.dB, h.bel.trans (hF.below hB (fun g hg e => by have := (h.b7 g e).1; omega))⟩
 · rcases hv2 g hg with e | e
   · exact ⟨(h.b7 g e).1, Nat.lt_of_lt_of_le (h.b7 g e).2 hF.size⟩
   · exact ⟨by omega, e.2⟩
 · rcases hv2 g hg with e | e
   · exact h.n7 g e
   · refine ⟨fun e2 => ?_, fun e2 => ?_, fun e2 => ?_⟩
     · have := own_lt h.d g e2; omega
     · have := own_lt h.a g e2; omega
     · have := own_lt hm g e2; omega
theorem R1.pop_ {b off cap : Nat} (h : R1 n B D W0 (k :: todo) done asked R (.slice (some ⟨b, off, none⟩) (todo.length + 1) cap) v8 v9 v12 w) : R1 n B D W0 todo done asked R (.slice (if cap = 1 then some ⟨b, off, none⟩ else some ⟨b, off + 1, none⟩) todo.length (cap - 1)) v8 v9 v12 w := by
 have ht := QRow.tail (xs := todo.flatMap Int.cells1) (by have := h.q; simpa [Int.cells1] using this)
 have hb : ∀ g, (Value.slice (if cap = 1 then some ⟨b, off, none⟩ else some ⟨b, off + 1, none⟩) todo.length (cap - 1)).ownBlock = some g → (Value.slice (some ⟨b, off, none⟩) (todo.length + 1) cap).ownBlock = some g := fun g hg => by split at hg <;> exact hg
 exact ⟨ht, h.d, h.a, h.r, fun g hg => h.b7 g (hb g hg), h.b8, h.b9, h.b12, fun g hg => h.n7 g (hb g hg), h.n89, h.dB, h.bel⟩
end
end Go.Proofs.Ytnfgilbaglfkeaa
namespace Go.Proofs.Ytnfgilbaglfkeaa
open Go.RowKit Go.Shelf
abbrev V8 := {cs : List Value // cs.length = 8 ∧ ∀ u ∈ cs, u.oneCell' = true}
theorem v8_len (v : V8) : (v.1).length = 8 := v.2.1
theorem v8_one (l : List V8) : ∀ u ∈ l.flatMap (·.1), u.oneCell' = true := fun u hu => by
 obtain ⟨v, _, h⟩ := List.mem_flatMap.1 hu
 exact v.2.2 u h
def HoleRel (n : Nat) (D : Nat → Prop) (w : World) (a : HoleT) (v : V8) : Prop := (repHoleT n).rep D w a v.1
theorem raw_holes {n : Nat} {D : Nat → Prop} {w : World} {A : Option Addr} {c : Nat} {l : List HoleT} (h : RowR (repHoleT n) D w A c l) : ∃ xs : List V8, Each2 (HoleRel n D w) l xs ∧ RowRd w 8 (fun v : V8 => v.1) A c xs := by
 by_cases h0 : 0 < l.length
 · obtain ⟨b, off, hA, _, hb, hall⟩ := h.2.2 h0
   have hex : ∀ i : Fin l.length, ∃ v : V8, HoleRel n D w l[i] v ∧ ∀ j u, v.1[j]? = some u → w.cell? ⟨b, off + i * 8 + j, none⟩ = some u := fun i => by
    obtain ⟨cs, hrep, hc⟩ := hall i i.2
    have hr := hrep
    obtain ⟨A1, c1, A2, c2, A3, c3, A4, c4, hcs, _⟩ := hr
    refine ⟨⟨cs, by rw [hcs]; rfl, by rw [hcs]; simp [Value.oneCell']⟩, hrep, fun j u hu => hc j u hu⟩
   refine ⟨List.ofFn fun i => Classical.choose (hex i), ?_, ?_⟩
   · have : ∀ (l2 : List HoleT) (f : Fin l2.length → V8), (∀ i : Fin l2.length, HoleRel n D w l2[i] (f i)) → Each2 (HoleRel n D w) l2 (List.ofFn f) := by
      intro l2
      induction l2 with
      | nil => intro f _; simp; exact .nil
      | cons a l2 ih =>
        intro f hf
        rw [List.ofFn_succ]
        exact .cons (hf ⟨0, by simp⟩) (ih (fun i => f i.succ) (fun i => hf i.succ))
     exact this l _ (fun i => (Classical.choose_spec (hex i)).1)
   · refine ⟨by simpa using h.1, h.2.1, fun _ => ⟨b, off, hA, hb, fun k hk j u hu => ?_⟩⟩
     simp only [List.length_ofFn] at hk
     simp only [List.getElem_ofFn] at hu
     exact (Classical.choose_spec (hex ⟨k, hk⟩)).2 j u hu
 · have : l = [] := List.length_eq_zero_iff.1 (by omega)
   subst this
   exact ⟨[], .nil, by simp, h.2.1, fun h => absurd h (by simp)⟩
theorem holes_row {n : Nat} {D D' : Nat → Prop} {w : World} {A : Option Addr} {c : Nat} {l : List HoleT} {xs : List V8} (he : Each2 (HoleRel n D w) l xs) (hr : RowRd w 8 (fun v : V8 => v.1) A c xs) (hD : ∀ k, D k → D' k) (hA : AIn A D') : RowR (repHoleT n) D' w A c l := by
 have hl := he.length
 refine ⟨by rw [hl]; exact hr.1, hr.2.1, fun h0 => ?_⟩
 obtain ⟨b, off, rfl, hb, hc⟩ := hr.2.2 (by omega)
 refine ⟨b, off, rfl, hA _ rfl, hb, fun k hk => ?_⟩
 obtain ⟨hk2, hrep⟩ := he.get k hk
 exact ⟨xs[k].1, (repHoleT n).keep (Nat.le_refl _) (fun j hj _ => ⟨hD j hj, rfl⟩) hrep, fun j u hu => hc k hk2 j u hu⟩
structure R2 (n B : Nat) (D : Nat → Prop) (W0 : World) (tb : Nat) (vis lost : Int) (R : List KR) (mm : List RecC) (v12 : Value) (E : Nat → Prop) (Ae : Option Addr) (ce : Nat) (es : List TraceT) (vh : Value) (hs : List HoleT) (va : Value) (ap : List ApartT) (vn : Value) (nw : List Sym) (w : World) : Prop where
 blk : Blk w tb 37 #[.slice Ae es.length ce, vh, va, vn, .int .i64 vis, .int .i64 lost]
 e : RowR repTraceT E w Ae ce es
 h : ∃ xs : List V8, w.ownsRow 0 76 8 vh xs.length (xs.flatMap (fun v : V8 => v.1)) ∧ Each2 (HoleRel n D w) hs xs
 a : w.ownsRow 0 111 7 va ap.length (ap.flatMap ApartT.cells)
 nn : w.ownsRow 0 51 3 vn nw.length (nw.flatMap Sym.cells)
 r : w.ownsRow 0 47 6 v12 mm.length (mm.flatMap RecC.cells)
 rr : Each2 (RcRel n D w) R mm
 bt : B ≤ tb
 bh : ∀ k, vh.ownBlock = some k → B ≤ k
 ba : ∀ k, va.ownBlock = some k → B ≤ k
 bn : ∀ k, vn.ownBlock = some k → B ≤ k
 eE : ∀ k, E k → B ≤ k ∧ k < w.heap.size ∧ k ≠ tb ∧ vh.ownBlock ≠ some k ∧ va.ownBlock ≠ some k ∧ vn.ownBlock ≠ some k
 dB : ∀ k, D k → k < B
 bel : Below B W0 w
section
variable {n B : Nat} {D E M : Nat → Prop} {W0 w w' : World} {tb : Nat} {vis lost : Int} {R : List KR} {mm : List RecC} {v12 : Value} {Ae : Option Addr} {ce : Nat} {es : List TraceT} {vh : Value} {hs : List HoleT} {va : Value} {ap : List ApartT} {vn : Value} {nw : List Sym} {v' : Value}
theorem R2.nth (h : R2 n B D W0 tb vis lost R mm v12 E Ae ce es vh hs va ap vn nw w) : vh.ownBlock ≠ some tb ∧ va.ownBlock ≠ some tb ∧ vn.ownBlock ≠ some tb ∧ v12.ownBlock ≠ some tb := by
 obtain ⟨xs, hx, _⟩ := h.h
 exact ⟨own_blk_ne hx h.blk (by decide), own_blk_ne h.a h.blk (by decide), own_blk_ne h.nn h.blk (by decide), own_blk_ne h.r h.blk (by decide)⟩
theorem R2.rel (h : R2 n B D W0 tb vis lost R mm v12 E Ae ce es vh hs va ap vn nw w) (hF : Fr M w w') (hM : ∀ g, M g → B ≤ g) : Each2 (RcRel n D w') R mm :=
 h.rr.imp fun _ _ hx => hx.keep hF.size (fun g hg hl => ⟨hg, hF.block g hl (fun hm => by have := hM g hm; have := h.dB g hg; omega)⟩)
theorem R2.relH (h : R2 n B D W0 tb vis lost R mm v12 E Ae ce es vh hs va ap vn nw w) (hF : Fr M w w') (hM : ∀ g, M g → B ≤ g) {xs : List V8} {hs' : List HoleT} (hx : Each2 (HoleRel n D w) hs' xs) : Each2 (HoleRel n D w') hs' xs :=
 hx.imp fun _ _ hx => (repHoleT n).keep hF.size (fun g hg hl => ⟨hg, hF.block g hl (fun hm => by have := hM g hm; have := h.dB g hg; omega)⟩) hx
theorem R2.new_ (h : R2 n B D W0 tb vis lost R mm v12 E Ae ce es vh hs va ap vn nw w) (hb : Below w.heap.size w w') (hB : B ≤ w.heap.size) : R2 n B D W0 tb vis lost R mm v12 E Ae ce es vh hs va ap vn nw w' := by
 obtain ⟨xs, hx, hxr⟩ := h.h
 have hF : Fr (fun _ => False) w w' := Fr.of_new hb
 exact ⟨h.blk.new_ hb, h.e.new_ hb, ⟨xs, ownsRow_new hx hb, h.relH hF (fun _ e => e.elim) hxr⟩, ownsRow_new h.a hb, ownsRow_new h.nn hb, ownsRow_new h.r hb, h.rel hF (fun _ e => e.elim), h.bt, h.bh, h.ba, h.bn, fun k hk => ⟨(h.eE k hk).1, Nat.lt_of_lt_of_le (h.eE k hk).2.1 hb.size, (h.eE k hk).2.2⟩, h.dB, h.bel.trans (hb.mono hB)⟩
theorem R2.elems_ (h : R2 n B D W0 tb vis lost R mm v12 E Ae ce es vh hs va ap vn nw w) (hb : Below w.heap.size w w') (hB : B ≤ w.heap.size) {A' : Option Addr} {c' : Nat} {es' : List TraceT} (hr : RowR repTraceT (fun k => E k ∨ NewD w.heap.size w' k) w' A' c' es') :
 R2 n B D W0 tb vis lost R mm v12 (fun k => E k ∨ NewD w.heap.size w' k) A' c' es' vh hs va ap vn nw (w'.setCell ⟨tb, 0, none⟩ (.slice A' es'.length c')) := by
 have h1 := h.new_ hb hB
 obtain ⟨xs, hx, hxr⟩ := h1.h
 obtain ⟨n1, n2, n3, n4⟩ := h1.nth
 have ht := h.blk.lt
 have hF : Fr (· = tb) w' (w'.setCell ⟨tb, 0, none⟩ (.slice A' es'.length c')) := Fr.setCell (M := (· = tb)) (p := ⟨tb, 0, none⟩) (Fr.refl _ _) (.inl rfl) _
 have hMB : ∀ g, g = tb → B ≤ g := fun g e => by rw [e]; exact h.bt
 have hl : ∀ k, NewD w.heap.size w' k → vh.ownBlock ≠ some k ∧ va.ownBlock ≠ some k ∧ vn.ownBlock ≠ some k := fun k hk => by
  obtain ⟨ys, hy, _⟩ := h.h
  have hk1 := hk.1
  exact ⟨fun e => by have := own_lt hy k e; omega, fun e => by have := own_lt h.a k e; omega, fun e => by have := own_lt h.nn k e; omega⟩
 refine ⟨by simpa using h1.blk.set_ 0 (.slice A' es'.length c'), hr.fr hF (fun k hk e => ?_), ⟨xs, ownsRow_fr hx hF (fun g hg e => n1 (e ▸ hg)), h1.relH hF hMB hxr⟩, ownsRow_fr h1.a hF (fun g hg e => n2 (e ▸ hg)), ownsRow_fr h1.nn hF (fun g hg e => n3 (e ▸ hg)), ownsRow_fr h1.r hF (fun g hg e => n4 (e ▸ hg)), h1.rel hF hMB, h.bt, h.bh, h.ba, h.bn, fun k hk => ?_, h.dB, h1.bel.trans (hF.below (Nat.le_trans hB hb.size) (fun k hk e => by have := hMB k e; omega))⟩
 · rcases hk with hk | hk
   · exact (h.eE k hk).2.2.1 e
   · have := hk.1; omega
 · rcases hk with hk | hk
   · obtain ⟨g1, g2, g3, g4⟩ := h.eE k hk
     exact ⟨g1, Nat.lt_of_lt_of_le (Nat.lt_of_lt_of_le g2 hb.size) hF.size, g3, g4⟩
   · obtain ⟨g1, g2⟩ := hk
     exact ⟨by omega, Nat.lt_of_lt_of_le g2 hF.size, by omega, hl k ⟨g1, g2⟩⟩
theorem R2.holes_ (h : R2 n B D W0 tb vis lost R mm v12 E Ae ce es vh hs va ap vn nw w) (hB : B ≤ w.heap.size) {l' : List HoleT} {xs' : List V8} (hxs : Each2 (HoleRel n D w) l' xs') (hown : w'.ownsRow 0 76 8 v' xs'.length (xs'.flatMap (fun v : V8 => v.1))) (hg : w.grownBy w' vh.ownBlock) (hat : v'.ownBlock = vh.ownBlock ∨ v'.ownBlock = some w.heap.size) :
 R2 n B D W0 tb vis lost R mm v12 E Ae ce es v' l' va ap vn nw (w'.setCell ⟨tb, 1, none⟩ v') := by
 obtain ⟨xs, hx, hxr⟩ := h.h
 obtain ⟨n1, n2, n3, n4⟩ := h.nth
 have hF1 : Fr (fun g => vh.ownBlock = some g) w w' := (Fr.refl _ w).grown hg (fun g hg => .inl hg)
 have hF : Fr (fun g => vh.ownBlock = some g ∨ g = tb) w (w'.setCell ⟨tb, 1, none⟩ v') := (hF1.mono (fun _ _ e => .inl e)).setCell (p := ⟨tb, 1, none⟩) (.inl (.inr rfl)) v'
 have hMB : ∀ g, (vh.ownBlock = some g ∨ g = tb) → B ≤ g := fun g e => e.elim (h.bh g) (fun e => by rw [e]; exact h.bt)
 have hv : ∀ g, v'.ownBlock = some g → vh.ownBlock = some g ∨ g = w.heap.size := fun g hg => by
  rcases hat with e | e
  · exact .inl (e ▸ hg)
  · rw [e] at hg; injection hg with hg; exact .inr hg.symm
 have hnt : ∀ g, v'.ownBlock = some g → g ≠ tb := fun g hg e => by
  rcases hv g hg with e2 | e2
  · rw [e] at e2; exact n1 e2
  · have := h.blk.lt; omega
 have hown2 : (w'.setCell ⟨tb, 1, none⟩ v').ownsRow 0 76 8 v' _ _ := ownsRow_fr hown (Fr.setCell (M := (· = tb)) (p := ⟨tb, 1, none⟩) (Fr.refl _ _) (.inl rfl) v') (fun g hg e => hnt g hg e)
 have ht2 : Blk w' tb 37 #[.slice Ae es.length ce, vh, va, vn, .int .i64 vis, .int .i64 lost] := h.blk.fr hF1 (fun e => n1 e)
 refine ⟨by simpa using ht2.set_ 1 v', h.e.fr hF (fun k hk e => e.elim (fun e => ?_) (h.eE k hk).2.2.1), ⟨xs', hown2, h.relH hF hMB hxs⟩, ownsRow_fr h.a hF (fun g hg e => e.elim (fun e => rows_neW hx h.a (by decide) e hg) (fun e => n2 (e ▸ hg))), ownsRow_fr h.nn hF (fun g hg e => e.elim (fun e => rows_neW hx h.nn (by decide) e hg) (fun e => n3 (e ▸ hg))), ownsRow_fr h.r hF (fun g hg e => e.elim (fun e => rows_neW hx h.r (by decide) e hg) (fun e => n4 (e ▸ hg))), h.rel hF hMB, h.bt, fun g hg => ?_, h.ba, h.bn, fun k hk => ?_, h.dB, h.bel.trans (hF.below hB (fun k hk e => by have := hMB k e; omega))⟩
 · exact (h.eE k hk).2.2.2.1 e
 · rcases hv g hg with e | e
   · exact h.bh g e
   · omega
 · obtain ⟨g1, g2, g3, g4, g5, g6⟩ := h.eE k hk
   have hq : ∀ e : v'.ownBlock = some k, False := fun e => by
    rcases hv k e with e2 | e2
    · exact g4 e2
    · omega
   exact ⟨g1, Nat.lt_of_lt_of_le g2 hF.size, g3, hq, g5, g6⟩
theorem R2.aparts_ (h : R2 n B D W0 tb vis lost R mm v12 E Ae ce es vh hs va ap vn nw w) (hB : B ≤ w.heap.size) {l' : List ApartT} (hown : w'.ownsRow 0 111 7 v' l'.length (l'.flatMap ApartT.cells)) (hg : w.grownBy w' va.ownBlock) (hat : v'.ownBlock = va.ownBlock ∨ v'.ownBlock = some w.heap.size) :
 R2 n B D W0 tb vis lost R mm v12 E Ae ce es vh hs v' l' vn nw (w'.setCell ⟨tb, 2, none⟩ v') := by
 obtain ⟨xs, hx, hxr⟩ := h.h
 obtain ⟨n1, n2, n3, n4⟩ := h.nth
 have hF1 : Fr (fun g => va.ownBlock = some g) w w' := (Fr.refl _ w).grown hg (fun g hg => .inl hg)
 have hF : Fr (fun g => va.ownBlock = some g ∨ g = tb) w (w'.setCell ⟨tb, 2, none⟩ v') := (hF1.mono (fun _ _ e => .inl e)).setCell (p := ⟨tb, 2, none⟩) (.inl (.inr rfl)) v'
 have hMB : ∀ g, (va.ownBlock = some g ∨ g = tb) → B ≤ g := fun g e => e.elim (h.ba g) (fun e => by rw [e]; exact h.bt)
 have hv : ∀ g, v'.ownBlock = some g → va.ownBlock = some g ∨ g = w.heap.size := fun g hg => by
  rcases hat with e | e
  · exact .inl (e ▸ hg)
  · rw [e] at hg; injection hg with hg; exact .inr hg.symm
 have hnt : ∀ g, v'.ownBlock = some g → g ≠ tb := fun g hg e => by
  rcases hv g hg with e2 | e2
  · rw [e] at e2; exact n2 e2
  · have := h.blk.lt; omega
 have hown2 : (w'.setCell ⟨tb, 2, none⟩ v').ownsRow 0 111 7 v' _ _ := ownsRow_fr hown (Fr.setCell (M := (· = tb)) (p := ⟨tb, 2, none⟩) (Fr.refl _ _) (.inl rfl) v') (fun g hg e => hnt g hg e)
 have ht2 : Blk w' tb 37 #[.slice Ae es.length ce, vh, va, vn, .int .i64 vis, .int .i64 lost] := h.blk.fr hF1 (fun e => n2 e)
 refine ⟨by simpa using ht2.set_ 2 v', h.e.fr hF (fun k hk e => e.elim (fun e => ?_) (h.eE k hk).2.2.1), ⟨xs, ownsRow_fr hx hF (fun g hg e => e.elim (fun e => rows_neW h.a hx (by decide) e hg) (fun e => n1 (e ▸ hg))), h.relH hF hMB hxr⟩, hown2, ownsRow_fr h.nn hF (fun g hg e => e.elim (fun e => rows_neW h.a h.nn (by decide) e hg) (fun e => n3 (e ▸ hg))), ownsRow_fr h.r hF (fun g hg e => e.elim (fun e => rows_neW h.a h.r (by decide) e hg) (fun e => n4 (e ▸ hg))), h.rel hF hMB, h.bt, h.bh, fun g hg => ?_, h.bn, fun k hk => ?_, h.dB, h.bel.trans (hF.below hB (fun k hk e => by have := hMB k e; omega))⟩
 · exact (h.eE k hk).2.2.2.2.1 e
 · rcases hv g hg with e | e
   · exact h.ba g e
   · omega
 · obtain ⟨g1, g2, g3, g4, g5, g6⟩ := h.eE k hk
   have hq : ∀ e : v'.ownBlock = some k, False := fun e => by
    rcases hv k e with e2 | e2
    · exact g5 e2
    · omega
   exact ⟨g1, Nat.lt_of_lt_of_le g2 hF.size, g3, g4, hq, g6⟩
theorem R2.news_ (h : R2 n B D W0 tb vis lost R mm v12 E Ae ce es vh hs va ap vn nw w) (hB : B ≤ w.heap.size) {l' : List Sym} (hown : w'.ownsRow 0 51 3 v' l'.length (l'.flatMap Sym.cells)) (hg : w.grownBy w' vn.ownBlock) (hat : v'.ownBlock = vn.ownBlock ∨ v'.ownBlock = some w.heap.size) :
 R2 n B D W0 tb vis lost R mm v12 E Ae ce es vh hs va ap v' l' (w'.setCell ⟨tb, 3, none⟩ v') := by
 obtain ⟨xs, hx, hxr⟩ := h.h
 obtain ⟨n1, n2, n3, n4⟩ := h.nth
 have hF1 : Fr (fun g => vn.ownBlock = some g) w w' := (Fr.refl _ w).grown hg (fun g hg => .inl hg)
 have hF : Fr (fun g => vn.ownBlock = some g ∨ g = tb) w (w'.setCell ⟨tb, 3, none⟩ v') := (hF1.mono (fun _ _ e => .inl e)).setCell (p := ⟨tb, 3, none⟩) (.inl (.inr rfl)) v'
 have hMB : ∀ g, (vn.ownBlock = some g ∨ g = tb) → B ≤ g := fun g e => e.elim (h.bn g) (fun e => by rw [e]; exact h.bt)
 have hv : ∀ g, v'.ownBlock = some g → vn.ownBlock = some g ∨ g = w.heap.size := fun g hg => by
  rcases hat with e | e
  · exact .inl (e ▸ hg)
  · rw [e] at hg; injection hg with hg; exact .inr hg.symm
 have hnt : ∀ g, v'.ownBlock = some g → g ≠ tb := fun g hg e => by
  rcases hv g hg with e2 | e2
  · rw [e] at e2; exact n3 e2
  · have := h.blk.lt; omega
 have hown2 : (w'.setCell ⟨tb, 3, none⟩ v').ownsRow 0 51 3 v' _ _ := ownsRow_fr hown (Fr.setCell (M := (· = tb)) (p := ⟨tb, 3, none⟩) (Fr.refl _ _) (.inl rfl) v') (fun g hg e => hnt g hg e)
 have ht2 : Blk w' tb 37 #[.slice Ae es.length ce, vh, va, vn, .int .i64 vis, .int .i64 lost] := h.blk.fr hF1 (fun e => n3 e)
 refine ⟨by simpa using ht2.set_ 3 v', h.e.fr hF (fun k hk e => e.elim (fun e => ?_) (h.eE k hk).2.2.1), ⟨xs, ownsRow_fr hx hF (fun g hg e => e.elim (fun e => rows_neW h.nn hx (by decide) e hg) (fun e => n1 (e ▸ hg))), h.relH hF hMB hxr⟩, ownsRow_fr h.a hF (fun g hg e => e.elim (fun e => rows_neW h.nn h.a (by decide) e hg) (fun e => n2 (e ▸ hg))), hown2, ownsRow_fr h.r hF (fun g hg e => e.elim (fun e => rows_neW h.nn h.r (by decide) e hg) (fun e => n4 (e ▸ hg))), h.rel hF hMB, h.bt, h.bh, h.ba, fun g hg => ?_, fun k hk => ?_, h.dB, h.bel.trans (hF.below hB (fun k hk e => by have := hMB k e; omega))⟩
 · exact (h.eE k hk).2.2.2.2.2 e
 · rcases hv g hg with e | e
   · exact h.bn g e
   · omega
 · obtain ⟨g1, g2, g3, g4, g5, g6⟩ := h.eE k hk
   have hq : ∀ e : v'.ownBlock = some k, False := fun e => by
    rcases hv k e with e2 | e2
    · exact g6 e2
    · omega
   exact ⟨g1, Nat.lt_of_lt_of_le g2 hF.size, g3, g4, g5, hq⟩
theorem R2.at_ {A12 : Option Addr} {c12 : Nat} (h : R2 n B D W0 tb vis lost R mm (.slice A12 mm.length c12) E Ae ce es vh hs va ap vn nw w) {i : Nat} (hi : i < mm.length) (hR : i < R.length) {x : RecC} {k0 : Int} {r : RecordT} (hx : mm[i] = x) (hp : R[i] = (k0, r)) :
 ∃ g off, A12 = some ⟨g, off, none⟩ ∧ g < w.heap.size ∧ w.cell? ⟨g, off + i * 6 + 2, none⟩ = some (.slice x.e.A r.elems.length x.e.c) ∧ w.cell? ⟨g, off + i * 6 + 3, none⟩ = some (.slice x.h.A r.holes.length x.h.c) ∧ w.cell? ⟨g, off + i * 6 + 4, none⟩ = some (.slice x.a.A r.aparts.length x.a.c) ∧ w.cell? ⟨g, off + i * 6 + 5, none⟩ = some (.slice x.n.A r.news.length x.n.c) ∧
   RecAt n D w r x.e.A x.e.c x.h.A x.h.c x.a.A x.a.c x.n.A x.n.c := by
 obtain ⟨g, off, hA, hg, hc⟩ := (ownsRow_rd RecC.cells_length h.r).at_ hi
 obtain ⟨_, _, _, e1, e2, e3, e4, hra⟩ := h.rr.get i hR
 rw [hx] at hc e1 e2 e3 e4 hra
 rw [hp] at e1 e2 e3 e4 hra
 have k2 := hc 2 _ rfl
 have k3 := hc 3 _ rfl
 have k4 := hc 4 _ rfl
 have k5 := hc 5 _ rfl
 rw [e1] at k2
 rw [e2] at k3
 rw [e3] at k4
 rw [e4] at k5
 exact ⟨g, off, hA, hg, k2, k3, k4, k5, hra⟩
end
theorem has_sym (l : List Sym) (x : Sym) : has cmpSym l x = decide (x ∈ l) := by
 by_cases h : x ∈ l
 · rw [decide_eq_true h]; exact has_iff.2 ⟨x, h, cmpSym_eq.2 rfl⟩
 · rw [decide_eq_false h, has_false]; intro y hy e; exact h (cmpSym_eq.1 e ▸ hy)
theorem grounds_snoc (lv : Int) (R : List KR) (p : KR) : groundsOf lv (R ++ [p]) = puts cmpTag (groundsOf lv R) (lows lv p.2) := by
 unfold groundsOf puts
 rw [List.flatMap_append, List.foldl_append]
 simp
theorem grounds_len {lv : Int} {R : List KR} {N : Nat} (h : ∀ p ∈ R, p.2.elems.length ≤ N) : (groundsOf lv R).length ≤ N * R.length := by
 have h1 := length_puts_le tc_tag (R.flatMap fun p => lows lv p.2) Srt.nil
 have h2 := flat_le (fun p : KR => lows lv p.2) N R (fun p hp => Nat.le_trans (by unfold lows; rw [List.length_map]; exact List.length_filter_le _ _) (h p hp))
 have h3 : (puts cmpTag [] (R.flatMap fun p => lows lv p.2)).length ≤ N * R.length := by simp at h1 h2 ⊢; omega
 exact h3
end Go.Proofs.Ytnfgilbaglfkeaa
namespace Go.Proofs.Ytnfgilbaglfkeaa
open Go.RowKit
attribute [local go_sem] eql_sym neq_sym
end Go.Proofs.Ytnfgilbaglfkeaa
namespace Go.Proofs.Ytnfgilbaglfkeaa
open Go.RowKit
attribute [local go_sem] eql_sym neq_sym
theorem has_take {l : List Sym} {x : Sym} {i : Nat} (h : i < l.length) : has cmpSym (l.take (i + 1)) x = (has cmpSym (l.take i) x || decide (l[i] = x)) := by
 rw [List.take_add_one, List.getElem?_eq_getElem h]
 simp only [has, Option.toList_some, List.any_append, List.any_cons, List.any_nil, Bool.or_false]
 congr 1
 rw [Bool.eq_iff_iff]
 simp [cmpSym_eq]
set_option maxRecDepth 100000 in
set_option maxHeartbeats 2000000 in
theorem has_is (A : Option Addr) (c : Nat) (l : List Sym) (x : Sym) (w : World) (hrd : RowRd w 3 Sym.cells A c l) :
 Calls Try.prog 50 #[.slice A l.length c, .agg #[.int .i64 x.kind, .string x.text, .int .i64 x.n]] w fun e w' => e = .returned (.bool (has cmpSym l x)) ∧ Below w.heap.size w w' := by
 have HRD := Lib.hid hrd
 have hlc := hrd.cap
 clear hrd
 go_enter Try.func50, Try.ntmps50
 go_wp2_with fail
 obtain ⟨W0, hW0⟩ : ∃ W0, W0 = w.alloc (Obj.cells #[Value.int IntKind.i64 x.kind, Value.string x.text, Value.int IntKind.i64 x.n] 51) := ⟨_, rfl⟩
 have hB0 : Below w.heap.size w W0 := by rw [hW0]; exact (Below.refl _ _).alloc (Nat.le_refl _) _
 have hX0 : Blk W0 w.heap.size 51 #[.int .i64 x.kind, .string x.text, .int .i64 x.n] := by rw [hW0]; exact Blk.new _ _ _
 rw [← hW0]
 clear hW0
 have HB0 := Lib.hid hB0
 have HX0 := Lib.hid hX0
 clear hB0 hX0
 go_loopw [5] (fun s wr => ∃ i : Nat, s = .int .i64 i ∧ has cmpSym (l.take i) x = false ∧ i ≤ l.length ∧ Below W0.heap.size W0 wr) (fun s wr => l.length - (intOf s).toNat)
 case atStart => exact ⟨0, rfl, by simp [has], Nat.zero_le _, Below.refl _ _⟩
 case round =>
  obtain ⟨i, rfl, hk, hi, hB⟩ := hrel
  have HK := Lib.hid hk
  clear hk
  by_cases hlt : i < l.length
  · have hBw : Below w.heap.size w wr := HB0.out.trans (hB.mono HB0.out.size)
    obtain ⟨y, hy⟩ : ∃ y, y = l[i] := ⟨_, rfl⟩
    obtain ⟨g, off, rfl, hg, q0, q1, q2⟩ := sym_at (HRD.out.new_ hBw) hlt
    rw [← hy] at q0 q1 q2
    have hxr := HX0.out.new_ hB
    have hxl := hxr.lt
    have y0 := hxr.cell 0
    have y1 := hxr.cell 1
    have y2 := hxr.cell 2
    simp only [List.getElem?_toArray, List.getElem?_cons_zero, List.getElem?_cons_succ] at y0 y1 y2
    have HXR := Lib.hid hxr
    have HB := Lib.hid hB
    have HBw := Lib.hid hBw
    have HY := Lib.hid hy
    clear hB hBw hy hxr
    have b1 : (0 : Int) ≤ (i : Int) := by omega
    have b2 : (i : Int) < (l.length : Int) := by omega
    have hbe := eql_sym y x
    have hstep := has_take (x := x) hlt
    rw [← HY.out, HK.out, Bool.false_or] at hstep
    by_cases he : y = x
    · have t2 : decide (y = x) = true := by simpa using he
      rw [t2] at hbe hstep
      have HE := Lib.hid hstep
      clear he hstep
      go_wp2_with fail
      go_quiet (fail)
      clear q0 q1 q2 y0 y1 y2
      go_wp2_with fail
      go_ret
      have e : has cmpSym l x = true := by
       rw [has_iff]
       obtain ⟨z, hz, hz2⟩ := has_iff.1 HE.out
       exact ⟨z, List.mem_of_mem_take hz, hz2⟩
      exact ⟨by rw [e]; rfl, Below.drewN' HBw.out nq⟩
    · have t2 : decide (y = x) = false := by simpa using he
      rw [t2] at hbe hstep
      have HE := Lib.hid hstep
      clear he hstep
      go_wp2_with fail
      go_quiet (fail)
      have HB1 := Lib.hid (Below.drewN' HB.out nq)
      clear q0 q1 q2 y0 y1 y2
      go_wp2_with fail
      go_roundw
      case rel => exact ⟨i + 1, by go_num, HE.out, by omega, HB1.out⟩
      case measure => simp [intOf] <;> omega
  · have hie : i = l.length := by omega
    subst hie
    have HB := Lib.hid hB
    clear hB
    go_wp2_with fail
    go_ret
    have e := HK.out
    rw [List.take_length] at e
    exact ⟨by rw [e]; rfl, HB0.out.trans (HB.out.mono HB0.out.size)⟩
end Go.Proofs.Ytnfgilbaglfkeaa
