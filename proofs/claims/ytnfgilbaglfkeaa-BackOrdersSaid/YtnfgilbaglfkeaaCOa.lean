/-
  For every input BackOrders answers true, and leaves its arguments and all that was there as they were. No conditions.
-/
import Derived.Test.YtnfgilbaglfkeaaBa
import Derived.Test.YtnfgilbaglfkeaaBb
import Derived.Test.YtnfgilbaglfkeaaBc
import Derived.Test.YtnfgilbaglfkeaaBd
import Derived.Test.YtnfgilbaglfkeaaBe
import Derived.Test.YtnfgilbaglfkeaaBf
import Derived.Test.YtnfgilbaglfkeaaBg
import Derived.Test.YtnfgilbaglfkeaaBh
import Derived.Test.YtnfgilbaglfkeaaBi
import Derived.Test.YtnfgilbaglfkeaaBj
import Derived.Test.YtnfgilbaglfkeaaBk
import Derived.WalkKit
import Derived.WalkSpells
import Derived.WalkLawsBesides
import Derived.Lib.Hide
import Derived.Deep.QuietTactic
import Derived.BigQuiet
import Derived.Deep.RegionHeld3
import Derived.Deep.AppendLies
import Derived.Maps.AppendAt
import Derived.StillTailTactics
import Derived.Maps.RangeWalk
import Derived.ProofKit
import Derived.Carry
import Derived.ChangeSame
import Derived.Deep.Slices
import Derived.Deep.Strs
import Derived.OrdersHeld
import Derived.StillTail
import Derived.RangeFuncNested
import Derived.RangeFuncBound
import Derived.RangeFuncCalls
import Derived.RangeFuncLeaves
import Derived.OrdersIn
import Derived.OwnWalkIn
import Derived.TacticsInMore
import Derived.LoopNIn
import Derived.LoopIn
import Derived.Shelf.Abstract
import Derived.Test.YtnfgilbaglfkeaaRows
import Derived.Lib.Strings
import Derived.Deep.MidRow
import Derived.Deep.Cut
import Derived.ArgAppend
import Derived.Deep.LoopGhost
import Derived.Lib.MinMax
import Derived.IntWalk
namespace Go.Proofs.Ytnfgilbaglfkeaa
open Go.RowKit Go.Shelf
theorem RowRd.suffix {α : Type} {w : World} {size c : Nat} {cells : α → List Value} {A : Option Addr} {l : List α} (h : RowRd w size cells A c l) (i : Nat) (hi : i ≤ l.length) :
 RowRd w size cells (if c = i then A else A.map (·.add (i * size))) (c - i) (l.drop i) := by
 refine ⟨by simp; have := h.1; omega, by have := h.2.1; omega, fun h0 => ?_⟩
 rw [List.length_drop] at h0
 obtain ⟨b, off, rfl, hb, hc⟩ := h.2.2 (by omega)
 have h1 := h.1
 rw [if_neg (by omega)]
 refine ⟨b, off + i * size, by simp [Go.WideShapes.add_plain], hb, fun k hk j u hu => ?_⟩
 rw [List.length_drop] at hk
 have := hc (i + k) (by omega) j u (by rw [← hu]; simp)
 rw [Nat.add_mul] at this
 rw [← this]
 congr 2
 omega
def swapL (l : List Int) (i j : Nat) (a b : Int) : List Int := (l.set i b).set j a
theorem swapL_len (l : List Int) (i j : Nat) (a b : Int) : (swapL l i j a b).length = l.length := by simp [swapL]
theorem mem_swapL {l : List Int} {i j : Nat} (hi : i < l.length) (hj : j < l.length) (x : Int) : x ∈ swapL l i j l[i] l[j] ↔ x ∈ l := by
 unfold swapL
 rw [List.mem_iff_getElem, List.mem_iff_getElem]
 constructor
 · rintro ⟨k, hk, rfl⟩
   simp only [List.length_set] at hk
   rw [List.getElem_set]
   split
   · exact ⟨i, hi, rfl⟩
   · rw [List.getElem_set]
     split
     · exact ⟨j, hj, rfl⟩
     · exact ⟨k, hk, rfl⟩
 · rintro ⟨k, hk, rfl⟩
   by_cases h1 : k = i
   · subst h1
     exact ⟨j, by simpa using hj, by rw [List.getElem_set_self]⟩
   · by_cases h2 : k = j
     · subst h2
       refine ⟨i, by simpa using hi, ?_⟩
       rw [List.getElem_set]
       split
       · rename_i e; subst e; rfl
       · rw [List.getElem_set_self]
     · refine ⟨k, by simpa using hk, ?_⟩
       rw [List.getElem_set_ne (by omega), List.getElem_set_ne (by omega)]
theorem own_int {w : World} {g n cap : Nat} {l : List Int} (h : w.ownsRow 0 3 1 (.slice (some ⟨g, 0, none⟩) n cap) n (l.flatMap Int.cells1)) {k : Nat} (hk : k < l.length) : w.cell? ⟨g, k, none⟩ = some (.int .i64 l[k]) ∧ w.frozen? ⟨g, k, none⟩ = false := by
 rcases ownsRow_form h with ⟨hv, _⟩ | ⟨g', cap', hv, _, _, hr, _, hc⟩
 · cases hv
 · injection hv with h1 h2 h3
   injection h1 with h1
   injection h1 with h1
   subst h1
   refine ⟨hc k _ ?_, hr.frozen k⟩
   have := flat_get Int.cells1_length l k hk 0 (by decide)
   simpa [Int.cells1] using this
theorem own_set {w : World} {g n cap : Nat} {l : List Int} (h : w.ownsRow 0 3 1 (.slice (some ⟨g, 0, none⟩) n cap) n (l.flatMap Int.cells1)) {k : Nat} (hk : k < l.length) (y : Int) : (w.setCell ⟨g, k, none⟩ (.int .i64 y)).ownsRow 0 3 1 (.slice (some ⟨g, 0, none⟩) n cap) n ((l.set k y).flatMap Int.cells1) := by
 have := ownsRow_element Int.cells1_length (by decide) h k hk y
 rw [Nat.mul_one] at this
 exact this
theorem run_sl_from {n c j : Nat} (A : Option Addr) (hj : j ≤ n) (Y : World) : (Instr.slice 22 (.slice A n c) (some (.int .i64 (j : Int))) none none).run Try.prog Y = .ok (.slice (if c = j then A else A.map (·.add j)) (n - j) (c - j)) Y := by
 have hl0 : (0 : Int) ≤ (j : Int) := by omega
 have hl1 : (j : Int) ≤ (n : Int) := by omega
 go_simp
theorem run_sl_to {n c j : Nat} (A : Option Addr) (hj : j ≤ c) (Y : World) : (Instr.slice 22 (.slice A n c) none (some (.int .i64 (j : Int))) none).run Try.prog Y = .ok (.slice A j c) Y := by
 have hl0 : (0 : Int) ≤ (j : Int) := by omega
 have hl1 : (j : Int) ≤ (c : Int) := by omega
 go_simp
theorem trailL_same (l : List RecordT) (lv : Int) {nums nums' : List Int} (h : ∀ k, k ∈ nums ↔ k ∈ nums') : trailL l lv nums = trailL l lv nums' := trail_same (lookR_keys l) h
end Go.Proofs.Ytnfgilbaglfkeaa
namespace Go.Proofs.Ytnfgilbaglfkeaa
open Go.RowKit Go.Shelf
set_option maxRecDepth 100000 in
set_option maxHeartbeats 16000000 in
theorem orders_walk (n : Nat) (lv v : Int) (nums : List Int) (l : List RecordT) (A1 A2 : Option Addr) (c1 c2 : Nat) (w : World) (h1 : RowRd w 1 Int.cells1 A1 c1 nums) (h2 : RowR (repRecordT n) (· < w.heap.size) w A2 c2 l) :
 Calls Try.prog 4 #[.int .i64 lv, .slice A1 nums.length c1, .slice A2 l.length c2, .int .i64 v] w fun e w' => e = .returned (.bool true) ∧ Below w.heap.size w w' := by
 obtain ⟨i0, hi0, hz0, hz1, hz2⟩ := infp inf_Int
 have H1 := Lib.hid h1
 have H2 := Lib.hid h2
 have hc1 := h1.cap
 have hcc1 := h1.1
 have hcm1 := h1.2.1
 have hc2 := h2.cap
 have h20 : c1 ≤ maxLen ∧ maxLen = 9223372036854775807 := ⟨hcm1, rfl⟩
 clear h1 h2 h20
 have HB := Lib.hid (Below.refl w.heap.size w)
 go_enter Try.func4, Try.ntmps4
 by_cases hd0 : (20 : Int) < (nums.length : Int)
 · skip
   have d0 : decide ((20 : Int) < (nums.length : Int)) = true := by simpa using hd0
   clear hd0
   go_wp2_with fail
   with_reducible refine (wakes21_is _).mono ?_
   rintro e w2 ⟨rfl, hb⟩
   have hbs := Below.trans (show Below w.heap.size w _ from (by (repeat (first | exact Below.refl _ _ | refine Below.drew ?_ | refine Below.al ?_ _ | refine Below.sc ?_ _)))) (hb.mono (by simp <;> omega))
   have HB := Lib.hid (HB.out.trans (hbs.mono HB.out.size))
   have hsz2 := hbs.size
   clear  hb hbs
   go_wp2_with fail
   go_ret
   exact ⟨rfl, by (repeat (first | exact Below.refl _ _ | exact HB.out | refine Below.drew ?_ | refine Below.al ?_ _ | refine Below.sc ?_ _))⟩
 · skip
   have d0 : decide ((20 : Int) < (nums.length : Int)) = false := by simpa using hd0
   have HL0 := Lib.hid (show nums.length ≤ 20 by omega)
   clear hd0
   go_wp2_with fail
   with_reducible refine (heavy21_is n A2 c2 l _ (H2.out.new_ HB.out)).mono ?_
   rintro e w2 ⟨bh, rfl, hb, hnh⟩
   have hbs := Below.trans (show Below w.heap.size w _ from (by (repeat (first | exact Below.refl _ _ | refine Below.drew ?_ | refine Below.al ?_ _ | refine Below.sc ?_ _)))) (hb.mono (by simp <;> omega))
   have HB := Lib.hid (HB.out.trans (hbs.mono HB.out.size))
   have hsz2 := hbs.size
   clear  hb hbs
   have HNH := Lib.hid hnh
   clear hnh
   cases bh
   · skip
     have HSM := Lib.hid (HNH.out rfl)
     clear HNH
     have h20 := HL0.out
     obtain ⟨j, hj1, hj2⟩ := within_nat v (n := nums.length + 1) (by omega)
     have hw : ∀ W, Calls Try.prog 15 #[.int .i64 v, .int .i64 ((nums.length : Int) + 1)] W fun e w0 => e = .returned (.int .i64 (j : Int)) ∧ W = w0 := fun W => by
      have := within_is v ((nums.length : Int) + 1) W (by omega)
      rw [show within v ((nums.length : Int) + 1) = (j : Int) by rw [show ((nums.length : Int) + 1) = ((nums.length + 1 : Nat) : Int) by omega]; exact hj1] at this
      exact this
     have HW := Lib.hid hw
     clear hw hj1
     have vw : IntKind.i64.wrap ((nums.length : Int) + 1) = (nums.length : Int) + 1 := IntWalk.i64_in _ (by omega)
     go_wp2_with fail
     refine (HW.out _).mono ?_
     rintro e w0 ⟨rfl, rfl⟩
     clear vw HW
     obtain ⟨As, hAs⟩ : ∃ As, As = (if c1 = j then A1 else A1.map (·.add j)) := ⟨_, rfl⟩
     have HSU := Lib.hid (show RowRd w2 1 Int.cells1 As (c1 - j) (nums.drop j) by
      have := (H1.out.new_ HB.out).suffix j (by omega)
      rw [Nat.mul_one, ← hAs] at this
      exact this)
     have HPR := Lib.hid (show RowRd w2 1 Int.cells1 A1 c1 (nums.take j) from (H1.out.new_ HB.out).prefix_ j)
     obtain ⟨d, hd⟩ : ∃ d, d = nums.drop j := ⟨_, rfl⟩
     obtain ⟨t, ht⟩ : ∃ t, t = nums.take j := ⟨_, rfl⟩
     rw [← hd] at HSU
     rw [← ht] at HPR
     have hdl : nums.length - j = d.length := by rw [hd, List.length_drop]
     have htl : t.length = j := by rw [ht, List.length_take]; omega
     have HME := Lib.hid (show ∀ x, x ∈ d ++ t ↔ x ∈ nums by
      intro x
      have : nums = t ++ d := by rw [hd, ht, List.take_append_drop]
      rw [this, List.mem_append, List.mem_append]
      exact Or.comm)
     have hdd : d.length + t.length = nums.length := by omega
     have hsl1 : ∀ Y, (Instr.slice 22 (.slice A1 nums.length c1) (some (.int .i64 (j : Int))) none none).run Try.prog Y = .ok (.slice As d.length (c1 - j)) Y := fun Y => by
      rw [← hdl, hAs]
      exact run_sl_from A1 (by omega) Y
     have hsl2 : ∀ Y, (Instr.slice 22 (.slice A1 nums.length c1) none (some (.int .i64 (j : Int))) none).run Try.prog Y = .ok (.slice A1 t.length c1) Y := fun Y => by
      rw [htl]
      exact run_sl_to A1 (by omega) Y
     clear hAs hd ht hdl htl hj2
     go_upto_region 4 with fail
     refine wp_region_E (fun w9 => True) [(0, 0), (1, 0), (2, 0), (4, 0), (5, 0), (6, 0), (3, 2), (7, 2), (8, 0)] (by kernel_rfl) (by kernel_rfl) (fun KK hKK => ?_)
     simp only [beside, List.filterMap_cons, List.filterMap_nil, List.getElem?_toArray, List.getElem?_cons_zero, List.getElem?_cons_succ, Option.map_some]
     repeat ((first | (refine wpX_w ?_ (Or.inl ⟨by rfl, fun w9 => ?_⟩) ?_; rotate_left 1; go_simp; with_reducible rfl) | (refine wpX_l ?_ (trivial) (Or.inl ⟨by rfl, fun w9 hw9 => ?_⟩) ?_; rotate_left 1; skip; go_simp; with_reducible rfl) | refine wpX_w undef (Or.inr ⟨by rfl, rfl⟩) ?_ | refine wpX_l undef (trivial) (Or.inr ⟨by rfl, rfl⟩) ?_); go_frame)
     refine wpX_es (fun K9_ hK9_ => ?_)
     refine step_append_src _ rfl _ _ 22 rfl 3 i0 _ 1 8 Try.underlying22 hi0 hz0 hz1 hz2 rfl (by omega) (.slice none 0 0) 0 [] rfl (owns_nilC _ _ _) As d.length (c1 - j) (d.flatMap Int.cells1) rfl (flat_length Int.cells1_length _) ((HSU.out.new_ ((Below.refl _ _).drew)).news Int.cells1_length (by omega)) (one_Int _) (by unfold maxLen; omega) (by omega) ?_
     intro vb w3 hown1 hg1 hnil1 hat1
     rw [Nat.zero_add, List.nil_append] at hown1
     obtain ⟨Ad, cd, rfl, ho3, hA3, hb3⟩ := fresh1_of hown1 hat1 rfl hg1
     have HB3 := Lib.hid (show Below w2.heap.size w2 w3 from ((Below.refl w2.heap.size w2).drew).trans hb3)
     have HO3 := Lib.hid ho3
     have HA3 := Lib.hid (hA3.mono (S' := fun k => w2.heap.size ≤ k) (fun k hk => hk.1))
     clear hown1 hg1 hnil1 hat1 ho3 hA3 hb3
     refine hK9_ _ _ trivial ?_
     clear hK9_ K9_
     refine wpX_es (fun K9_ hK9_ => ?_)
     refine step_append_src _ rfl _ _ 22 rfl 3 i0 _ 1 8 Try.underlying22 hi0 hz0 hz1 hz2 rfl (by omega) (.slice Ad d.length cd) d.length (d.flatMap Int.cells1) rfl HO3.out A1 t.length c1 (t.flatMap Int.cells1) rfl (flat_length Int.cells1_length _) ((HPR.out.new_ HB3.out).news Int.cells1_length (by omega)) (one_Int _) (by unfold maxLen; omega) (by omega) ?_
     intro vb w4 hown1 hg1 hnil1 hat1
     obtain ⟨Am, cm, rfl, ho4, hA4, hb4⟩ := grown_int hown1 hg1 hat1 HA3.out HB3.out.size
     obtain ⟨ms, hms⟩ : ∃ ms, ms = d ++ t := ⟨_, rfl⟩
     rw [← hms] at ho4 ⊢
     have HMS0 := Lib.hid hms
     have HB4 := Lib.hid (show Below w2.heap.size w2 w4 from HB3.out.trans hb4)
     have HO4 := Lib.hid ho4
     have HA4 := Lib.hid hA4
     clear hown1 hg1 hnil1 hat1 ho4 hA4 hb4 HO3 HA3 HB3 hms
     refine hK9_ _ _ trivial ?_
     clear hK9_ K9_
     repeat ((first | (refine wpX_w ?_ (Or.inl ⟨by rfl, fun w9 => ?_⟩) ?_; rotate_left 1; go_simp; with_reducible rfl) | (refine wpX_l ?_ (trivial) (Or.inl ⟨by rfl, fun w9 hw9 => ?_⟩) ?_; rotate_left 1; skip; go_simp; with_reducible rfl) | refine wpX_w undef (Or.inr ⟨by rfl, rfl⟩) ?_ | refine wpX_l undef (trivial) (Or.inr ⟨by rfl, rfl⟩) ?_); go_frame)
     refine wpX_nil ?_
     simp only [OnlyN_normal]
     refine hKK _ _ ?_
     clear hKK KK
     rw [← HMS0.out] at HME
     have hml : ms.length ≤ 20 := by rw [HMS0.out, List.length_append]; omega
     have HBW := Lib.hid (show Below w.heap.size w w4 from HB.out.trans (HB4.out.mono HB.out.size))
     clear hdd hsl1 hsl2 HSU HPR HMS0
     go_wp2_with fail
     go_loopw [11] (fun s wr => ∃ (i : Nat) (cur : List Int), s = .int .i64 i ∧ 2 * i ≤ ms.length ∧ wr.ownsRow 0 3 1 (.slice Am ms.length cm) ms.length (cur.flatMap Int.cells1) ∧ cur.length = ms.length ∧ (∀ x, x ∈ cur ↔ x ∈ nums) ∧ Below w2.heap.size w2 wr) (fun s wr => ms.length - (intOf s).toNat)
     case atStart => exact ⟨0, ms, rfl, by omega, HO4.out, rfl, HME.out, HB4.out⟩
     case round =>
      obtain ⟨i, cur, rfl, hi, ho, hcl, hme, hB⟩ := hrel
      have HO := Lib.hid ho
      have HCL := Lib.hid hcl
      have HMC := Lib.hid hme
      have HBR := Lib.hid hB
      clear ho hcl hme hB
      by_cases hlt : 2 * i + 1 < ms.length
      · obtain ⟨g, rfl⟩ : ∃ g, Am = some ⟨g, 0, none⟩ := by
         rcases ownsRow_form HO.out with ⟨hv, hn, _⟩ | ⟨g, cap, hv, _⟩
         · omega
         · injection hv with hv; exact ⟨g, hv⟩
        obtain ⟨p, hp⟩ : ∃ p : Nat, (p : Int) = (ms.length : Int) - 1 - (i : Int) := ⟨ms.length - 1 - i, by omega⟩
        have HP := Lib.hid hp
        have hip : i < p := by omega
        have hpn : p < ms.length := by omega
        have hil : i < cur.length := by rw [HCL.out]; omega
        have hpl : p < cur.length := by rw [HCL.out]; omega
        obtain ⟨ci, fi⟩ := own_int HO.out hil
        obtain ⟨cp, fp⟩ := own_int HO.out hpl
        have HSW := Lib.hid (fun x => mem_swapL hil hpl x)
        obtain ⟨xa, hxa⟩ : ∃ x, x = cur[i] := ⟨_, rfl⟩
        obtain ⟨xb, hxb⟩ : ∃ x, x = cur[p] := ⟨_, rfl⟩
        rw [← hxa] at ci HSW
        rw [← hxb] at cp HSW
        have hgl := (ownsRow_room HO.out).1.lt
        have hq : decide ((i : Int) < (ms.length : Int) / 2) = true := by simp; omega
        have j1 : (0 : Int) ≤ (i : Int) := by omega
        have j2 : (i : Int) < (ms.length : Int) := by omega
        have j3 : (0 : Int) ≤ (p : Int) := by omega
        have j4 : (p : Int) < (ms.length : Int) := by omega
        have v1 : IntKind.i64.wrap ((ms.length : Int) - 1) = (ms.length : Int) - 1 := IntWalk.i64_in _ (by omega)
        have v2 : IntKind.i64.wrap ((ms.length : Int) - 1 - (i : Int)) = (p : Int) := by rw [← hp]; exact IntWalk.i64_in _ (by omega)
        have n1 : ¬ i = p := by omega
        have n2 : ¬ p = i := by omega
        clear hp hxa hxb hil hpl hlt
        go_upto_region 8 with fail
        refine wp_region_E (fun w9 => Below wr.heap.size wr w9) [(0, 0), (1, 0), (2, 0), (3, 0), (4, 0), (5, 0), (6, 0), (7, 0), (8, 0), (9, 0), (10, 0), (11, 0), (12, 0), (13, 0), (14, 0), (15, 1), (16, 0), (17, 0), (18, 0), (19, 1), (20, 0), (21, 2), (22, 0), (23, 2)] (by kernel_rfl) (by kernel_rfl) (fun KK hKK => ?_)
        simp only [beside, List.filterMap_cons, List.filterMap_nil, List.getElem?_toArray, List.getElem?_cons_zero, List.getElem?_cons_succ, Option.map_some]
        repeat ((first | (refine wpX_w ?_ (Or.inl ⟨by rfl, fun w9 => ?_⟩) ?_; rotate_left 1; go_simp; with_reducible rfl) | (refine wpX_l ?_ (((Below.refl _ _).drew)) (Or.inl ⟨by rfl, fun w9 hw9 => ?_⟩) ?_; rotate_left 1; obtain ⟨hc9, hf9⟩ := bcell hw9; go_simp; with_reducible rfl) | refine wpX_w undef (Or.inr ⟨by rfl, rfl⟩) ?_ | refine wpX_l undef (((Below.refl _ _).drew)) (Or.inr ⟨by rfl, rfl⟩) ?_); go_frame)
        refine wpX_e (by kernel_rfl) (fun K9 hK9 => ?_)
        go_simp
        refine hK9 _ _ ?_
        clear hK9 K9
        repeat ((first | (refine wpX_w ?_ (Or.inl ⟨by rfl, fun w9 => ?_⟩) ?_; rotate_left 1; go_simp; with_reducible rfl) | (refine wpX_l ?_ (((Below.refl _ _).drew)) (Or.inl ⟨by rfl, fun w9 hw9 => ?_⟩) ?_; rotate_left 1; obtain ⟨hc9, hf9⟩ := bcell hw9; go_simp; with_reducible rfl) | refine wpX_w undef (Or.inr ⟨by rfl, rfl⟩) ?_ | refine wpX_l undef (((Below.refl _ _).drew)) (Or.inr ⟨by rfl, rfl⟩) ?_); go_frame)
        refine wpX_e (by kernel_rfl) (fun K9 hK9 => ?_)
        go_simp
        refine hK9 _ _ ?_
        clear hK9 K9
        refine wpX_nil ?_
        simp only [OnlyN_normal]
        refine hKK _ _ ?_
        clear hKK KK
        obtain ⟨WN, hWN⟩ : ∃ WN, WN = ((wr.setCell ⟨g, i, none⟩ (.int .i64 xb)).setCell ⟨g, p, none⟩ (.int .i64 xa)).drew := ⟨_, rfl⟩
        rw [← hWN]
        have HON := Lib.hid (show WN.ownsRow 0 3 1 (.slice (some ⟨g, 0, none⟩) ms.length cm) ms.length ((swapL cur i p xa xb).flatMap Int.cells1) by
         rw [hWN]
         exact ownsRow_new (own_set (own_set HO.out (by rw [HCL.out]; omega) xb) (by rw [List.length_set, HCL.out]; omega) xa) ((Below.refl _ _).drew))
        have HBN := Lib.hid (show Below w2.heap.size w2 WN by
         rw [hWN]
         have := HA4.out _ rfl
         exact Below.drew (Below.sc (p := ⟨g, p, none⟩) (Below.sc (p := ⟨g, i, none⟩) HBR.out _ this) _ this))
        clear hWN ci fi cp fp v1 v2 hgl
        go_wp2_with fail
        go_roundw
        case rel => exact ⟨i + 1, swapL cur i p xa xb, by go_num, by have := HP.out; omega, HON.out, by rw [swapL_len, HCL.out], fun x => by rw [HSW.out, HMC.out], HBN.out⟩
        case measure => simp [intOf] <;> omega
      · have hq : decide ((i : Int) < (ms.length : Int) / 2) = false := by simp; omega
        have HB5 := Lib.hid (HB.out.trans (HBR.out.mono HB.out.size))
        obtain ⟨cs, hcs⟩ : ∃ cs, cs = cur := ⟨_, rfl⟩
        have HOC := Lib.hid (show wr.ownsRow 0 3 1 (.slice Am cs.length cm) cs.length (cs.flatMap Int.cells1) by rw [hcs, HCL.out]; exact HO.out)
        have HSN := Lib.hid (show (.slice Am ms.length cm : Value) = .slice Am cs.length cm by rw [hcs, HCL.out])
        have hcl9 : cs.length ≤ 20 := by rw [hcs, HCL.out]; omega
        have HMS := Lib.hid (show ∀ x, x ∈ cs ↔ x ∈ nums from fun x => by rw [hcs]; exact HMC.out x)
        clear hlt hcs HO4
        go_wp2_with (at_builtin; rw [HSN.out]; refine wpList_append_src wr rfl (.tmp 64) (.tmp 65) 22 rfl 3 i0 _ 1 8 Try.underlying22 hi0 hz0 hz1 hz2 rfl (by omega) (.slice Am cs.length cm) cs.length (cs.flatMap Int.cells1) rfl HOC.out A1 nums.length c1 (nums.flatMap Int.cells1) rfl (flat_length Int.cells1_length _) ((H1.out.new_ HB5.out).news Int.cells1_length (by omega)) (one_Int _) (by unfold maxLen; omega) (by omega) ?_; intro v1 w6 hown1 hg1 hnil1 hat1; obtain ⟨An, cn, rfl, ho6, hA6, hb6⟩ := grown_int hown1 hg1 hat1 HA4.out HBR.out.size; obtain ⟨nm, hnm⟩ : ∃ nm, nm = cs ++ nums := ⟨_, rfl⟩; rw [← hnm] at ho6 ⊢; have HNE := Lib.hid hnm; have HO6 := Lib.hid ho6; have HB6 := Lib.hid (HBR.out.trans hb6); clear hown1 hg1 hnil1 hat1 ho6 hA6 hb6 hnm)
        refine (mkfind_is l A2 c2 _).mono ?_
        rintro e w7 ⟨rfl, hb7, hkb⟩
        have HB := Lib.hid (HB.out.trans ((HB6.out.trans (hb7.mono HB6.out.size)).mono HB.out.size))
        have HNM := Lib.hid (show RowRd w7 1 Int.cells1 An cn nm from ownsRow_rd Int.cells1_length (ownsRow_new HO6.out hb7))
        have hnl : nm.length ≤ 100 := by rw [HNE.out, List.length_append]; omega
        have HKB := Lib.hid hkb
        clear hb7 hkb HO6
        have HW := Lib.hid (lawwalk lv w7 HKB.out (rowlt H2.out HB.out) HSM.out (H1.out.new_ HB.out) (by omega))
        generalize w6.heap.size = kb at HKB HW ⊢
        obtain ⟨T, hT⟩ : ∃ T, T = trailL l lv nums := ⟨_, rfl⟩
        rw [← hT] at HW
        have HT := Lib.hid (show trailL l lv nm = T by
         rw [hT]
         exact (trailL_same l lv (fun x => by rw [HNE.out, List.mem_append, HMS.out]; exact ⟨fun h => .inr h, fun h => h.elim id id⟩)).symm)
        clear hT HKB HNE HMS
        go_wp2_with fail
        with_reducible refine (HW.out).mono ?_
        rintro e w8 ⟨Aa1, aa1, Aa2, aa2, Aa3, aa3, Aa4, aa4, rfl, htr, hb⟩
        have hbs := Below.trans (show Below w7.heap.size w7 _ from (by (repeat (first | exact Below.refl _ _ | refine Below.drew ?_ | refine Below.al ?_ _ | refine Below.sc ?_ _)))) (hb.mono (by simp <;> omega))
        have HNM := Lib.hid (HNM.out.new_ hbs)
        have HB := Lib.hid (HB.out.trans (hbs.mono HB.out.size))
        have hsz8 := hbs.size
        clear  hb hbs
        have HTR := Lib.hid htr
        clear htr HW
        go_wp2_with fail
        with_reducible refine (mkfind_is l A2 c2 _).mono ?_
        rintro e w9 ⟨rfl, hb, hkb⟩
        have hbs := Below.trans (show Below w8.heap.size w8 _ from (by (repeat (first | exact Below.refl _ _ | refine Below.drew ?_ | refine Below.al ?_ _ | refine Below.sc ?_ _)))) (hb.mono (by simp <;> omega))
        have HNM := Lib.hid (HNM.out.new_ hbs)
        have HTR := Lib.hid (HTR.out.new_ hbs)
        have HB := Lib.hid (HB.out.trans (hbs.mono HB.out.size))
        have hsz9 := hbs.size
        clear  hb hbs
        have HW := Lib.hid (lawwalk lv w9 hkb (rowlt H2.out HB.out) HSM.out HNM.out hnl)
        rw [HT.out] at HW
        generalize w8.heap.size = kc at HW hkb ⊢
        clear hkb hnl HNM
        go_wp2_with fail
        with_reducible refine (HW.out).mono ?_
        rintro e w10 ⟨Ab1, ab1, Ab2, ab2, Ab3, ab3, Ab4, ab4, rfl, htr, hb⟩
        have hbs := Below.trans (show Below w9.heap.size w9 _ from (by (repeat (first | exact Below.refl _ _ | refine Below.drew ?_ | refine Below.al ?_ _ | refine Below.sc ?_ _)))) (hb.mono (by simp <;> omega))
        have HTR := Lib.hid (HTR.out.new_ hbs)
        have HB := Lib.hid (HB.out.trans (hbs.mono HB.out.size))
        have hsz10 := hbs.size
        clear  hb hbs
        have HTR2 := Lib.hid htr
        clear htr HW
        obtain ⟨W11, hW11⟩ : ∃ W11, W11 = (w10.alloc (.cells #[.slice Aa1 T.elems.length aa1, .slice Aa2 T.holes.length aa2, .slice Aa3 T.aparts.length aa3, .slice Aa4 T.news.length aa4, .int .i64 (T.visited : Nat), .int .i64 (T.lost : Nat)] 32)).alloc (.cells #[.slice Ab1 T.elems.length ab1, .slice Ab2 T.holes.length ab2, .slice Ab3 T.aparts.length ab3, .slice Ab4 T.news.length ab4, .int .i64 (T.visited : Nat), .int .i64 (T.lost : Nat)] 32) := ⟨_, rfl⟩
        have hb11 : Below w10.heap.size w10 W11 := by rw [hW11]; exact ((Below.refl _ _).alloc (Nat.le_refl _) _).alloc (by simp) _
        have Ka := Lib.hid (show Blk W11 w10.heap.size 32 #[.slice Aa1 T.elems.length aa1, .slice Aa2 T.holes.length aa2, .slice Aa3 T.aparts.length aa3, .slice Aa4 T.news.length aa4, .int .i64 (T.visited : Nat), .int .i64 (T.lost : Nat)] by rw [hW11]; exact (Blk.new _ _ _).alloc _)
        have Kb := Lib.hid (show Blk W11 (w10.heap.size + 1) 32 #[.slice Ab1 T.elems.length ab1, .slice Ab2 T.holes.length ab2, .slice Ab3 T.aparts.length ab3, .slice Ab4 T.news.length ab4, .int .i64 (T.visited : Nat), .int .i64 (T.lost : Nat)] by rw [hW11]; have hh := Blk.new (w10.alloc (.cells #[.slice Aa1 T.elems.length aa1, .slice Aa2 T.holes.length aa2, .slice Aa3 T.aparts.length aa3, .slice Aa4 T.news.length aa4, .int .i64 (T.visited : Nat), .int .i64 (T.lost : Nat)] 32)) 32 #[.slice Ab1 T.elems.length ab1, .slice Ab2 T.holes.length ab2, .slice Ab3 T.aparts.length ab3, .slice Ab4 T.news.length ab4, .int .i64 (T.visited : Nat), .int .i64 (T.lost : Nat)]; simp only [World.size_alloc] at hh; exact hh)
        have HTR := Lib.hid (HTR.out.new_ hb11)
        have HTR2 := Lib.hid (HTR2.out.new_ hb11)
        have HB := Lib.hid (HB.out.trans (hb11.mono HB.out.size))
        clear hb11
        go_upto_region 11 with fail
        rw [← hW11]
        clear hW11
        generalize w10.heap.size = ta at Ka Kb ⊢
        obtain ⟨a0, a1, a2, a3, a4, a5⟩ := Ka.out.c6
        have az := Ka.out.lt
        obtain ⟨b0, b1, b2, b3, b4, b5⟩ := Kb.out.c6
        have bz := Kb.out.lt
        have RA0 := Lib.hid HTR.out.1
        have RB0 := Lib.hid HTR2.out.1
        have RA1 := Lib.hid HTR.out.2.1
        have RB1 := Lib.hid HTR2.out.2.1
        have RA2 := Lib.hid HTR.out.2.2.1
        have RB2 := Lib.hid HTR2.out.2.2.1
        have RA3 := Lib.hid HTR.out.2.2.2
        have RB3 := Lib.hid HTR2.out.2.2.2
        clear HTR HTR2
        go_wp2_with fail
        with_reducible refine (traces_same T.elems _ RA0.out RB0.out).mono ?_
        rintro e w12 ⟨rfl, hb⟩
        have hbs := Below.trans (show Below W11.heap.size W11 _ from (by (repeat (first | exact Below.refl _ _ | refine Below.drew ?_ | refine Below.al ?_ _ | refine Below.sc ?_ _)))) (hb.mono (by simp <;> omega))
        have Ka := Lib.hid (Ka.out.new_ hbs)
        have Kb := Lib.hid (Kb.out.new_ hbs)
        have RA0 := Lib.hid (RA0.out.new_ hbs)
        have RB0 := Lib.hid (RB0.out.new_ hbs)
        have RA1 := Lib.hid (RA1.out.new_ hbs)
        have RB1 := Lib.hid (RB1.out.new_ hbs)
        have RA2 := Lib.hid (RA2.out.new_ hbs)
        have RB2 := Lib.hid (RB2.out.new_ hbs)
        have RA3 := Lib.hid (RA3.out.new_ hbs)
        have RB3 := Lib.hid (RB3.out.new_ hbs)
        have HB := Lib.hid (HB.out.trans (hbs.mono HB.out.size))
        have hsz12 := hbs.size
        clear a0 a1 a2 a3 a4 a5 az b0 b1 b2 b3 b4 b5 bz hb hbs
        obtain ⟨a0, a1, a2, a3, a4, a5⟩ := Ka.out.c6
        have az := Ka.out.lt
        obtain ⟨b0, b1, b2, b3, b4, b5⟩ := Kb.out.c6
        have bz := Kb.out.lt
        go_wp2_with fail
        with_reducible refine (holes_same n T.holes _ RA1.out RB1.out).mono ?_
        rintro e w13 ⟨rfl, hb⟩
        have hbs := Below.trans (show Below w12.heap.size w12 _ from (by (repeat (first | exact Below.refl _ _ | refine Below.drew ?_ | refine Below.al ?_ _ | refine Below.sc ?_ _)))) (hb.mono (by simp <;> omega))
        have Ka := Lib.hid (Ka.out.new_ hbs)
        have Kb := Lib.hid (Kb.out.new_ hbs)
        have RA0 := Lib.hid (RA0.out.new_ hbs)
        have RB0 := Lib.hid (RB0.out.new_ hbs)
        have RA1 := Lib.hid (RA1.out.new_ hbs)
        have RB1 := Lib.hid (RB1.out.new_ hbs)
        have RA2 := Lib.hid (RA2.out.new_ hbs)
        have RB2 := Lib.hid (RB2.out.new_ hbs)
        have RA3 := Lib.hid (RA3.out.new_ hbs)
        have RB3 := Lib.hid (RB3.out.new_ hbs)
        have HB := Lib.hid (HB.out.trans (hbs.mono HB.out.size))
        have hsz13 := hbs.size
        clear a0 a1 a2 a3 a4 a5 az b0 b1 b2 b3 b4 b5 bz hb hbs
        obtain ⟨a0, a1, a2, a3, a4, a5⟩ := Ka.out.c6
        have az := Ka.out.lt
        obtain ⟨b0, b1, b2, b3, b4, b5⟩ := Kb.out.c6
        have bz := Kb.out.lt
        go_wp2_with fail
        with_reducible refine (aparts_same T.aparts _ RA2.out RB2.out).mono ?_
        rintro e w14 ⟨rfl, hb⟩
        have hbs := Below.trans (show Below w13.heap.size w13 _ from (by (repeat (first | exact Below.refl _ _ | refine Below.drew ?_ | refine Below.al ?_ _ | refine Below.sc ?_ _)))) (hb.mono (by simp <;> omega))
        have Ka := Lib.hid (Ka.out.new_ hbs)
        have Kb := Lib.hid (Kb.out.new_ hbs)
        have RA0 := Lib.hid (RA0.out.new_ hbs)
        have RB0 := Lib.hid (RB0.out.new_ hbs)
        have RA1 := Lib.hid (RA1.out.new_ hbs)
        have RB1 := Lib.hid (RB1.out.new_ hbs)
        have RA2 := Lib.hid (RA2.out.new_ hbs)
        have RB2 := Lib.hid (RB2.out.new_ hbs)
        have RA3 := Lib.hid (RA3.out.new_ hbs)
        have RB3 := Lib.hid (RB3.out.new_ hbs)
        have HB := Lib.hid (HB.out.trans (hbs.mono HB.out.size))
        have hsz14 := hbs.size
        clear a0 a1 a2 a3 a4 a5 az b0 b1 b2 b3 b4 b5 bz hb hbs
        obtain ⟨a0, a1, a2, a3, a4, a5⟩ := Ka.out.c6
        have az := Ka.out.lt
        obtain ⟨b0, b1, b2, b3, b4, b5⟩ := Kb.out.c6
        have bz := Kb.out.lt
        go_wp2_with fail
        with_reducible refine (syms_same T.news _ RA3.out RB3.out).mono ?_
        rintro e w15 ⟨rfl, hb⟩
        have hbs := Below.trans (show Below w14.heap.size w14 _ from (by (repeat (first | exact Below.refl _ _ | refine Below.drew ?_ | refine Below.al ?_ _ | refine Below.sc ?_ _)))) (hb.mono (by simp <;> omega))
        have Ka := Lib.hid (Ka.out.new_ hbs)
        have Kb := Lib.hid (Kb.out.new_ hbs)
        have RA0 := Lib.hid (RA0.out.new_ hbs)
        have RB0 := Lib.hid (RB0.out.new_ hbs)
        have RA1 := Lib.hid (RA1.out.new_ hbs)
        have RB1 := Lib.hid (RB1.out.new_ hbs)
        have RA2 := Lib.hid (RA2.out.new_ hbs)
        have RB2 := Lib.hid (RB2.out.new_ hbs)
        have RA3 := Lib.hid (RA3.out.new_ hbs)
        have RB3 := Lib.hid (RB3.out.new_ hbs)
        have HB := Lib.hid (HB.out.trans (hbs.mono HB.out.size))
        have hsz15 := hbs.size
        clear a0 a1 a2 a3 a4 a5 az b0 b1 b2 b3 b4 b5 bz hb hbs
        obtain ⟨a0, a1, a2, a3, a4, a5⟩ := Ka.out.c6
        have az := Ka.out.lt
        obtain ⟨b0, b1, b2, b3, b4, b5⟩ := Kb.out.c6
        have bz := Kb.out.lt
        go_wp2_with fail
        with_reducible refine (wakes21_is _).mono ?_
        rintro e w16 ⟨rfl, hb⟩
        have hbs := Below.trans (show Below w15.heap.size w15 _ from (by (repeat (first | exact Below.refl _ _ | refine Below.drew ?_ | refine Below.al ?_ _ | refine Below.sc ?_ _)))) (hb.mono (by simp <;> omega))
        have Ka := Lib.hid (Ka.out.new_ hbs)
        have Kb := Lib.hid (Kb.out.new_ hbs)
        have RA0 := Lib.hid (RA0.out.new_ hbs)
        have RB0 := Lib.hid (RB0.out.new_ hbs)
        have RA1 := Lib.hid (RA1.out.new_ hbs)
        have RB1 := Lib.hid (RB1.out.new_ hbs)
        have RA2 := Lib.hid (RA2.out.new_ hbs)
        have RB2 := Lib.hid (RB2.out.new_ hbs)
        have RA3 := Lib.hid (RA3.out.new_ hbs)
        have RB3 := Lib.hid (RB3.out.new_ hbs)
        have HB := Lib.hid (HB.out.trans (hbs.mono HB.out.size))
        have hsz16 := hbs.size
        clear a0 a1 a2 a3 a4 a5 az b0 b1 b2 b3 b4 b5 bz hb hbs
        obtain ⟨a0, a1, a2, a3, a4, a5⟩ := Ka.out.c6
        have az := Ka.out.lt
        obtain ⟨b0, b1, b2, b3, b4, b5⟩ := Kb.out.c6
        have bz := Kb.out.lt
        go_wp2_with fail
        go_ret
        exact ⟨rfl, HB.out⟩
   · skip
     go_wp2_with fail
     with_reducible refine (wakes21_is _).mono ?_
     rintro e w3 ⟨rfl, hb⟩
     have hbs := Below.trans (show Below w2.heap.size w2 _ from (by (repeat (first | exact Below.refl _ _ | refine Below.drew ?_ | refine Below.al ?_ _ | refine Below.sc ?_ _)))) (hb.mono (by simp <;> omega))
     have HB := Lib.hid (HB.out.trans (hbs.mono HB.out.size))
     have hsz3 := hbs.size
     clear  hb hbs
     go_wp2_with fail
     go_ret
     exact ⟨rfl, by (repeat (first | exact Below.refl _ _ | exact HB.out | refine Below.drew ?_ | refine Below.al ?_ _ | refine Below.sc ?_ _))⟩
end Go.Proofs.Ytnfgilbaglfkeaa
namespace Go.Proofs.Ytnfgilbaglfkeaa
open Go.ChangeShapes Go.WideShapes Go.ChangeAt Go.RowKit Go.Deep
theorem own_orders : ownKnob Try.prog.godebug = none := by kernel_rfl
theorem laid_orders : laidOutB Try.prog = true := by kernel_rfl
set_option maxRecDepth 100000 in
theorem orders_lifted (os : Os) (started : os.Started) (H : Type) (enc : TypeId × Value → H) :
 ReturnsInHanded {} Try.checked os 4 .any (Rows.backOrdersSpec.pre6 enc Try.prog Try.f4 Rows.backOrdersRow.domain false) (Rows.backOrdersSpec.post enc Try.prog Try.f4 false true false false) := by
 refine returnsInHanded_of_change (C := Try.checked) own_orders started (by kernel_rfl) Try.func4
  (ChangeSpec.witness6 (enc := enc) (C := Try.checked) false ⟨#[], #[.int .i64 0, .slice none 0 0, .slice none 0 0, .int .i64 0], []⟩ 8 (by kernel_rfl) (by kernel_rfl) (by kernel_rfl) (by kernel_rfl)) ?_
 intro W base args ds gs before hval0 hW hcnd _
 have hval : ∀ (j : Nat) t v, Try.f4.params[j]? = some t → args[j]? = some v → Value.okWide Try.prog W .any base t v := hval0
 have hW' := hW
 obtain ⟨p, q, hA0, hV, rfl, hfz, hnd⟩ := hW
 have hA : DataW.TrodAll enc Try.prog W 0 (fun _ => true) true Try.f4.params.toList args.toList ds p := hA0
 rw [Try.params4] at hA hval
 obtain ⟨v0, v1, v2, v3, d0, d1, d2, d3, p0, p1, p2, p3, rfl, rfl, rfl, h0, h1, h2, h3⟩ := trodAll_four hA
 obtain ⟨rfl, rfl⟩ := trodVars_none hV
 obtain ⟨n0, rfl, _, _, _⟩ := open_int Try.underlying3 (hval 0 3 v0 rfl rfl) h0
 obtain ⟨A1, c1, l1, rfl, r1⟩ := open_row Try.underlying22 (by omega) (reads_int Try.underlying3 (by kernel_rfl)) (hval 1 22 v1 rfl rfl) h1
 obtain ⟨m2, A2, c2, l2, rfl, r2⟩ := open_Recs (hval 2 23 v2 rfl rfl) h2
 obtain ⟨n3, rfl, _, _, _⟩ := open_int Try.underlying3 (hval 3 3 v3 rfl rfl) h3
 clear hA0 hval0
 refine (orders_walk m2 n0 n3 l1 l2 A1 A2 c1 c2 W r1 r2).mono fun e W' ⟨he, hb⟩ => ?_
 subst he
 exact ⟨_, rfl, post_true (tb := 4) laid_orders rfl hW' (by kernel_rfl) Try.underlying4 (fun t ht => by
  have ht' : t ∈ [3, 22, 23, 3] := by
   have e : Try.f4.params.toList = [3, 22, 23, 3] := by rw [Try.params4]
   rwa [e] at ht
  simp only [List.mem_cons, List.not_mem_nil, or_false] at ht'
  rcases ht' with rfl | rfl | rfl | rfl <;> exact ⟨by kernel_rfl, of_decide_eq_true (by kernel_rfl)⟩) rfl rfl rfl hb⟩
theorem orders_holds : Rows.BackOrdersSaid :=
 OpenClaim.holds_of_wide 4 Try.f4 rfl rfl rfl rfl rfl rfl rfl ⟨rfl, rfl, rfl, rfl, rfl⟩ rfl rfl rfl rfl rfl (by kernel_rfl) Try.func4 (by kernel_rfl)
  (of_decide_eq_true (by kernel_rfl)) (by unfold Func.isWrapper; first | (rw [if_pos (by decide +kernel)]; kernel_rfl) | (rw [if_neg (by decide +kernel)]; exact ⟨rfl, rfl⟩))
  (fun os started H enc _ => orders_lifted os started H enc)
end Go.Proofs.Ytnfgilbaglfkeaa
