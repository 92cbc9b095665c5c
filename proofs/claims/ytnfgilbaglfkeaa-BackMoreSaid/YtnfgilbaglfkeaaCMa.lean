/-
  For every input BackMore answers true, and leaves its arguments and all that was there as they were. No conditions.
-/
import Derived.Test.YtnfgilbaglfkeaaBa
import Derived.Test.YtnfgilbaglfkeaaBb
import Derived.Test.YtnfgilbaglfkeaaBc
import Derived.Test.YtnfgilbaglfkeaaBd
import Derived.Test.YtnfgilbaglfkeaaBe
import Derived.Test.YtnfgilbaglfkeaaBf
import Derived.Test.YtnfgilbaglfkeaaBg
import Derived.Test.YtnfgilbaglfkeaaBh
import Derived.Test.YtnfgilbaglfkeaaBi
import Derived.Test.YtnfgilbaglfkeaaBj
import Derived.Test.YtnfgilbaglfkeaaBk
import Derived.WalkKit
import Derived.WalkSpells
import Derived.WalkLawsBesides
import Derived.Lib.Hide
import Derived.Deep.QuietTactic
import Derived.BigQuiet
import Derived.Deep.RegionHeld3
import Derived.Deep.AppendLies
import Derived.Maps.AppendAt
import Derived.StillTailTactics
import Derived.Maps.RangeWalk
import Derived.ProofKit
import Derived.Carry
import Derived.ChangeSame
import Derived.Deep.Slices
import Derived.Deep.Strs
import Derived.OrdersHeld
import Derived.StillTail
import Derived.RangeFuncNested
import Derived.RangeFuncBound
import Derived.RangeFuncCalls
import Derived.RangeFuncLeaves
import Derived.OrdersIn
import Derived.OwnWalkIn
import Derived.TacticsInMore
import Derived.LoopNIn
import Derived.LoopIn
import Derived.Shelf.Abstract
import Derived.Test.YtnfgilbaglfkeaaRows
import Derived.Lib.Strings
import Derived.Deep.MidRow
import Derived.Deep.Cut
import Derived.ArgAppend
import Derived.Deep.LoopGhost
import Derived.Lib.MinMax
namespace Go.Proofs.Ytnfgilbaglfkeaa
open Go.RowKit Go.Shelf
structure MoreT (a b : TrailV) : Prop where
 tags : ∀ e ∈ a.elems, ∃ e' ∈ b.elems, e.elem.tag = e'.elem.tag
 visited : a.visited ≤ b.visited
 lost : a.lost ≤ b.lost
 holes : a.holes.length ≤ b.holes.length
 aparts : a.aparts.length ≤ b.aparts.length
 news : a.news.length ≤ b.news.length
theorem more_more (l : List RecordT) (lv : Int) {nums nums' : List Int} (h : ∀ k ∈ nums, k ∈ nums') : MoreT (trailL l lv nums) (trailL l lv nums') := by
 have hk := lookR_keys l
 have h1 := reach_sub (look := lookR l) (lv := lv) (keys := l.map RecordT.num) hk h
 have h2 := recs_sub (look := lookR l) h1
 have h3 : ∀ p ∈ recsOf (lookR l) (reach (lookR l) lv (l.map RecordT.num) nums []), p ∈ recsOf (lookR l) (reach (lookR l) lv (l.map RecordT.num) nums' []) := fun p hp => h2.subset hp
 exact ⟨fun e he => grounds_more h3 he, h2.length_le, lost_sub (reach_nodup hk nums List.nodup_nil) h1, flatlen_le h2 _, flatlen_le h2 _, news_le h3⟩
def tagIn (t : Int) (l : List TraceT) (k : Nat) : Bool := (l.take k).any fun e => t == e.elem.tag
theorem tagIn_zero (t : Int) (l : List TraceT) : tagIn t l 0 = false := by simp [tagIn]
theorem tagIn_succ {t : Int} {l : List TraceT} {k : Nat} (hk : k < l.length) : tagIn t l (k + 1) = (tagIn t l k || (t == l[k].elem.tag)) := by
 unfold tagIn
 rw [← take_snoc hk, List.any_append]
 simp
theorem tagIn_all {t : Int} {l : List TraceT} (h : ∃ e' ∈ l, t = e'.elem.tag) : tagIn t l l.length = true := by
 unfold tagIn
 rw [List.take_length, List.any_eq_true]
 obtain ⟨e', h1, h2⟩ := h
 exact ⟨e', h1, by simpa using h2⟩
set_option maxRecDepth 100000 in
set_option maxHeartbeats 16000000 in
theorem more_walk (n : Nat) (lv : Int) (nums more : List Int) (l : List RecordT) (A1 A2 A3 : Option Addr) (c1 c2 c3 : Nat) (w : World) (h1 : RowRd w 1 Int.cells1 A1 c1 nums) (h2 : RowRd w 1 Int.cells1 A2 c2 more) (h3 : RowR (repRecordT n) (· < w.heap.size) w A3 c3 l) :
 Calls Try.prog 6 #[.int .i64 lv, .slice A1 nums.length c1, .slice A2 more.length c2, .slice A3 l.length c3] w fun e w' => e = .returned (.bool true) ∧ Below w.heap.size w w' := by
 obtain ⟨i0, hi0, hz0, hz1, hz2⟩ := infp inf_Int
 have H1 := Lib.hid h1
 have H2 := Lib.hid h2
 have H3 := Lib.hid h3
 have hc1 := h1.cap
 have hc2 := h2.cap
 have hc3 := h3.cap
 clear h1 h2 h3
 have HB := Lib.hid (Below.refl w.heap.size w)
 go_enter Try.func6, Try.ntmps6
 by_cases hd0 : (20 : Int) < (nums.length : Int)
 · skip
   have d0 : decide ((20 : Int) < (nums.length : Int)) = true := by simpa using hd0
   clear hd0
   go_wp2_with fail
   with_reducible refine (wakes21_is _).mono ?_
   rintro e w2 ⟨rfl, hb⟩
   have hbs := Below.trans (show Below w.heap.size w _ from (by (repeat (first | exact Below.refl _ _ | refine Below.drew ?_ | refine Below.al ?_ _ | refine Below.sc ?_ _)))) (hb.mono (by simp <;> omega))
   have HB := Lib.hid (HB.out.trans (hbs.mono HB.out.size))
   have hsz2 := hbs.size
   clear  hb hbs
   go_wp2_with fail
   go_ret
   exact ⟨rfl, by (repeat (first | exact Below.refl _ _ | exact HB.out | refine Below.drew ?_ | refine Below.al ?_ _ | refine Below.sc ?_ _))⟩
 · skip
   have d0 : decide ((20 : Int) < (nums.length : Int)) = false := by simpa using hd0
   have HL0 := Lib.hid (show nums.length ≤ 20 by omega)
   clear hd0
   by_cases hd1 : (20 : Int) < (more.length : Int)
   · skip
     have d1 : decide ((20 : Int) < (more.length : Int)) = true := by simpa using hd1
     clear hd1
     go_wp2_with fail
     with_reducible refine (wakes21_is _).mono ?_
     rintro e w2 ⟨rfl, hb⟩
     have hbs := Below.trans (show Below w.heap.size w _ from (by (repeat (first | exact Below.refl _ _ | refine Below.drew ?_ | refine Below.al ?_ _ | refine Below.sc ?_ _)))) (hb.mono (by simp <;> omega))
     have HB := Lib.hid (HB.out.trans (hbs.mono HB.out.size))
     have hsz2 := hbs.size
     clear  hb hbs
     go_wp2_with fail
     go_ret
     exact ⟨rfl, by (repeat (first | exact Below.refl _ _ | exact HB.out | refine Below.drew ?_ | refine Below.al ?_ _ | refine Below.sc ?_ _))⟩
   · skip
     have d1 : decide ((20 : Int) < (more.length : Int)) = false := by simpa using hd1
     have HL1 := Lib.hid (show more.length ≤ 20 by omega)
     clear hd1
     go_wp2_with fail
     with_reducible refine (heavy21_is n A3 c3 l _ (H3.out.new_ HB.out)).mono ?_
     rintro e w2 ⟨bh, rfl, hb, hnh⟩
     have hbs := Below.trans (show Below w.heap.size w _ from (by (repeat (first | exact Below.refl _ _ | refine Below.drew ?_ | refine Below.al ?_ _ | refine Below.sc ?_ _)))) (hb.mono (by simp <;> omega))
     have HB := Lib.hid (HB.out.trans (hbs.mono HB.out.size))
     have hsz2 := hbs.size
     clear  hb hbs
     have HNH := Lib.hid hnh
     clear hnh
     cases bh
     · skip
       have HSM := Lib.hid (HNH.out rfl)
       clear HNH
       go_wp2_with fail
       with_reducible refine ((show ∀ A Y, Calls Try.prog 13 #[.slice A l.length c3] Y _ from fun A Y => mkfind_is l A c3 Y) _ _).mono ?_
       rintro e w3 ⟨rfl, hb, hkb⟩
       have hbs := Below.trans (show Below w2.heap.size w2 _ from (by (repeat (first | exact Below.refl _ _ | refine Below.drew ?_ | refine Below.al ?_ _ | refine Below.sc ?_ _)))) (hb.mono (by simp <;> omega))
       have HB := Lib.hid (HB.out.trans (hbs.mono HB.out.size))
       have hsz3 := hbs.size
       clear  hb hbs
       have hkl := hkb.lt
       have HKB := Lib.hid hkb
       clear hkb
       have HW := Lib.hid (lawwalk lv w3 HKB.out (rowlt H3.out HB.out) HSM.out (H1.out.new_ HB.out) (by have := HL0.out; omega))
       generalize w2.heap.size = kb at HKB hkl HW ⊢
       obtain ⟨T, hT⟩ : ∃ T, T = trailL l lv nums := ⟨_, rfl⟩
       rw [← hT] at HW
       have HT := Lib.hid hT
       clear hT hkl
       go_wp2_with fail
       with_reducible refine (HW.out).mono ?_
       rintro e w4 ⟨Aa1, aa1, Aa2, aa2, Aa3, aa3, Aa4, aa4, rfl, htr, hb⟩
       have hbs := Below.trans (show Below w3.heap.size w3 _ from (by (repeat (first | exact Below.refl _ _ | refine Below.drew ?_ | refine Below.al ?_ _ | refine Below.sc ?_ _)))) (hb.mono (by simp <;> omega))
       have HB := Lib.hid (HB.out.trans (hbs.mono HB.out.size))
       have hsz4 := hbs.size
       clear  hb hbs
       have HTR := Lib.hid htr
       clear htr HKB HW
       go_wp2_with fail
       with_reducible refine (cp_Int A1 c1 nums _ (H1.out.new_ (by (repeat (first | exact Below.refl _ _ | exact HB.out | refine Below.drew ?_ | refine Below.al ?_ _ | refine Below.sc ?_ _)))) (by have := HL0.out; omega)).mono ?_
       rintro e w5 ⟨Ac, cc, rfl, ho, hAc, hb⟩
       have hbs := Below.trans (show Below w4.heap.size w4 _ from (by (repeat (first | exact Below.refl _ _ | refine Below.drew ?_ | refine Below.al ?_ _ | refine Below.sc ?_ _)))) (hb.mono (by simp <;> omega))
       have HTR := Lib.hid (HTR.out.new_ hbs)
       have Ka := Lib.hid (show Blk w5 (w4.heap.size) 32 #[.slice Aa1 T.elems.length aa1, .slice Aa2 T.holes.length aa2, .slice Aa3 T.aparts.length aa3, .slice Aa4 T.news.length aa4, .int .i64 (T.visited : Nat), .int .i64 (T.lost : Nat)] from (Blk.new _ _ _).new_ hb)
       have HB := Lib.hid (HB.out.trans (hbs.mono HB.out.size))
       have hsz5 := hbs.size
       clear  hb hbs
       have az := Ka.out.lt
       have HO := Lib.hid ho
       have HAC := Lib.hid (hAc.mono (S' := fun k => w4.heap.size + 1 ≤ k) (fun k hk => by have := hk.1; simpa using this))
       clear ho hAc
       clear az 
       have hsz45 := Ka.out.lt
       go_wp2_with (at_builtin; refine wpList_append_src w5 rfl (.tmp 34) (.tmp 35) 22 rfl 3 i0 _ 1 8 Try.underlying22 hi0 hz0 hz1 hz2 rfl (by omega) (.slice Ac nums.length cc) nums.length (nums.flatMap Int.cells1) rfl HO.out A2 more.length c2 (more.flatMap Int.cells1) rfl (flat_length Int.cells1_length _) ((H2.out.new_ HB.out).news Int.cells1_length (by omega)) (one_Int _) (by have := HL0.out; have := HL1.out; unfold maxLen; omega) (by have := HL0.out; have := HL1.out; omega) ?_; intro v1 w6 hown1 hg1 hnil1 hat1; obtain ⟨Am, cm, rfl, ho6, hA6, hb6⟩ := grown_int hown1 hg1 hat1 HAC.out (by omega); obtain ⟨nm, hnm⟩ : ∃ nm, nm = nums ++ more := ⟨_, rfl⟩; rw [← hnm] at ho6 ⊢; have HNE := Lib.hid hnm; have HO6 := Lib.hid ho6; have HB6 := Lib.hid hb6; clear hown1 hg1 hnil1 hat1 ho6 hA6 hb6 hnm)
       refine (mkfind_is l A3 c3 _).mono ?_
       rintro e w7 ⟨rfl, hb7, hkb⟩
       have hb67 := HB6.out.trans (hb7.mono (by have := HB6.out.size; omega))
       have HTR := Lib.hid (HTR.out.below hb67 (fun k hk => Nat.lt_succ_of_lt hk))
       have Ka := Lib.hid (Ka.out.below hb67 (Nat.lt_succ_self _))
       have HB := Lib.hid (HB.out.trans (hb67.mono (by have := HB.out.size; omega)))
       have hkl := hkb.lt
       have HKB := Lib.hid hkb
       have HNM := Lib.hid (show RowRd w7 1 Int.cells1 Am cm nm from ownsRow_rd Int.cells1_length (ownsRow_new HO6.out hb7))
       clear hb7 hkb hb67 HO HAC
       have hl2 : nm.length ≤ 100 := by rw [HNE.out, List.length_append]; have := HL0.out; have := HL1.out; omega
       clear HO6
       have HW := Lib.hid (lawwalk lv w7 HKB.out (rowlt H3.out HB.out) HSM.out HNM.out hl2)
       generalize w6.heap.size = kc at HKB hkl HW ⊢
       obtain ⟨T2, hT2⟩ : ∃ T2, T2 = trailL l lv nm := ⟨_, rfl⟩
       rw [← hT2] at HW
       have HT2 := Lib.hid hT2
       clear hT2 hkl hl2
       have az := Ka.out.lt
       go_wp2_with fail
       with_reducible refine (HW.out).mono ?_
       rintro e w8 ⟨Ab1, ab1, Ab2, ab2, Ab3, ab3, Ab4, ab4, rfl, htr2, hb⟩
       have hbs := Below.trans (show Below w7.heap.size w7 _ from (by (repeat (first | exact Below.refl _ _ | refine Below.drew ?_ | refine Below.al ?_ _ | refine Below.sc ?_ _)))) (hb.mono (by simp <;> omega))
       have Ka := Lib.hid (Ka.out.new_ hbs)
       have HTR := Lib.hid (HTR.out.new_ hbs)
       have HB := Lib.hid (HB.out.trans (hbs.mono HB.out.size))
       have hsz8 := hbs.size
       clear az hb hbs
       have az := Ka.out.lt
       have HTR2 := Lib.hid htr2
       clear htr2 HKB HW HNM
       have HMT := Lib.hid (show MoreT T T2 by rw [HT.out, HT2.out]; exact more_more l lv (fun k hk => by rw [HNE.out]; exact List.mem_append_left _ hk))
       clear HT HT2 HNE
       obtain ⟨W9, hW9⟩ : ∃ W9, W9 = w8.alloc (.cells #[.slice Ab1 T2.elems.length ab1, .slice Ab2 T2.holes.length ab2, .slice Ab3 T2.aparts.length ab3, .slice Ab4 T2.news.length ab4, .int .i64 (T2.visited : Nat), .int .i64 (T2.lost : Nat)] 32) := ⟨_, rfl⟩
       have hb9 : Below w8.heap.size w8 W9 := by rw [hW9]; exact (Below.refl _ _).alloc (Nat.le_refl _) _
       have Kb := Lib.hid (show Blk W9 w8.heap.size 32 #[.slice Ab1 T2.elems.length ab1, .slice Ab2 T2.holes.length ab2, .slice Ab3 T2.aparts.length ab3, .slice Ab4 T2.news.length ab4, .int .i64 (T2.visited : Nat), .int .i64 (T2.lost : Nat)] by rw [hW9]; exact Blk.new _ _ _)
       have Ka := Lib.hid (Ka.out.new_ hb9)
       have HTR := Lib.hid (HTR.out.new_ hb9)
       have HTR2 := Lib.hid (HTR2.out.new_ hb9)
       have HB := Lib.hid (HB.out.trans (hb9.mono HB.out.size))
       clear hb9
       go_upto_region 5 with fail
       rw [← hW9]
       clear hW9
       clear az 
       generalize w4.heap.size = ta at Ka ⊢
       generalize w8.heap.size = tb at Kb ⊢
       obtain ⟨a0, a1, a2, a3, a4, a5⟩ := Ka.out.c6
       obtain ⟨b0, b1, b2, b3, b4, b5⟩ := Kb.out.c6
       have hta := Ka.out.lt
       have htb := Kb.out.lt
       have RT := Lib.hid HTR.out.1
       have RT2 := Lib.hid HTR2.out.1
       have kT := RT.out.cap
       have kT2 := RT2.out.cap
       have kh1 := HTR.out.2.1.cap
       have kh2 := HTR2.out.2.1.cap
       have ka1 := HTR.out.2.2.1.cap
       have ka2 := HTR2.out.2.2.1.cap
       have kn1 := HTR.out.2.2.2.cap
       have kn2 := HTR2.out.2.2.2.cap
       clear a0 a1 a2 a3 a4 a5 b0 b1 b2 b3 b4 b5 hta htb HTR HTR2
       go_wp2_with fail
       go_loopw [11] (fun s wr => ∃ i : Nat, s = .int .i64 i ∧ i ≤ T.elems.length ∧ Below W9.heap.size W9 wr) (fun s wr => T.elems.length - (intOf s).toNat)
       case atStart => exact ⟨0, rfl, Nat.zero_le _, Below.refl _ _⟩
       case round =>
        obtain ⟨i, rfl, hi, hB⟩ := hrel
        have a0 := ((Ka.out.new_ hB).cell 0).trans rfl
        have hta := (Ka.out.new_ hB).lt
        have HBi := Lib.hid hB
        clear hB
        by_cases hlt : i < T.elems.length
        · obtain ⟨t, ht⟩ : ∃ t, t = T.elems[i].elem.tag := ⟨_, rfl⟩
          have HEX := Lib.hid (show tagIn t T2.elems T2.elems.length = true by rw [ht]; exact tagIn_all (HMT.out.tags _ (List.getElem_mem hlt)))
          obtain ⟨g, off, hA, hg, hq⟩ := tag_at (RT.out.new_ HBi.out) hlt
          rw [← ht] at hq
          subst hA
          have HRI := Lib.hid (RT.out.new_ HBi.out)
          have j1 : (0 : Int) ≤ (i : Int) := by omega
          have j2 : (i : Int) < (T.elems.length : Int) := by omega
          obtain ⟨WI, hWI⟩ : ∃ WI, WI = wr := ⟨_, rfl⟩
          rw [← hWI] at HBi a0 hta hg hq HRI ⊢
          clear hWI ht
          have HA0 := Lib.hid a0
          have HQ := Lib.hid hq
          go_wp2_with fail
          clear a0 hq
          go_loopw [12, 13] (fun s s' wq => ∃ k : Nat, s' = .int .i64 k ∧ s = .bool (tagIn t T2.elems k) ∧ k ≤ T2.elems.length ∧ Below WI.heap.size WI wq) (fun _ s' wq => T2.elems.length - (intOf s').toNat)
          case atStart => exact ⟨0, rfl, by rw [tagIn_zero], Nat.zero_le _, Below.refl _ _⟩
          case round =>
           obtain ⟨k, rfl, rfl, hk, hB2⟩ := hrel
           have HBk := Lib.hid (HBi.out.trans (hB2.mono HBi.out.size))
           have b0 := ((Kb.out.new_ HBk.out).cell 0).trans rfl
           have htb := (Kb.out.new_ HBk.out).lt
           have a0 := (hB2.cell (p := ⟨ta, 0, none⟩) hta).trans HA0.out
           have hq := (hB2.cell (p := ⟨g, off + i * 14 + 11, none⟩) hg).trans HQ.out
           have HB2 := Lib.hid hB2
           obtain ⟨bb, hbb⟩ : ∃ bb, bb = tagIn t T2.elems k := ⟨_, rfl⟩
           rw [← hbb]
           have HBB := Lib.hid hbb
           clear hB2 hbb
           by_cases hlt2 : k < T2.elems.length
           · obtain ⟨t2, ht2⟩ : ∃ t2, t2 = T2.elems[k].elem.tag := ⟨_, rfl⟩
             obtain ⟨g2, off2, hA, hg2, hq2⟩ := tag_at (RT2.out.new_ HBk.out) hlt2
             rw [← ht2] at hq2
             subst hA
             have HSU := Lib.hid (show tagIn t T2.elems (k + 1) = (bb || (t == t2)) by rw [tagIn_succ hlt2, ← HBB.out, ht2])
             have j3 : (0 : Int) ≤ (k : Int) := by omega
             have j4 : (k : Int) < (T2.elems.length : Int) := by omega
             clear ht2
             cases bb
             · go_wp2_with fail
               go_quiet (fail)
               have HB3 := Lib.hid (Below.drewN' HB2.out nq)
               clear a0 hq b0 hq2
               go_wp2_with fail
               go_roundw
               case rel => exact ⟨k + 1, by go_num, by rw [HSU.out]; rfl, by omega, HB3.out⟩
               case measure => simp [intOf] <;> omega
             · go_wp2_with fail
               go_quiet (fail)
               have HB3 := Lib.hid (Below.drewN' HB2.out nq)
               clear a0 hq b0 hq2
               go_wp2_with fail
               go_roundw
               case rel => exact ⟨k + 1, by go_num, by rw [HSU.out]; rfl, by omega, HB3.out⟩
               case measure => simp [intOf] <;> omega
           · obtain rfl : k = T2.elems.length := by omega
             obtain rfl : bb = true := by rw [HBB.out]; exact HEX.out
             go_wp2_with fail
             go_roundw
             case rel => exact ⟨i + 1, by go_num, by omega, HBk.out⟩
             case measure => simp [intOf] <;> omega
        · obtain rfl : i = T.elems.length := by omega
          have HBE := Lib.hid (HB.out.trans (HBi.out.mono HB.out.size))
          obtain ⟨-, a1, a2, a3, a4, a5⟩ := (Ka.out.new_ HBi.out).c6
          obtain ⟨b0, b1, b2, b3, b4, b5⟩ := (Kb.out.new_ HBi.out).c6
          have htb := (Kb.out.new_ HBi.out).lt
          have m1 : decide (T.visited ≤ T2.visited) = true := decide_eq_true HMT.out.visited
          have m2 : decide (T.lost ≤ T2.lost) = true := decide_eq_true HMT.out.lost
          have m3 : decide (T.holes.length ≤ T2.holes.length) = true := decide_eq_true HMT.out.holes
          have m4 : decide (T.aparts.length ≤ T2.aparts.length) = true := decide_eq_true HMT.out.aparts
          have m5 : decide (T.news.length ≤ T2.news.length) = true := decide_eq_true HMT.out.news
          go_wp2_with fail
          refine (wakes21_is _).mono ?_
          rintro e w10 ⟨rfl, hb10⟩
          have HB10 := Lib.hid (HBE.out.trans (hb10.mono HBE.out.size))
          clear hb10
          go_wp2_with fail
          go_ret
          exact ⟨rfl, HB10.out⟩
     · skip
       go_wp2_with fail
       with_reducible refine (wakes21_is _).mono ?_
       rintro e w3 ⟨rfl, hb⟩
       have hbs := Below.trans (show Below w2.heap.size w2 _ from (by (repeat (first | exact Below.refl _ _ | refine Below.drew ?_ | refine Below.al ?_ _ | refine Below.sc ?_ _)))) (hb.mono (by simp <;> omega))
       have HB := Lib.hid (HB.out.trans (hbs.mono HB.out.size))
       have hsz3 := hbs.size
       clear  hb hbs
       go_wp2_with fail
       go_ret
       exact ⟨rfl, by (repeat (first | exact Below.refl _ _ | exact HB.out | refine Below.drew ?_ | refine Below.al ?_ _ | refine Below.sc ?_ _))⟩
end Go.Proofs.Ytnfgilbaglfkeaa
namespace Go.Proofs.Ytnfgilbaglfkeaa
open Go.ChangeShapes Go.WideShapes Go.ChangeAt Go.RowKit Go.Deep
theorem own_more : ownKnob Try.prog.godebug = none := by kernel_rfl
theorem laid_more : laidOutB Try.prog = true := by kernel_rfl
set_option maxRecDepth 100000 in
theorem more_lifted (os : Os) (started : os.Started) (H : Type) (enc : TypeId × Value → H) :
 ReturnsInHanded {} Try.checked os 6 .any (Rows.backMoreSpec.pre6 enc Try.prog Try.f6 Rows.backMoreRow.domain false) (Rows.backMoreSpec.post enc Try.prog Try.f6 false true false false) := by
 refine returnsInHanded_of_change (C := Try.checked) own_more started (by kernel_rfl) Try.func6
  (ChangeSpec.witness6 (enc := enc) (C := Try.checked) false ⟨#[], #[.int .i64 0, .slice none 0 0, .slice none 0 0, .slice none 0 0], []⟩ 8 (by kernel_rfl) (by kernel_rfl) (by kernel_rfl) (by kernel_rfl)) ?_
 intro W base args ds gs before hval0 hW hcnd _
 have hval : ∀ (j : Nat) t v, Try.f6.params[j]? = some t → args[j]? = some v → Value.okWide Try.prog W .any base t v := hval0
 have hW' := hW
 obtain ⟨p, q, hA0, hV, rfl, hfz, hnd⟩ := hW
 have hA : DataW.TrodAll enc Try.prog W 0 (fun _ => true) true Try.f6.params.toList args.toList ds p := hA0
 rw [Try.params6] at hA hval
 obtain ⟨v0, v1, v2, v3, d0, d1, d2, d3, p0, p1, p2, p3, rfl, rfl, rfl, h0, h1, h2, h3⟩ := trodAll_four hA
 obtain ⟨rfl, rfl⟩ := trodVars_none hV
 obtain ⟨n0, rfl, _, _, _⟩ := open_int Try.underlying3 (hval 0 3 v0 rfl rfl) h0
 obtain ⟨A1, c1, l1, rfl, r1⟩ := open_row Try.underlying22 (by omega) (reads_int Try.underlying3 (by kernel_rfl)) (hval 1 22 v1 rfl rfl) h1
 obtain ⟨A2, c2, l2, rfl, r2⟩ := open_row Try.underlying22 (by omega) (reads_int Try.underlying3 (by kernel_rfl)) (hval 2 22 v2 rfl rfl) h2
 obtain ⟨m3, A3, c3, l3, rfl, r3⟩ := open_Recs (hval 3 23 v3 rfl rfl) h3
 clear hA0 hval0
 refine (more_walk m3 n0 l1 l2 l3 A1 A2 A3 c1 c2 c3 W r1 r2 r3).mono fun e W' ⟨he, hb⟩ => ?_
 subst he
 exact ⟨_, rfl, post_true (tb := 4) laid_more rfl hW' (by kernel_rfl) Try.underlying4 (fun t ht => by
  have ht' : t ∈ [3, 22, 22, 23] := by
   have e : Try.f6.params.toList = [3, 22, 22, 23] := by rw [Try.params6]
   rwa [e] at ht
  simp only [List.mem_cons, List.not_mem_nil, or_false] at ht'
  rcases ht' with rfl | rfl | rfl | rfl <;> exact ⟨by kernel_rfl, of_decide_eq_true (by kernel_rfl)⟩) rfl rfl rfl hb⟩
theorem more_holds : Rows.BackMoreSaid :=
 OpenClaim.holds_of_wide 6 Try.f6 rfl rfl rfl rfl rfl rfl rfl ⟨rfl, rfl, rfl, rfl, rfl⟩ rfl rfl rfl rfl rfl (by kernel_rfl) Try.func6 (by kernel_rfl)
  (of_decide_eq_true (by kernel_rfl)) (by unfold Func.isWrapper; first | (rw [if_pos (by decide +kernel)]; kernel_rfl) | (rw [if_neg (by decide +kernel)]; exact ⟨rfl, rfl⟩))
  (fun os started H enc _ => more_lifted os started H enc)
end Go.Proofs.Ytnfgilbaglfkeaa
