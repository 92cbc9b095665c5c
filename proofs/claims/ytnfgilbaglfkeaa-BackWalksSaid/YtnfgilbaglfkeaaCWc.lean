/-
  For every input BackWalks answers true, and leaves its arguments and all that was there as they were. No conditions.
-/
import Derived.Test.YtnfgilbaglfkeaaBa
import Derived.Test.YtnfgilbaglfkeaaBb
import Derived.Test.YtnfgilbaglfkeaaBc
import Derived.Test.YtnfgilbaglfkeaaBd
import Derived.Test.YtnfgilbaglfkeaaBe
import Derived.Test.YtnfgilbaglfkeaaBf
import Derived.Test.YtnfgilbaglfkeaaBg
import Derived.Test.YtnfgilbaglfkeaaBh
import Derived.Test.YtnfgilbaglfkeaaBi
import Derived.Test.YtnfgilbaglfkeaaBj
import Derived.Test.YtnfgilbaglfkeaaBk
import Derived.Test.YtnfgilbaglfkeaaCWa
import Derived.Test.YtnfgilbaglfkeaaCWb
import Derived.WalkKit
import Derived.WalkSpells
import Derived.WalkLawsBesides
import Derived.Lib.Hide
import Derived.Deep.QuietTactic
import Derived.BigQuiet
import Derived.Deep.RegionHeld3
import Derived.Deep.AppendLies
import Derived.Maps.AppendAt
import Derived.StillTailTactics
import Derived.Maps.RangeWalk
import Derived.ProofKit
import Derived.Carry
import Derived.ChangeSame
import Derived.Deep.Slices
import Derived.Deep.Strs
import Derived.OrdersHeld
import Derived.StillTail
import Derived.RangeFuncNested
import Derived.RangeFuncBound
import Derived.RangeFuncCalls
import Derived.RangeFuncLeaves
import Derived.OrdersIn
import Derived.OwnWalkIn
import Derived.TacticsInMore
import Derived.LoopNIn
import Derived.LoopIn
import Derived.Shelf.Abstract
import Derived.Test.YtnfgilbaglfkeaaRows
import Derived.Lib.Strings
namespace Go.Proofs.Ytnfgilbaglfkeaa
open Go.RowKit Go.Shelf
set_option maxRecDepth 100000 in
set_option maxHeartbeats 8000000 in
theorem same21_is (n : Nat) (T : TrailV) {D D' : Nat → Prop} (Aa1 Aa2 Aa3 Aa4 Ab1 Ab2 Ab3 Ab4 : Option Addr) (aa1 aa2 aa3 aa4 ab1 ab2 ab3 ab4 : Nat) (w : World) (h1 : TrRep n T D w Aa1 aa1 Aa2 aa2 Aa3 aa3 Aa4 aa4) (h2 : TrRep n T D' w Ab1 ab1 Ab2 ab2 Ab3 ab3 Ab4 ab4) :
 Calls Try.prog 10 #[.agg #[.slice Aa1 T.elems.length aa1, .slice Aa2 T.holes.length aa2, .slice Aa3 T.aparts.length aa3, .slice Aa4 T.news.length aa4, .int .i64 (T.visited : Nat), .int .i64 (T.lost : Nat)], .agg #[.slice Ab1 T.elems.length ab1, .slice Ab2 T.holes.length ab2, .slice Ab3 T.aparts.length ab3, .slice Ab4 T.news.length ab4, .int .i64 (T.visited : Nat), .int .i64 (T.lost : Nat)]] w fun e w' => e = .returned (.bool true) ∧ Below w.heap.size w w' := by
 have H1 := Lib.hid h1
 have H2 := Lib.hid h2
 clear h1 h2
 go_enter Try.func10, Try.ntmps10
 go_upto_region 1 with fail
 obtain ⟨w1, hw1⟩ : ∃ w1, w1 = ((w.alloc (.cells #[.slice Aa1 T.elems.length aa1, .slice Aa2 T.holes.length aa2, .slice Aa3 T.aparts.length aa3, .slice Aa4 T.news.length aa4, .int .i64 (T.visited : Nat), .int .i64 (T.lost : Nat)] 32)).alloc (.cells #[.slice Ab1 T.elems.length ab1, .slice Ab2 T.holes.length ab2, .slice Ab3 T.aparts.length ab3, .slice Ab4 T.news.length ab4, .int .i64 (T.visited : Nat), .int .i64 (T.lost : Nat)] 37)) := ⟨_, rfl⟩
 rw [← hw1]
 have HB := Lib.hid (show Below w.heap.size w w1 by rw [hw1]; exact (by repeat (first | exact Below.refl _ _ | refine Below.drew ?_ | refine Below.al ?_ _ | refine Below.sc ?_ _)))
 have Ka := Lib.hid (show Blk w1 (w.heap.size) 32 #[.slice Aa1 T.elems.length aa1, .slice Aa2 T.holes.length aa2, .slice Aa3 T.aparts.length aa3, .slice Aa4 T.news.length aa4, .int .i64 (T.visited : Nat), .int .i64 (T.lost : Nat)] by rw [hw1]; exact ((Blk.new w 32 #[.slice Aa1 T.elems.length aa1, .slice Aa2 T.holes.length aa2, .slice Aa3 T.aparts.length aa3, .slice Aa4 T.news.length aa4, .int .i64 (T.visited : Nat), .int .i64 (T.lost : Nat)]).alloc (.cells #[.slice Ab1 T.elems.length ab1, .slice Ab2 T.holes.length ab2, .slice Ab3 T.aparts.length ab3, .slice Ab4 T.news.length ab4, .int .i64 (T.visited : Nat), .int .i64 (T.lost : Nat)] 37)))
 have Kb := Lib.hid (show Blk w1 (w.heap.size + 1) 37 #[.slice Ab1 T.elems.length ab1, .slice Ab2 T.holes.length ab2, .slice Ab3 T.aparts.length ab3, .slice Ab4 T.news.length ab4, .int .i64 (T.visited : Nat), .int .i64 (T.lost : Nat)] by rw [hw1]; have hh := (Blk.new (w.alloc (.cells #[.slice Aa1 T.elems.length aa1, .slice Aa2 T.holes.length aa2, .slice Aa3 T.aparts.length aa3, .slice Aa4 T.news.length aa4, .int .i64 (T.visited : Nat), .int .i64 (T.lost : Nat)] 32)) 37 #[.slice Ab1 T.elems.length ab1, .slice Ab2 T.holes.length ab2, .slice Ab3 T.aparts.length ab3, .slice Ab4 T.news.length ab4, .int .i64 (T.visited : Nat), .int .i64 (T.lost : Nat)]); simp only [World.size_alloc] at hh; exact hh)
 clear hw1
 obtain ⟨a0, a1, a2, a3, a4, a5⟩ := Ka.out.c6
 have az := Ka.out.lt
 obtain ⟨b0, b1, b2, b3, b4, b5⟩ := Kb.out.c6
 have bz := Kb.out.lt
 have RA0 := Lib.hid (H1.out.new_ HB.out).1
 have RB0 := Lib.hid (H2.out.new_ HB.out).1
 have RA1 := Lib.hid (H1.out.new_ HB.out).2.1
 have RB1 := Lib.hid (H2.out.new_ HB.out).2.1
 have RA2 := Lib.hid (H1.out.new_ HB.out).2.2.1
 have RB2 := Lib.hid (H2.out.new_ HB.out).2.2.1
 have RA3 := Lib.hid (H1.out.new_ HB.out).2.2.2
 have RB3 := Lib.hid (H2.out.new_ HB.out).2.2.2
 clear H1 H2
 go_wp2_with fail
 with_reducible refine (traces_same T.elems _ RA0.out RB0.out).mono ?_
 rintro e w2 ⟨rfl, hb⟩
 have hbs := Below.trans (show Below w1.heap.size w1 _ from (by (repeat (first | exact Below.refl _ _ | refine Below.drew ?_ | refine Below.al ?_ _ | refine Below.sc ?_ _)))) (hb.mono (by simp <;> omega))
 have Ka := Lib.hid (Ka.out.new_ hbs)
 have Kb := Lib.hid (Kb.out.new_ hbs)
 have RA0 := Lib.hid (RA0.out.new_ hbs)
 have RB0 := Lib.hid (RB0.out.new_ hbs)
 have RA1 := Lib.hid (RA1.out.new_ hbs)
 have RB1 := Lib.hid (RB1.out.new_ hbs)
 have RA2 := Lib.hid (RA2.out.new_ hbs)
 have RB2 := Lib.hid (RB2.out.new_ hbs)
 have RA3 := Lib.hid (RA3.out.new_ hbs)
 have RB3 := Lib.hid (RB3.out.new_ hbs)
 have HB := Lib.hid (HB.out.trans (hbs.mono HB.out.size))
 have hsz2 := hbs.size
 clear a0 a1 a2 a3 a4 a5 az b0 b1 b2 b3 b4 b5 bz hb hbs
 obtain ⟨a0, a1, a2, a3, a4, a5⟩ := Ka.out.c6
 have az := Ka.out.lt
 obtain ⟨b0, b1, b2, b3, b4, b5⟩ := Kb.out.c6
 have bz := Kb.out.lt
 go_wp2_with fail
 with_reducible refine (holes_same n T.holes _ RA1.out RB1.out).mono ?_
 rintro e w3 ⟨rfl, hb⟩
 have hbs := Below.trans (show Below w2.heap.size w2 _ from (by (repeat (first | exact Below.refl _ _ | refine Below.drew ?_ | refine Below.al ?_ _ | refine Below.sc ?_ _)))) (hb.mono (by simp <;> omega))
 have Ka := Lib.hid (Ka.out.new_ hbs)
 have Kb := Lib.hid (Kb.out.new_ hbs)
 have RA0 := Lib.hid (RA0.out.new_ hbs)
 have RB0 := Lib.hid (RB0.out.new_ hbs)
 have RA1 := Lib.hid (RA1.out.new_ hbs)
 have RB1 := Lib.hid (RB1.out.new_ hbs)
 have RA2 := Lib.hid (RA2.out.new_ hbs)
 have RB2 := Lib.hid (RB2.out.new_ hbs)
 have RA3 := Lib.hid (RA3.out.new_ hbs)
 have RB3 := Lib.hid (RB3.out.new_ hbs)
 have HB := Lib.hid (HB.out.trans (hbs.mono HB.out.size))
 have hsz3 := hbs.size
 clear a0 a1 a2 a3 a4 a5 az b0 b1 b2 b3 b4 b5 bz hb hbs
 obtain ⟨a0, a1, a2, a3, a4, a5⟩ := Ka.out.c6
 have az := Ka.out.lt
 obtain ⟨b0, b1, b2, b3, b4, b5⟩ := Kb.out.c6
 have bz := Kb.out.lt
 go_wp2_with fail
 with_reducible refine (aparts_same T.aparts _ RA2.out RB2.out).mono ?_
 rintro e w4 ⟨rfl, hb⟩
 have hbs := Below.trans (show Below w3.heap.size w3 _ from (by (repeat (first | exact Below.refl _ _ | refine Below.drew ?_ | refine Below.al ?_ _ | refine Below.sc ?_ _)))) (hb.mono (by simp <;> omega))
 have Ka := Lib.hid (Ka.out.new_ hbs)
 have Kb := Lib.hid (Kb.out.new_ hbs)
 have RA0 := Lib.hid (RA0.out.new_ hbs)
 have RB0 := Lib.hid (RB0.out.new_ hbs)
 have RA1 := Lib.hid (RA1.out.new_ hbs)
 have RB1 := Lib.hid (RB1.out.new_ hbs)
 have RA2 := Lib.hid (RA2.out.new_ hbs)
 have RB2 := Lib.hid (RB2.out.new_ hbs)
 have RA3 := Lib.hid (RA3.out.new_ hbs)
 have RB3 := Lib.hid (RB3.out.new_ hbs)
 have HB := Lib.hid (HB.out.trans (hbs.mono HB.out.size))
 have hsz4 := hbs.size
 clear a0 a1 a2 a3 a4 a5 az b0 b1 b2 b3 b4 b5 bz hb hbs
 obtain ⟨a0, a1, a2, a3, a4, a5⟩ := Ka.out.c6
 have az := Ka.out.lt
 obtain ⟨b0, b1, b2, b3, b4, b5⟩ := Kb.out.c6
 have bz := Kb.out.lt
 go_wp2_with fail
 with_reducible refine (syms_same T.news _ RA3.out RB3.out).mono ?_
 rintro e w5 ⟨rfl, hb⟩
 have hbs := Below.trans (show Below w4.heap.size w4 _ from (by (repeat (first | exact Below.refl _ _ | refine Below.drew ?_ | refine Below.al ?_ _ | refine Below.sc ?_ _)))) (hb.mono (by simp <;> omega))
 have Ka := Lib.hid (Ka.out.new_ hbs)
 have Kb := Lib.hid (Kb.out.new_ hbs)
 have RA0 := Lib.hid (RA0.out.new_ hbs)
 have RB0 := Lib.hid (RB0.out.new_ hbs)
 have RA1 := Lib.hid (RA1.out.new_ hbs)
 have RB1 := Lib.hid (RB1.out.new_ hbs)
 have RA2 := Lib.hid (RA2.out.new_ hbs)
 have RB2 := Lib.hid (RB2.out.new_ hbs)
 have RA3 := Lib.hid (RA3.out.new_ hbs)
 have RB3 := Lib.hid (RB3.out.new_ hbs)
 have HB := Lib.hid (HB.out.trans (hbs.mono HB.out.size))
 have hsz5 := hbs.size
 clear a0 a1 a2 a3 a4 a5 az b0 b1 b2 b3 b4 b5 bz hb hbs
 obtain ⟨a0, a1, a2, a3, a4, a5⟩ := Ka.out.c6
 have az := Ka.out.lt
 obtain ⟨b0, b1, b2, b3, b4, b5⟩ := Kb.out.c6
 have bz := Kb.out.lt
 go_wp2_with fail
 go_ret
 exact ⟨rfl, HB.out⟩
end Go.Proofs.Ytnfgilbaglfkeaa
namespace Go.Proofs.Ytnfgilbaglfkeaa
open Go.RowKit Go.Shelf
set_option maxRecDepth 100000 in
set_option maxHeartbeats 16000000 in
theorem walks_walk (n : Nat) (lv : Int) (nums : List Int) (l : List RecordT) (A1 A2 : Option Addr) (c1 c2 : Nat) (w : World) (h1 : RowRd w 1 Int.cells1 A1 c1 nums) (h2 : RowR (repRecordT n) (· < w.heap.size) w A2 c2 l) :
 Calls Try.prog 3 #[.int .i64 lv, .slice A1 nums.length c1, .slice A2 l.length c2] w fun e w' => e = .returned (.bool true) ∧ Below w.heap.size w w' := by
 have H1 := Lib.hid h1
 have H2 := Lib.hid h2
 have hc1 := h1.cap
 have hc2 := h2.cap
 clear h1 h2
 have HB := Lib.hid (Below.refl w.heap.size w)
 go_enter Try.func3, Try.ntmps3
 by_cases hd0 : (20 : Int) < (nums.length : Int)
 · skip
   have d0 : decide ((20 : Int) < (nums.length : Int)) = true := by simpa using hd0
   clear hd0
   go_wp2_with fail
   with_reducible refine (wakes21_is _).mono ?_
   rintro e w2 ⟨rfl, hb⟩
   have hbs := Below.trans (show Below w.heap.size w _ from (by (repeat (first | exact Below.refl _ _ | refine Below.drew ?_ | refine Below.al ?_ _ | refine Below.sc ?_ _)))) (hb.mono (by simp <;> omega))
   have HB := Lib.hid (HB.out.trans (hbs.mono HB.out.size))
   have hsz2 := hbs.size
   clear  hb hbs
   go_wp2_with fail
   go_ret
   exact ⟨rfl, by (repeat (first | exact Below.refl _ _ | exact HB.out | refine Below.drew ?_ | refine Below.al ?_ _ | refine Below.sc ?_ _))⟩
 · skip
   have d0 : decide ((20 : Int) < (nums.length : Int)) = false := by simpa using hd0
   have HL0 := Lib.hid (show nums.length ≤ 20 by omega)
   clear hd0
   go_wp2_with fail
   with_reducible refine (heavy21_is n A2 c2 l _ (H2.out.new_ HB.out)).mono ?_
   rintro e w2 ⟨bh, rfl, hb, hnh⟩
   have hbs := Below.trans (show Below w.heap.size w _ from (by (repeat (first | exact Below.refl _ _ | refine Below.drew ?_ | refine Below.al ?_ _ | refine Below.sc ?_ _)))) (hb.mono (by simp <;> omega))
   have HB := Lib.hid (HB.out.trans (hbs.mono HB.out.size))
   have hsz2 := hbs.size
   clear  hb hbs
   have HNH := Lib.hid hnh
   clear hnh
   cases bh
   · skip
     have HSM := Lib.hid (HNH.out rfl)
     clear HNH
     have h20 := HL0.out
     go_wp2_with fail
     with_reducible refine (cp_Int A1 c1 nums _ (H1.out.new_ (by (repeat (first | exact Below.refl _ _ | exact HB.out | refine Below.drew ?_ | refine Below.al ?_ _ | refine Below.sc ?_ _)))) (by omega)).mono ?_
     rintro e w3 ⟨Ac, cc, rfl, ho, hAc, hb⟩
     have hbs := Below.trans (show Below w2.heap.size w2 _ from (by (repeat (first | exact Below.refl _ _ | refine Below.drew ?_ | refine Below.al ?_ _ | refine Below.sc ?_ _)))) (hb.mono (by simp <;> omega))
     have HB := Lib.hid (HB.out.trans (hbs.mono HB.out.size))
     have hsz3 := hbs.size
     clear  hb hbs
     have HNM := Lib.hid (ownsRow_rd Int.cells1_length ho)
     clear ho hAc
     go_wp2_with fail
     with_reducible refine (mkfind_is l A2 c2 _).mono ?_
     rintro e w4 ⟨rfl, hb, hkb⟩
     have hbs := Below.trans (show Below w3.heap.size w3 _ from (by (repeat (first | exact Below.refl _ _ | refine Below.drew ?_ | refine Below.al ?_ _ | refine Below.sc ?_ _)))) (hb.mono (by simp <;> omega))
     have HNM := Lib.hid (HNM.out.new_ hbs)
     have HB := Lib.hid (HB.out.trans (hbs.mono HB.out.size))
     have hsz4 := hbs.size
     clear  hb hbs
     have HW := Lib.hid (lawwalk lv w4 hkb (rowlt H2.out HB.out) HSM.out HNM.out (by omega))
     generalize w3.heap.size = kb at HW hkb ⊢
     clear hkb HNM
     obtain ⟨T, hT⟩ : ∃ T, T = trailL l lv nums := ⟨_, rfl⟩
     rw [← hT] at HW
     have HT := Lib.hid hT
     clear hT
     go_wp2_with fail
     with_reducible refine (HW.out).mono ?_
     rintro e w5 ⟨Aa1, aa1, Aa2, aa2, Aa3, aa3, Aa4, aa4, rfl, htr, hb⟩
     have hbs := Below.trans (show Below w4.heap.size w4 _ from (by (repeat (first | exact Below.refl _ _ | refine Below.drew ?_ | refine Below.al ?_ _ | refine Below.sc ?_ _)))) (hb.mono (by simp <;> omega))
     have HB := Lib.hid (HB.out.trans (hbs.mono HB.out.size))
     have hsz5 := hbs.size
     clear  hb hbs
     have HTR := Lib.hid htr
     clear htr HW
     have HW := Lib.hid (show Calls Try.prog 14 _ w5 (TrailPost n T w5) from HT.out ▸ rwalk_is n lv A1 A2 c1 c2 w5 (H1.out.new_ HB.out) (rowlt H2.out HB.out) (fun _ h => h) HSM.out (by omega))
     go_wp2_with fail
     with_reducible refine (HW.out).mono ?_
     rintro e w6 ⟨Ab1, ab1, Ab2, ab2, Ab3, ab3, Ab4, ab4, rfl, htr, hb⟩
     have hbs := Below.trans (show Below w5.heap.size w5 _ from (by (repeat (first | exact Below.refl _ _ | refine Below.drew ?_ | refine Below.al ?_ _ | refine Below.sc ?_ _)))) (hb.mono (by simp <;> omega))
     have HTR := Lib.hid (HTR.out.new_ hbs)
     have HB := Lib.hid (HB.out.trans (hbs.mono HB.out.size))
     have hsz6 := hbs.size
     clear  hb hbs
     have HTR2 := Lib.hid htr
     clear htr HW
     go_wp2_with fail
     with_reducible refine (same21_is n T Aa1 Aa2 Aa3 Aa4 Ab1 Ab2 Ab3 Ab4 aa1 aa2 aa3 aa4 ab1 ab2 ab3 ab4 _ HTR.out HTR2.out).mono ?_
     rintro e w7 ⟨rfl, hb⟩
     have hbs := Below.trans (show Below w6.heap.size w6 _ from (by (repeat (first | exact Below.refl _ _ | refine Below.drew ?_ | refine Below.al ?_ _ | refine Below.sc ?_ _)))) (hb.mono (by simp <;> omega))
     have HB := Lib.hid (HB.out.trans (hbs.mono HB.out.size))
     have hsz7 := hbs.size
     clear  hb hbs
     go_wp2_with fail
     with_reducible refine (wakes21_is _).mono ?_
     rintro e w8 ⟨rfl, hb⟩
     have hbs := Below.trans (show Below w7.heap.size w7 _ from (by (repeat (first | exact Below.refl _ _ | refine Below.drew ?_ | refine Below.al ?_ _ | refine Below.sc ?_ _)))) (hb.mono (by simp <;> omega))
     have HB := Lib.hid (HB.out.trans (hbs.mono HB.out.size))
     have hsz8 := hbs.size
     clear  hb hbs
     go_wp2_with fail
     go_ret
     exact ⟨rfl, HB.out⟩
   · skip
     go_wp2_with fail
     with_reducible refine (wakes21_is _).mono ?_
     rintro e w3 ⟨rfl, hb⟩
     have hbs := Below.trans (show Below w2.heap.size w2 _ from (by (repeat (first | exact Below.refl _ _ | refine Below.drew ?_ | refine Below.al ?_ _ | refine Below.sc ?_ _)))) (hb.mono (by simp <;> omega))
     have HB := Lib.hid (HB.out.trans (hbs.mono HB.out.size))
     have hsz3 := hbs.size
     clear  hb hbs
     go_wp2_with fail
     go_ret
     exact ⟨rfl, by (repeat (first | exact Below.refl _ _ | exact HB.out | refine Below.drew ?_ | refine Below.al ?_ _ | refine Below.sc ?_ _))⟩
end Go.Proofs.Ytnfgilbaglfkeaa
namespace Go.Proofs.Ytnfgilbaglfkeaa
open Go.ChangeShapes Go.WideShapes Go.ChangeAt Go.RowKit Go.Deep
theorem own_walks : ownKnob Try.prog.godebug = none := by kernel_rfl
theorem laid_walks : laidOutB Try.prog = true := by kernel_rfl
set_option maxRecDepth 100000 in
theorem walks_lifted (os : Os) (started : os.Started) (H : Type) (enc : TypeId × Value → H) :
 ReturnsInHanded {} Try.checked os 3 .any (Rows.backWalksSpec.pre6 enc Try.prog Try.f3 Rows.backWalksRow.domain false) (Rows.backWalksSpec.post enc Try.prog Try.f3 false true false false) := by
 refine returnsInHanded_of_change (C := Try.checked) own_walks started (by kernel_rfl) Try.func3
  (ChangeSpec.witness6 (enc := enc) (C := Try.checked) false ⟨#[], #[.int .i64 0, .slice none 0 0, .slice none 0 0], []⟩ 8 (by kernel_rfl) (by kernel_rfl) (by kernel_rfl) (by kernel_rfl)) ?_
 intro W base args ds gs before hval0 hW hcnd _
 have hval : ∀ (j : Nat) t v, Try.f3.params[j]? = some t → args[j]? = some v → Value.okWide Try.prog W .any base t v := hval0
 have hW' := hW
 obtain ⟨p, q, hA0, hV, rfl, hfz, hnd⟩ := hW
 have hA : DataW.TrodAll enc Try.prog W 0 (fun _ => true) true Try.f3.params.toList args.toList ds p := hA0
 rw [Try.params3] at hA hval
 obtain ⟨v0, v1, v2, d0, d1, d2, p0, p1, p2, rfl, rfl, rfl, h0, h1, h2⟩ := trodAll_three hA
 obtain ⟨rfl, rfl⟩ := trodVars_none hV
 obtain ⟨n0, rfl, _, _, _⟩ := open_int Try.underlying3 (hval 0 3 v0 rfl rfl) h0
 obtain ⟨A1, c1, l1, rfl, r1⟩ := open_row Try.underlying22 (by omega) (reads_int Try.underlying3 (by kernel_rfl)) (hval 1 22 v1 rfl rfl) h1
 obtain ⟨m2, A2, c2, l2, rfl, r2⟩ := open_Recs (hval 2 23 v2 rfl rfl) h2
 clear hA0 hval0
 refine (walks_walk m2 n0 l1 l2 A1 A2 c1 c2 W r1 r2).mono fun e W' ⟨he, hb⟩ => ?_
 subst he
 exact ⟨_, rfl, post_true (tb := 4) laid_walks rfl hW' (by kernel_rfl) Try.underlying4 (fun t ht => by
  have ht' : t ∈ [3, 22, 23] := by
   have e : Try.f3.params.toList = [3, 22, 23] := by rw [Try.params3]
   rwa [e] at ht
  simp only [List.mem_cons, List.not_mem_nil, or_false] at ht'
  rcases ht' with rfl | rfl | rfl <;> exact ⟨by kernel_rfl, of_decide_eq_true (by kernel_rfl)⟩) rfl rfl rfl hb⟩
theorem walks_holds : Rows.BackWalksSaid :=
 OpenClaim.holds_of_wide 3 Try.f3 rfl rfl rfl rfl rfl rfl rfl ⟨rfl, rfl, rfl, rfl, rfl⟩ rfl rfl rfl rfl rfl (by kernel_rfl) Try.func3 (by kernel_rfl)
  (of_decide_eq_true (by kernel_rfl)) (by unfold Func.isWrapper; first | (rw [if_pos (by decide +kernel)]; kernel_rfl) | (rw [if_neg (by decide +kernel)]; exact ⟨rfl, rfl⟩))
  (fun os started H enc _ => walks_lifted os started H enc)
end Go.Proofs.Ytnfgilbaglfkeaa
