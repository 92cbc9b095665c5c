/-
  Texts put together: Ref06C, Ref06D, Ref06E, CanonTurn, CanonTw.
-/
import Derived.Test.YtffemfglngikbaaGreatBt
import Derived.Test.YtffemfglngikbaaGreatBc
import Derived.Test.YtffemfglngikbaaGreatBl
import Derived.Test.YtffemfglngikbaaGreatBd
import Derived.Test.YtffemfglngikbaaGreatBs
import Derived.Test.YtffemfglngikbaaGreatBn
import Derived.IntWalk
import Derived.Maps.RangeWalk
namespace Go.Proofs.YtffemfglngikbaaGreat
open Go.RowKit Go.Shelf
attribute [local go_sem] Oper.semAt_some
set_option linter.unusedSimpArgs false
set_option maxRecDepth 100000 in
set_option maxHeartbeats 8000000 in
theorem rtests_is {D : Nat → Prop} (A : Option Addr) (c : Nat) (l : List TestT) (w : World) (h : RowR repTestT D w A c l) : Calls Tryz.prog 230 #[.slice A l.length c] w fun e w' => e = .returned (.bool (l.all testB)) ∧ Below w.heap.size w w' := by
 have HR := Lib.hid h
 have hlc := h.cap
 clear h
 go_enter Tryz.func230, Tryz.ntmps230
 go_wp2_with fail
 go_loopw [3] (fun s wr => ∃ i : Nat, s = .int .i64 i ∧ i ≤ l.length ∧ (∀ k, (h : k < l.length) → k < i → testB l[k] = true) ∧ Below w.heap.size w wr) (fun s wr => l.length - (intOf s).toNat)
 case atStart => exact ⟨0, rfl, Nat.zero_le _, fun k _ h => absurd h (by omega), Below.refl _ _⟩
 case round =>
  obtain ⟨i, rfl, hi, hall, hB⟩ := hrel
  have HALL := Lib.hid hall
  have HB := Lib.hid hB
  clear hall hB
  by_cases hlt : i < l.length
  · obtain ⟨y, hy⟩ : ∃ y, y = l[i] := ⟨_, rfl⟩
    obtain ⟨g, off, A1, c1, rfl, _, hg, q0, q1, q2, q3, q4, q5, hrow⟩ := at_TestT (HR.out.new_ HB.out) hlt
    rw [← hy] at q0 q1 q2 q3 q4 q5 hrow
    have HROW := Lib.hid (show RowRd wr 3 Sym.cells A1 c1 y.list from RowR.rd (hs := Sym.cells_length) hrow)
    have HY := Lib.hid hy
    have b1 : (0 : Int) ≤ (i : Int) := by omega
    have b2 : (i : Int) < (l.length : Int) := by omega
    have hzr := HB.out.size
    clear hy hrow
    go_wp2_with fail
    refine (rtest_is y A1 c1 _ (HROW.out.new_ (by (repeat (first | exact Below.refl _ _ | refine Below.drew ?_ | refine Below.al ?_ _ | refine Below.sc ?_ _))))).mono ?_
    rintro e w9 ⟨rfl, hb9⟩
    have HB9 := Lib.hid (HB.out.trans ((Below.trans (show Below wr.heap.size wr _ from (by (repeat (first | exact Below.refl _ _ | refine Below.drew ?_ | refine Below.al ?_ _ | refine Below.sc ?_ _)))) (hb9.mono (by simp)) : Below wr.heap.size wr w9).mono hzr))
    clear hb9 q0 q1 q2 q3 q4 q5
    cases hcb : testB y
    · have HRf := Lib.hid (show l.all testB = false from List.all_eq_false.2 ⟨y, by rw [HY.out]; exact List.getElem_mem hlt, by rw [hcb]; simp⟩)
      clear hcb
      go_wp2_with fail
      go_ret
      exact ⟨by rw [HRf.out] <;> rfl, HB9.out⟩
    · have HCB := Lib.hid hcb
      clear hcb
      go_wp2_with fail
      go_roundw
      case rel => exact ⟨i + 1, by go_num, by omega, fun k hk hki => by
       by_cases e : k = i
       · subst e; rw [← HY.out]; exact HCB.out
       · exact HALL.out k hk (by omega), HB9.out⟩
      case measure => simp [intOf] <;> omega
  · have hie : i = l.length := by omega
    subst hie
    have HRt := Lib.hid (show l.all testB = true from List.all_eq_true.2 (fun x hx => by
     obtain ⟨k, hk, rfl⟩ := List.getElem_of_mem hx
     exact HALL.out k hk hk))
    go_wp2_with fail
    go_ret
    exact ⟨by rw [HRt.out] <;> rfl, HB.out⟩
set_option maxRecDepth 100000 in
set_option maxHeartbeats 8000000 in
theorem rcond_is {D : Nat → Prop} (x : CondT) (deep : Nat) (A1 A2 A3 : Option Addr) (c1 c2 c3 : Nat) (w : World) (h1 : RowR repTestT D w A1 c1 x.attr) (h2 : RowR repTestT D w A2 c2 x.value) (hn3 : (x.conds.length : Int) ≤ 9223372036854775807) :
 Calls Tryz.prog 176 #[.agg #[.int .i64 x.kind, .bool x.goal, .string x.id, .slice A1 x.attr.length c1, .slice A2 x.value.length c2, .bool x.acc, .slice A3 x.conds.length c3], .int .i64 deep] w fun e w' => e = .returned (.int .i64 (condE x deep)) ∧ Below w.heap.size w w' := by
 have H1 := Lib.hid h1
 have H2 := Lib.hid h2
 have hl1 := h1.cap
 have hl2 := h2.cap
 clear h1 h2
 go_enter Tryz.func176, Tryz.ntmps176
 go_upto_region 1 with fail
 obtain ⟨w1, hw1⟩ : ∃ w1, w1 = (w.alloc (.cells #[.int .i64 x.kind, .bool x.goal, .string x.id, .slice A1 x.attr.length c1, .slice A2 x.value.length c2, .bool x.acc, .slice A3 x.conds.length c3] 59)) := ⟨_, rfl⟩
 rw [← hw1]
 have HB := Lib.hid (show Below w.heap.size w w1 by rw [hw1]; exact (by repeat (first | exact Below.refl _ _ | refine Below.drew ?_ | refine Below.al ?_ _ | refine Below.sc ?_ _)))
 have Kx := Lib.hid (show Blk w1 (w.heap.size) 59 #[.int .i64 x.kind, .bool x.goal, .string x.id, .slice A1 x.attr.length c1, .slice A2 x.value.length c2, .bool x.acc, .slice A3 x.conds.length c3] by rw [hw1]; exact (Blk.new w 59 #[.int .i64 x.kind, .bool x.goal, .string x.id, .slice A1 x.attr.length c1, .slice A2 x.value.length c2, .bool x.acc, .slice A3 x.conds.length c3]))
 clear hw1
 obtain ⟨x0, x1, x2, x3, x4, x5, x6⟩ := Kx.out.c7
 have xz := Kx.out.lt
 by_cases ha : x.kind < 1
 · skip
   have a0 : decide (x.kind < 1) = true := decide_eq_true ha
   have Ha := Lib.hid ha
   clear ha
   have HN3 := Lib.hid (show ¬ x.kind = 3 by have := Ha.out; omega)
   have HN1 := Lib.hid (show ¬ x.kind = 1 by have := Ha.out; omega)
   have HN2 := Lib.hid (show ¬ x.kind = 2 by have := Ha.out; omega)
   have HR := Lib.hid (show condE x deep = 9 by simp [condE, HN3.out, HN1.out, HN2.out])
   go_wp2_with fail
   go_ret
   exact ⟨by rw [HR.out] <;> rfl, by (repeat (first | exact Below.refl _ _ | exact HB.out | refine Below.drew ?_ | refine Below.al ?_ _ | refine Below.sc ?_ _))⟩
 · skip
   have a0 : decide (x.kind < 1) = false := decide_eq_false ha
   have Ha := Lib.hid ha
   clear ha
   by_cases hb : 3 < x.kind
   · skip
     have b0 : decide (3 < x.kind) = true := decide_eq_true hb
     have Hb := Lib.hid hb
     clear hb
     have HN3 := Lib.hid (show ¬ x.kind = 3 by have := Hb.out; omega)
     have HN1 := Lib.hid (show ¬ x.kind = 1 by have := Hb.out; omega)
     have HN2 := Lib.hid (show ¬ x.kind = 2 by have := Hb.out; omega)
     have HR := Lib.hid (show condE x deep = 9 by simp [condE, HN3.out, HN1.out, HN2.out])
     go_wp2_with fail
     go_ret
     exact ⟨by rw [HR.out] <;> rfl, by (repeat (first | exact Below.refl _ _ | exact HB.out | refine Below.drew ?_ | refine Below.al ?_ _ | refine Below.sc ?_ _))⟩
   · skip
     have b0 : decide (3 < x.kind) = false := decide_eq_false hb
     have Hb := Lib.hid hb
     clear hb
     by_cases hk : x.kind = 3
     · skip
       have ka : (x.kind == 3) = true := by simp [hk]
       have kb : decide (x.kind = 3) = true := by simp [hk]
       have Hk := Lib.hid hk
       clear hk
       by_cases hg : x.goal = true
       · skip
         have gq : x.goal = true := hg
         have Hg := Lib.hid hg
         clear hg
         have HR := Lib.hid (show condE x deep = 9 by simp [condE, Hk.out, Hg.out])
         go_wp2_with fail
         go_ret
         exact ⟨by rw [HR.out] <;> rfl, by (repeat (first | exact Below.refl _ _ | exact HB.out | refine Below.drew ?_ | refine Below.al ?_ _ | refine Below.sc ?_ _))⟩
       · skip
         have gq : x.goal = false := by simpa using hg
         have Hg := Lib.hid hg
         clear hg
         by_cases hv : ¬ x.id.toList = []
         · skip
           have vva : (x.id.toList == []) = false := by simp [hv]
           have vvb : x.id.toList.isEmpty = false := by simp [hv]
           have vvc : decide (x.id.toList = []) = false := by simp [hv]
           have vvd : (x.id.toList != []) = true := by simp [hv]
           have Hv := Lib.hid hv
           clear hv
           have HR := Lib.hid (show condE x deep = 9 by simp [condE, Hk.out, Hg.out, Hv.out])
           go_wp2_with fail
           go_ret
           exact ⟨by rw [HR.out] <;> rfl, by (repeat (first | exact Below.refl _ _ | exact HB.out | refine Below.drew ?_ | refine Below.al ?_ _ | refine Below.sc ?_ _))⟩
         · skip
           have hv2 : x.id.toList = [] := Classical.byContradiction hv
           have vva : (x.id.toList == []) = true := by simp [hv2]
           have vvb : x.id.toList.isEmpty = true := by simp [hv2]
           have vvc : decide (x.id.toList = []) = true := by simp [hv2]
           have vvd : (x.id.toList != []) = false := by simp [hv2]
           clear hv2
           have Hv := Lib.hid hv
           clear hv
           have HV2 := Lib.hid (Classical.byContradiction Hv.out)
           by_cases hc : 0 < x.attr.length
           · skip
             have ca : decide ((0 : Int) < (x.attr.length : Int)) = true := decide_eq_true (by omega)
             have cb : decide (0 < x.attr.length) = true := decide_eq_true (by omega)
             have Hc := Lib.hid hc
             clear hc
             have HR := Lib.hid (show condE x deep = 9 by simp [condE, Hk.out, Hg.out, HV2.out, Hc.out])
             go_wp2_with fail
             go_ret
             exact ⟨by rw [HR.out] <;> rfl, by (repeat (first | exact Below.refl _ _ | exact HB.out | refine Below.drew ?_ | refine Below.al ?_ _ | refine Below.sc ?_ _))⟩
           · skip
             have ca : decide ((0 : Int) < (x.attr.length : Int)) = false := decide_eq_false (by omega)
             have cb : decide (0 < x.attr.length) = false := decide_eq_false (by omega)
             have Hc := Lib.hid hc
             clear hc
             have HLc := Lib.hid (show x.attr = [] by have := Hc.out; exact List.length_eq_zero_iff.1 (by omega))
             by_cases hd : 0 < x.value.length
             · skip
               have da : decide ((0 : Int) < (x.value.length : Int)) = true := decide_eq_true (by omega)
               have db : decide (0 < x.value.length) = true := decide_eq_true (by omega)
               have Hd := Lib.hid hd
               clear hd
               have HR := Lib.hid (show condE x deep = 9 by simp [condE, Hk.out, Hg.out, HV2.out, HLc.out, Hd.out])
               go_wp2_with fail
               go_ret
               exact ⟨by rw [HR.out] <;> rfl, by (repeat (first | exact Below.refl _ _ | exact HB.out | refine Below.drew ?_ | refine Below.al ?_ _ | refine Below.sc ?_ _))⟩
             · skip
               have da : decide ((0 : Int) < (x.value.length : Int)) = false := decide_eq_false (by omega)
               have db : decide (0 < x.value.length) = false := decide_eq_false (by omega)
               have Hd := Lib.hid hd
               clear hd
               have HLd := Lib.hid (show x.value = [] by have := Hd.out; exact List.length_eq_zero_iff.1 (by omega))
               by_cases he : x.acc = true
               · skip
                 have eq : x.acc = true := he
                 have He := Lib.hid he
                 clear he
                 have HR := Lib.hid (show condE x deep = 9 by simp [condE, Hk.out, Hg.out, HV2.out, HLc.out, HLd.out, He.out])
                 go_wp2_with fail
                 go_ret
                 exact ⟨by rw [HR.out] <;> rfl, by (repeat (first | exact Below.refl _ _ | exact HB.out | refine Below.drew ?_ | refine Below.al ?_ _ | refine Below.sc ?_ _))⟩
               · skip
                 have eq : x.acc = false := by simpa using he
                 have He := Lib.hid he
                 clear he
                 by_cases hf : x.conds.length = 0
                 · skip
                   have fz : ((x.conds.length : Int) == 0) = true := by rw [beq_iff_eq]; omega
                   have fy : decide ((x.conds.length : Int) = 0) = true := decide_eq_true (by omega)
                   have Hf := Lib.hid hf
                   clear hf
                   have HR := Lib.hid (show condE x deep = 9 by simp [condE, Hk.out, Hg.out, HV2.out, HLc.out, HLd.out, He.out, Hf.out])
                   go_wp2_with fail
                   go_ret
                   exact ⟨by rw [HR.out] <;> rfl, by (repeat (first | exact Below.refl _ _ | exact HB.out | refine Below.drew ?_ | refine Below.al ?_ _ | refine Below.sc ?_ _))⟩
                 · skip
                   have fz : ((x.conds.length : Int) == 0) = false := by rw [beq_eq_false_iff_ne]; omega
                   have fy : decide ((x.conds.length : Int) = 0) = false := decide_eq_false (by omega)
                   have Hf := Lib.hid hf
                   clear hf
                   by_cases hp : 3 ≤ deep
                   · skip
                     have p0 : decide ((3 : Int) ≤ (deep : Int)) = true := decide_eq_true (by omega)
                     have p1 : decide (3 ≤ deep) = true := decide_eq_true (by omega)
                     have Hp := Lib.hid hp
                     clear hp
                     have HR := Lib.hid (show condE x deep = 8 by simp [condE, Hk.out, Hg.out, HV2.out, HLc.out, HLd.out, He.out, Hf.out, Hp.out])
                     go_wp2_with fail
                     go_ret
                     exact ⟨by rw [HR.out] <;> rfl, by (repeat (first | exact Below.refl _ _ | exact HB.out | refine Below.drew ?_ | refine Below.al ?_ _ | refine Below.sc ?_ _))⟩
                   · skip
                     have p0 : decide ((3 : Int) ≤ (deep : Int)) = false := decide_eq_false (by omega)
                     have p1 : decide (3 ≤ deep) = false := decide_eq_false (by omega)
                     have Hp := Lib.hid hp
                     clear hp
                     have HR := Lib.hid (show condE x deep = 0 by simp [condE, Hk.out, Hg.out, HV2.out, HLc.out, HLd.out, He.out, Hf.out, Hp.out])
                     go_wp2_with fail
                     go_ret
                     exact ⟨by rw [HR.out] <;> rfl, by (repeat (first | exact Below.refl _ _ | exact HB.out | refine Below.drew ?_ | refine Below.al ?_ _ | refine Below.sc ?_ _))⟩
     · skip
       have ka : (x.kind == 3) = false := by simp [hk]
       have kb : decide (x.kind = 3) = false := by simp [hk]
       have Hk := Lib.hid hk
       clear hk
       have H12 := Lib.hid (show x.kind = 1 ∨ x.kind = 2 by have := Ha.out; have := Hb.out; have := Hk.out; omega)
       by_cases hc : 0 < x.conds.length
       · skip
         have ca : decide ((0 : Int) < (x.conds.length : Int)) = true := decide_eq_true (by omega)
         have cb : decide (0 < x.conds.length) = true := decide_eq_true (by omega)
         have Hc := Lib.hid hc
         clear hc
         have HR := Lib.hid (show condE x deep = 9 by simp [condE, Hk.out, H12.out, Hc.out])
         go_wp2_with fail
         go_ret
         exact ⟨by rw [HR.out] <;> rfl, by (repeat (first | exact Below.refl _ _ | exact HB.out | refine Below.drew ?_ | refine Below.al ?_ _ | refine Below.sc ?_ _))⟩
       · skip
         have ca : decide ((0 : Int) < (x.conds.length : Int)) = false := decide_eq_false (by omega)
         have cb : decide (0 < x.conds.length) = false := decide_eq_false (by omega)
         have Hc := Lib.hid hc
         clear hc
         cases hw : isWord x.id
         · skip
           have hc := fun W => rword_is x.id W
           simp only [hw] at hc
           have HCw := Lib.hid hc
           clear hc
           go_wp2_with fail
           with_reducible refine (HCw.out _).mono ?_
           rintro e w0 ⟨rfl, rfl⟩
           have HR := Lib.hid (show condE x deep = 9 by simp [condE, Hk.out, H12.out, Hc.out, hw])
           go_wp2_with fail
           go_ret
           exact ⟨by rw [HR.out] <;> rfl, by (repeat (first | exact Below.refl _ _ | exact HB.out | refine Below.drew ?_ | refine Below.al ?_ _ | refine Below.sc ?_ _))⟩
         · skip
           have hc := fun W => rword_is x.id W
           simp only [hw] at hc
           have HCw := Lib.hid hc
           clear hc
           go_wp2_with fail
           with_reducible refine (HCw.out _).mono ?_
           rintro e w0 ⟨rfl, rfl⟩
           have HW := Lib.hid hw
           clear hw
           by_cases hd : x.attr.length = 0
           · skip
             have dz : ((x.attr.length : Int) == 0) = true := by rw [beq_iff_eq]; omega
             have dy : decide ((x.attr.length : Int) = 0) = true := decide_eq_true (by omega)
             have Hd := Lib.hid hd
             clear hd
             have HLd := Lib.hid (List.length_eq_zero_iff.1 Hd.out)
             have HR := Lib.hid (show condE x deep = 9 by simp [condE, Hk.out, H12.out, Hc.out, HW.out, HLd.out])
             go_wp2_with fail
             go_ret
             exact ⟨by rw [HR.out] <;> rfl, by (repeat (first | exact Below.refl _ _ | exact HB.out | refine Below.drew ?_ | refine Below.al ?_ _ | refine Below.sc ?_ _))⟩
           · skip
             have dz : ((x.attr.length : Int) == 0) = false := by rw [beq_eq_false_iff_ne]; omega
             have dy : decide ((x.attr.length : Int) = 0) = false := decide_eq_false (by omega)
             have Hd := Lib.hid hd
             clear hd
             have HNd := Lib.hid (show ¬ x.attr = [] by intro e; exact Hd.out (by rw [e]; rfl))
             by_cases he : 4 < x.attr.length
             · skip
               have ea : decide ((4 : Int) < (x.attr.length : Int)) = true := decide_eq_true (by omega)
               have eb : decide (4 < x.attr.length) = true := decide_eq_true (by omega)
               have He := Lib.hid he
               clear he
               have HR := Lib.hid (show condE x deep = 7 by simp [condE, Hk.out, H12.out, Hc.out, HW.out, HNd.out, He.out])
               go_wp2_with fail
               go_ret
               exact ⟨by rw [HR.out] <;> rfl, by (repeat (first | exact Below.refl _ _ | exact HB.out | refine Below.drew ?_ | refine Below.al ?_ _ | refine Below.sc ?_ _))⟩
             · skip
               have ea : decide ((4 : Int) < (x.attr.length : Int)) = false := decide_eq_false (by omega)
               have eb : decide (4 < x.attr.length) = false := decide_eq_false (by omega)
               have He := Lib.hid he
               clear he
               by_cases hf : 4 < x.value.length
               · skip
                 have fa : decide ((4 : Int) < (x.value.length : Int)) = true := decide_eq_true (by omega)
                 have fb : decide (4 < x.value.length) = true := decide_eq_true (by omega)
                 have Hf := Lib.hid hf
                 clear hf
                 have HR := Lib.hid (show condE x deep = 7 by simp [condE, Hk.out, H12.out, Hc.out, HW.out, HNd.out, He.out, Hf.out])
                 go_wp2_with fail
                 go_ret
                 exact ⟨by rw [HR.out] <;> rfl, by (repeat (first | exact Below.refl _ _ | exact HB.out | refine Below.drew ?_ | refine Below.al ?_ _ | refine Below.sc ?_ _))⟩
               · skip
                 have fa : decide ((4 : Int) < (x.value.length : Int)) = false := decide_eq_false (by omega)
                 have fb : decide (4 < x.value.length) = false := decide_eq_false (by omega)
                 have Hf := Lib.hid hf
                 clear hf
                 cases ht : x.attr.all testB
                 · skip
                   have hc := fun W (hb : Below w.heap.size w W) => rtests_is A1 c1 x.attr W (H1.out.new_ hb)
                   simp only [ht] at hc
                   have HCt := Lib.hid hc
                   clear hc
                   go_wp2_with fail
                   with_reducible refine (HCt.out _ (by (repeat (first | exact Below.refl _ _ | exact HB.out | refine Below.drew ?_ | refine Below.al ?_ _ | refine Below.sc ?_ _)))).mono ?_
                   rintro e w2 ⟨rfl, hb⟩
                   have hbs := Below.trans (show Below w1.heap.size w1 _ from (by (repeat (first | exact Below.refl _ _ | refine Below.drew ?_ | refine Below.al ?_ _ | refine Below.sc ?_ _)))) (hb.mono (by simp <;> omega))
                   have Kx := Lib.hid (Kx.out.new_ hbs)
                   have HB := Lib.hid (HB.out.trans (hbs.mono HB.out.size))
                   have hsz2 := hbs.size
                   clear x0 x1 x2 x3 x4 x5 x6 xz hb hbs
                   obtain ⟨x0, x1, x2, x3, x4, x5, x6⟩ := Kx.out.c7
                   have xz := Kx.out.lt
                   have HTt := Lib.hid ht
                   clear ht
                   have HR := Lib.hid (show condE x deep = 9 by simp [condE, Hk.out, H12.out, Hc.out, HW.out, HNd.out, He.out, Hf.out, HTt.out])
                   go_wp2_with fail
                   go_ret
                   exact ⟨by rw [HR.out] <;> rfl, by (repeat (first | exact Below.refl _ _ | exact HB.out | refine Below.drew ?_ | refine Below.al ?_ _ | refine Below.sc ?_ _))⟩
                 · skip
                   have hc := fun W (hb : Below w.heap.size w W) => rtests_is A1 c1 x.attr W (H1.out.new_ hb)
                   simp only [ht] at hc
                   have HCt := Lib.hid hc
                   clear hc
                   go_wp2_with fail
                   with_reducible refine (HCt.out _ (by (repeat (first | exact Below.refl _ _ | exact HB.out | refine Below.drew ?_ | refine Below.al ?_ _ | refine Below.sc ?_ _)))).mono ?_
                   rintro e w2 ⟨rfl, hb⟩
                   have hbs := Below.trans (show Below w1.heap.size w1 _ from (by (repeat (first | exact Below.refl _ _ | refine Below.drew ?_ | refine Below.al ?_ _ | refine Below.sc ?_ _)))) (hb.mono (by simp <;> omega))
                   have Kx := Lib.hid (Kx.out.new_ hbs)
                   have HB := Lib.hid (HB.out.trans (hbs.mono HB.out.size))
                   have hsz2 := hbs.size
                   clear x0 x1 x2 x3 x4 x5 x6 xz hb hbs
                   obtain ⟨x0, x1, x2, x3, x4, x5, x6⟩ := Kx.out.c7
                   have xz := Kx.out.lt
                   have HTt := Lib.hid ht
                   clear ht
                   cases hu : x.value.all testB
                   · skip
                     have hc := fun W (hb : Below w.heap.size w W) => rtests_is A2 c2 x.value W (H2.out.new_ hb)
                     simp only [hu] at hc
                     have HCu := Lib.hid hc
                     clear hc
                     go_wp2_with fail
                     with_reducible refine (HCu.out _ (by (repeat (first | exact Below.refl _ _ | exact HB.out | refine Below.drew ?_ | refine Below.al ?_ _ | refine Below.sc ?_ _)))).mono ?_
                     rintro e w3 ⟨rfl, hb⟩
                     have hbs := Below.trans (show Below w2.heap.size w2 _ from (by (repeat (first | exact Below.refl _ _ | refine Below.drew ?_ | refine Below.al ?_ _ | refine Below.sc ?_ _)))) (hb.mono (by simp <;> omega))
                     have Kx := Lib.hid (Kx.out.new_ hbs)
                     have HB := Lib.hid (HB.out.trans (hbs.mono HB.out.size))
                     have hsz3 := hbs.size
                     clear x0 x1 x2 x3 x4 x5 x6 xz hb hbs
                     obtain ⟨x0, x1, x2, x3, x4, x5, x6⟩ := Kx.out.c7
                     have xz := Kx.out.lt
                     have HTu := Lib.hid hu
                     clear hu
                     have HR := Lib.hid (show condE x deep = 9 by simp [condE, Hk.out, H12.out, Hc.out, HW.out, HNd.out, He.out, Hf.out, HTt.out, HTu.out])
                     go_wp2_with fail
                     go_ret
                     exact ⟨by rw [HR.out] <;> rfl, by (repeat (first | exact Below.refl _ _ | exact HB.out | refine Below.drew ?_ | refine Below.al ?_ _ | refine Below.sc ?_ _))⟩
                   · skip
                     have hc := fun W (hb : Below w.heap.size w W) => rtests_is A2 c2 x.value W (H2.out.new_ hb)
                     simp only [hu] at hc
                     have HCu := Lib.hid hc
                     clear hc
                     go_wp2_with fail
                     with_reducible refine (HCu.out _ (by (repeat (first | exact Below.refl _ _ | exact HB.out | refine Below.drew ?_ | refine Below.al ?_ _ | refine Below.sc ?_ _)))).mono ?_
                     rintro e w3 ⟨rfl, hb⟩
                     have hbs := Below.trans (show Below w2.heap.size w2 _ from (by (repeat (first | exact Below.refl _ _ | refine Below.drew ?_ | refine Below.al ?_ _ | refine Below.sc ?_ _)))) (hb.mono (by simp <;> omega))
                     have Kx := Lib.hid (Kx.out.new_ hbs)
                     have HB := Lib.hid (HB.out.trans (hbs.mono HB.out.size))
                     have hsz3 := hbs.size
                     clear x0 x1 x2 x3 x4 x5 x6 xz hb hbs
                     obtain ⟨x0, x1, x2, x3, x4, x5, x6⟩ := Kx.out.c7
                     have xz := Kx.out.lt
                     have HTu := Lib.hid hu
                     clear hu
                     have HR := Lib.hid (show condE x deep = 0 by simp [condE, Hk.out, H12.out, Hc.out, HW.out, HNd.out, He.out, Hf.out, HTt.out, HTu.out])
                     go_wp2_with fail
                     go_ret
                     exact ⟨by rw [HR.out] <;> rfl, by (repeat (first | exact Below.refl _ _ | exact HB.out | refine Below.drew ?_ | refine Below.al ?_ _ | refine Below.sc ?_ _))⟩
end Go.Proofs.YtffemfglngikbaaGreat
namespace Go.Proofs.YtffemfglngikbaaGreat
open Go.RowKit Go.Shelf
def firstE : Int → List (Nat × CondT) → Int × Int
 | _, [] => (-1, 0)
 | n, c :: r => if condE c.2 c.1 ≠ 0 then (n, condE c.2 c.1) else firstE (n + 1) r
theorem firstE_app : ∀ (n : Int) (a b : List (Nat × CondT)), (firstE n a).2 = 0 → firstE n (a ++ b) = firstE (n + (a.length : Nat)) b
 | n, [], b, _ => by simp
 | n, c :: a, b, h => by
   rw [List.cons_append, firstE]
   rw [firstE] at h
   by_cases hc : condE c.2 c.1 ≠ 0
   · rw [if_pos hc] at h; exact absurd h hc
   · rw [if_neg hc] at h
     rw [if_neg hc, firstE_app (n + 1) a b h, List.length_cons]
     congr 1; omega
theorem firstE_stop : ∀ (n : Int) (a b : List (Nat × CondT)), (firstE n a).2 ≠ 0 → firstE n (a ++ b) = firstE n a
 | n, [], b, h => absurd rfl h
 | n, c :: a, b, h => by
   rw [List.cons_append, firstE, firstE]
   rw [firstE] at h
   by_cases hc : condE c.2 c.1 ≠ 0
   · rw [if_pos hc, if_pos hc]
   · rw [if_neg hc] at h
     rw [if_neg hc, if_neg hc, firstE_stop (n + 1) a b h]
theorem firstE_shape : ∀ (n : Int) (l : List (Nat × CondT)), firstE n l = (match l.findIdx? (fun c => decide (condE c.2 c.1 ≠ 0)) with
 | some k => (n + k, ((l[k]?).map fun c => condE c.2 c.1).getD 0)
 | none => (-1, 0))
 | n, [] => rfl
 | n, c :: r => by
   rw [firstE, List.findIdx?_cons]
   by_cases hc : condE c.2 c.1 ≠ 0
   · rw [if_pos hc, if_pos (decide_eq_true hc)]; simp
   · rw [if_neg hc, if_neg (by simpa using hc), firstE_shape (n + 1) r]
     cases r.findIdx? (fun c => decide (condE c.2 c.1 ≠ 0)) with
     | none => rfl
     | some k => simp only [Option.map_some, List.getElem?_cons_succ]; congr 1; push_cast; omega
theorem conds_zero {D : Nat → Prop} {w : World} {A : Option Addr} {c : Nat} {l : List CondT} (h : RowR (repCondT 0) D w A c l) : l = [] := by
 cases l with
 | nil => rfl
 | cons x l =>
   obtain ⟨b, off, cs, _, _, _, hr, _⟩ := h.at_ (k := 0) (by simp)
   exact hr.elim
theorem flatC_all (n d : Nat) (l : List CondT) (i : Nat) (hi : i < l.length) : flatC (n + 1) d l = flatC (n + 1) d (l.take i) ++ ((d, l[i]) :: flatC n (d + 1) l[i].conds ++ flatC (n + 1) d (l.drop (i + 1))) := by
 rw [← List.append_assoc, ← flatC_snoc n d l i hi]
 conv => lhs; rw [← List.take_append_drop (i + 1) l]
 rw [flatC_succ, flatC_succ, flatC_succ, List.flatMap_append]
set_option maxRecDepth 100000 in
set_option maxHeartbeats 4000000 in
theorem rsize_is : ∀ (n : Nat) (D : Nat → Prop) (A : Option Addr) (c : Nat) (d : Nat) (l : List CondT) (w : World), RowR (repCondT n) D w A c l → (flatC n d l).length ≤ 1000000 →
 Calls Tryz.prog 88 #[.slice A l.length c] w fun e w' => e = .returned (.int .i64 ((flatC n d l).length : Nat)) ∧ w = w' := by
 intro n
 induction n with
 | zero =>
   intro D A c d l w h _
   obtain rfl := conds_zero h
   clear h
   have HR := Lib.hid (show (((flatC 0 d []).length : Nat) : Int) = 0 from rfl)
   go_enter Tryz.func88, Tryz.ntmps88
   go_wp2_with fail
   go_loopw [3, 4] (fun a s wr => s = .int .i64 0 ∧ a = .int .i64 0 ∧ wr = w) (fun a s wr => 0)
   case atStart => exact ⟨rfl, rfl, rfl⟩
   case round =>
    obtain ⟨rfl, rfl, rfl⟩ := hrel
    go_wp2_with fail
    go_ret
    exact ⟨by rw [HR.out]; rfl, rfl⟩
 | succ n ih =>
   intro D A c d l w h hle
   have IH := Lib.hid ih
   have H := Lib.hid h
   have hlc := h.cap
   obtain ⟨tot, htot⟩ : ∃ tot, tot = (flatC (n + 1) d l).length := ⟨_, rfl⟩
   rw [← htot] at hle ⊢
   have HT := Lib.hid htot
   clear h ih htot
   go_enter Tryz.func88, Tryz.ntmps88
   go_wp2_with fail
   go_loopw [3, 4] (fun a s wr => ∃ i m : Nat, s = .int .i64 i ∧ i ≤ l.length ∧ a = .int .i64 (m : Int) ∧ m = (flatC (n + 1) d (l.take i)).length ∧ wr = w) (fun a s wr => l.length - (intOf s).toNat)
   case atStart => exact ⟨0, 0, rfl, Nat.zero_le _, rfl, by simp [flatC], rfl⟩
   case round =>
    obtain ⟨i, m, rfl, hi, rfl, hm, rfl⟩ := hrel
    have HM := Lib.hid hm
    clear hm
    by_cases hlt : i < l.length
    · obtain ⟨x, hx⟩ : ∃ x, x = l[i] := ⟨_, rfl⟩
      obtain ⟨mi, hmi⟩ : ∃ mi, mi = (flatC n (d + 1) x.conds).length := ⟨_, rfl⟩
      have hall := flatC_all n d l i hlt
      have hsn := flatC_snoc n d l i hlt
      rw [← hx] at hall hsn
      have HM1 := Lib.hid (show m + (1 + mi) = (flatC (n + 1) d (l.take (i + 1))).length by rw [hsn, List.length_append, List.length_cons, ← HM.out, ← hmi]; omega)
      have hmt : m + (1 + mi) ≤ tot := by
       rw [HT.out, hall, List.length_append, List.length_append, List.length_cons, ← HM.out, ← hmi]; omega
      obtain ⟨g, off, A1, c1, A2, c2, A3, c3, rfl, _, hgs, q0, q1, q2, q3, q4, q5, q6, r1, r2, r3⟩ := at_CondT H.out hlt
      rw [← hx] at q6 r3
      have hn3 := r3.cap
      have HCL := Lib.hid (show Calls Tryz.prog 88 #[.slice A3 x.conds.length c3] wr fun e w' => e = .returned (.int .i64 (mi : Int)) ∧ wr = w' by
       have := IH.out D A3 c3 (d + 1) x.conds wr r3 (by omega)
       rw [hmi]
       exact this)
      have b1 : (0 : Int) ≤ (i : Int) := by omega
      have b2 : (i : Int) < (l.length : Int) := by omega
      have v3 : IntKind.i64.wrap (1 + (mi : Int)) = 1 + (mi : Int) := IntWalk.i64_in _ (by omega)
      have v4 : IntKind.i64.wrap ((m : Int) + (1 + (mi : Int))) = (m : Int) + (1 + (mi : Int)) := IntWalk.i64_in _ (by omega)
      clear hx hmi hall hsn r1 r2 r3 q0 q1 q2 q3 q4 q5
      go_wp2_with fail
      refine HCL.out.mono ?_
      rintro e w2 ⟨rfl, rfl⟩
      go_wp2_with fail
      go_roundw
      case rel => exact ⟨i + 1, m + (1 + mi), by go_num, by omega, by push_cast; rfl, HM1.out, by trivial⟩
      case measure => simp [intOf] <;> omega
    · have hie : i = l.length := by omega
      subst hie
      have HR := Lib.hid (show m = tot by rw [HM.out, HT.out, List.take_length])
      go_wp2_with fail
      go_ret
      exact ⟨by rw [HR.out]; rfl, rfl⟩
set_option maxRecDepth 100000 in
set_option maxHeartbeats 8000000 in
theorem rconds_is : ∀ (n : Nat) (D : Nat → Prop) (A : Option Addr) (c : Nat) (d : Nat) (k : Nat) (l : List CondT) (w : World), RowR (repCondT n) D w A c l → k + (flatC n d l).length ≤ 1000000 → d + n ≤ 1000000 →
 Calls Tryz.prog 105 #[.slice A l.length c, .int .i64 (k : Int), .int .i64 (d : Int)] w fun e w' => e = .returned (.tuple #[.int .i64 (firstE k (flatC n d l)).1, .int .i64 (firstE k (flatC n d l)).2]) ∧ Below w.heap.size w w' := by
 intro n
 induction n with
 | zero =>
   intro D A c d k l w h _ _
   obtain rfl := conds_zero h
   clear h
   have HR := Lib.hid (show firstE k (flatC 0 d []) = (-1, 0) from rfl)
   go_enter Tryz.func105, Tryz.ntmps105
   go_wp2_with fail
   go_loopw [1, 8] (fun a s wr => s = .int .i64 0 ∧ a = .int .i64 (k : Int) ∧ wr = w) (fun a s wr => 0)
   case atStart => exact ⟨rfl, rfl, rfl⟩
   case round =>
    obtain ⟨rfl, rfl, rfl⟩ := hrel
    go_wp2_with fail
    exact bodyPost_ret (v := .tuple #[.int .i64 (-1), .int .i64 0]) (by simp [results, Tryz.results105, go_sem, *]) rfl ⟨by rw [HR.out], Below.refl _ _⟩
 | succ n ih =>
   intro D A c d k l w h hle hdn
   have IH := Lib.hid ih
   have H := Lib.hid h
   have hlc := h.cap
   obtain ⟨fl, hfl⟩ : ∃ fl, fl = flatC (n + 1) d l := ⟨_, rfl⟩
   rw [← hfl] at hle ⊢
   have HT := Lib.hid hfl
   clear h ih hfl
   go_enter Tryz.func105, Tryz.ntmps105
   go_wp2_with fail
   go_loopw [1, 8] (fun a s wr => ∃ i m : Nat, s = .int .i64 i ∧ i ≤ l.length ∧ a = .int .i64 (m : Int) ∧ m = k + (flatC (n + 1) d (l.take i)).length ∧ (firstE k (flatC (n + 1) d (l.take i))).2 = 0 ∧ Below w.heap.size w wr) (fun a s wr => l.length - (intOf s).toNat)
   case atStart => exact ⟨0, k, rfl, Nat.zero_le _, rfl, by simp [flatC], by simp [flatC, firstE], Below.refl _ _⟩
   case round =>
    obtain ⟨i, m, rfl, hi, rfl, hm, hz, hB⟩ := hrel
    have HM := Lib.hid hm
    have HZ := Lib.hid hz
    have HB := Lib.hid hB
    clear hm hz hB
    by_cases hlt : i < l.length
    · obtain ⟨x, hx⟩ : ∃ x, x = l[i] := ⟨_, rfl⟩
      obtain ⟨fi, hfi⟩ : ∃ fi, fi = flatC n (d + 1) x.conds := ⟨_, rfl⟩
      have hall := flatC_all n d l i hlt
      have hsn := flatC_snoc n d l i hlt
      rw [← hx, ← hfi] at hall hsn
      have hmt : m + (1 + fi.length) ≤ k + fl.length := by
       rw [HT.out, hall, List.length_append, List.length_append, List.length_cons, HM.out]; omega
      have HM1 := Lib.hid (show m + (1 + fi.length) = k + (flatC (n + 1) d (l.take (i + 1))).length by rw [hsn, List.length_append, List.length_cons, HM.out]; omega)
      have HFL := Lib.hid (show ∀ r, firstE m ((d, x) :: fi) = r → r.2 ≠ 0 → firstE k fl = r by
       intro r h1 h2
       rw [HT.out, hall, firstE_app _ _ _ HZ.out, show (k : Int) + ((flatC (n + 1) d (l.take i)).length : Nat) = (m : Nat) by rw [HM.out]; push_cast; rfl, firstE_stop _ _ _ (by rw [h1]; exact h2), h1])
      have HZ1 := Lib.hid (show (firstE m ((d, x) :: fi)).2 = 0 → (firstE k (flatC (n + 1) d (l.take (i + 1)))).2 = 0 by
       intro h1
       rw [hsn, firstE_app _ _ _ HZ.out, show (k : Int) + ((flatC (n + 1) d (l.take i)).length : Nat) = (m : Nat) by rw [HM.out]; push_cast; rfl, h1])
      obtain ⟨g, off, A1, c1, A2, c2, A3, c3, rfl, _, hgs, q0, q1, q2, q3, q4, q5, q6, r1, r2, r3⟩ := at_CondT (H.out.new_ HB.out) hlt
      rw [← hx] at q0 q1 q2 q3 q4 q5 q6 r1 r2 r3
      have hn3 := r3.cap
      have HR1 := Lib.hid r1
      have HR2 := Lib.hid r2
      have HR3 := Lib.hid r3
      have HCL := Lib.hid (show ∀ W, Below wr.heap.size wr W → Calls Tryz.prog 105 #[.slice A3 x.conds.length c3, .int .i64 ((m : Int) + 1), .int .i64 ((d : Int) + 1)] W fun e w' => e = .returned (.tuple #[.int .i64 (firstE ((m : Int) + 1) fi).1, .int .i64 (firstE ((m : Int) + 1) fi).2]) ∧ Below W.heap.size W w' by
       intro W hb
       have := IH.out D A3 c3 (d + 1) (m + 1) x.conds W (HR3.out.new_ hb) (by rw [← hfi]; omega) (by omega)
       rw [← hfi] at this
       exact this)
      have HSZ := Lib.hid (show ∀ W, Below wr.heap.size wr W → Calls Tryz.prog 88 #[.slice A3 x.conds.length c3] W fun e w' => e = .returned (.int .i64 (fi.length : Nat)) ∧ W = w' by
       intro W hb
       have := rsize_is n D A3 c3 (d + 1) x.conds W (HR3.out.new_ hb) (by rw [← hfi]; omega)
       rw [hfi]
       exact this)
      have HCE := Lib.hid (show firstE m ((d, x) :: fi) = if condE x d ≠ 0 then ((m : Int), condE x d) else firstE ((m : Int) + 1) fi from rfl)
      have b1 : (0 : Int) ≤ (i : Int) := by omega
      have b2 : (i : Int) < (l.length : Int) := by omega
      have v1 : IntKind.i64.wrap ((m : Int) + 1) = (m : Int) + 1 := IntWalk.i64_in _ (by omega)
      have v2 : IntKind.i64.wrap ((d : Int) + 1) = (d : Int) + 1 := IntWalk.i64_in _ (by omega)
      have v3 : IntKind.i64.wrap (1 + (fi.length : Int)) = 1 + (fi.length : Int) := IntWalk.i64_in _ (by omega)
      have v4 : IntKind.i64.wrap ((m : Int) + (1 + (fi.length : Int))) = (m : Int) + (1 + (fi.length : Int)) := IntWalk.i64_in _ (by omega)
      have hzr := HB.out.size
      clear hx hfi hall hsn r1 r2 r3
      obtain ⟨e1, he1⟩ : ∃ e1, e1 = condE x d := ⟨_, rfl⟩
      rw [← he1] at HCE
      have HE1 := Lib.hid he1
      clear he1
      go_wp2_with fail
      refine (rcond_is x d A1 A2 A3 c1 c2 c3 wr HR1.out HR2.out hn3).mono ?_
      rintro e w2 ⟨rfl, hb⟩
      rw [← HE1.out]
      have HB2 := Lib.hid hb
      have q6' := (hb.cell (p := ⟨g, off + i * 7 + 6, none⟩) hgs).trans q6
      have hgs2 : g < w2.heap.size := Nat.lt_of_lt_of_le hgs hb.size
      clear hb q0 q1 q2 q3 q4 q5 q6
      by_cases hz1 : e1 = 0
      · have t1 : (e1 != 0) = false := by simp [hz1]
        have t2 : (e1 == 0) = true := by simp [hz1]
        have HC2 := Lib.hid (show firstE m ((d, x) :: fi) = firstE ((m : Int) + 1) fi by rw [HCE.out, if_neg (by simpa using hz1)])
        clear hz1
        go_wp2_with fail
        refine (HCL.out w2 HB2.out).mono ?_
        rintro e w3 ⟨rfl, hb⟩
        obtain ⟨⟨r1, r2⟩, hr⟩ : ∃ r, r = firstE ((m : Int) + 1) fi := ⟨_, rfl⟩
        rw [← hr] at HC2 ⊢
        have HB3 := Lib.hid (HB2.out.trans (hb.mono HB2.out.size))
        have q7 := (hb.cell (p := ⟨g, off + i * 7 + 6, none⟩) hgs2).trans q6'
        have hgs3 : g < w3.heap.size := Nat.lt_of_lt_of_le hgs2 hb.size
        clear hb hr q6'
        dsimp only
        by_cases hz2 : r2 = 0
        · have t3 : (r2 != 0) = false := by simp [hz2]
          have t4 : (r2 == 0) = true := by simp [hz2]
          have HZ2 := Lib.hid (HZ1.out (by rw [HC2.out]; exact hz2))
          clear hz2
          go_wp2_with fail
          refine (HSZ.out w3 HB3.out).mono ?_
          rintro e w0 ⟨rfl, rfl⟩
          go_wp2_with fail
          go_roundw
          case rel => exact ⟨i + 1, m + (1 + fi.length), by go_num, by omega, by push_cast; rfl, HM1.out, HZ2.out, HB.out.trans (HB3.out.mono hzr)⟩
          case measure => simp [intOf] <;> omega
        · have t3 : (r2 != 0) = true := by simp [hz2]
          have t4 : (r2 == 0) = false := by simp [hz2]
          have HF := Lib.hid (HFL.out _ HC2.out hz2)
          clear hz2
          go_wp2_with fail
          exact bodyPost_ret (v := .tuple #[.int .i64 r1, .int .i64 r2]) (by simp [results, Tryz.results105, go_sem, *]) rfl ⟨by rw [HF.out], HB.out.trans (HB3.out.mono hzr)⟩
      · have t1 : (e1 != 0) = true := by simp [hz1]
        have t2 : (e1 == 0) = false := by simp [hz1]
        have HF := Lib.hid (HFL.out ((m : Int), e1) (by rw [HCE.out, if_pos hz1]) hz1)
        clear hz1
        go_wp2_with fail
        exact bodyPost_ret (v := .tuple #[.int .i64 (m : Int), .int .i64 e1]) (by simp [results, Tryz.results105, go_sem, *]) rfl ⟨by rw [HF.out], HB.out.trans (HB2.out.mono hzr)⟩
    · have hie : i = l.length := by omega
      subst hie
      have HF := Lib.hid (show firstE k fl = (-1, 0) by
       have h1 := HZ.out
       rw [List.take_length, ← HT.out] at h1
       have : ∀ (n : Int) (l : List (Nat × CondT)), (firstE n l).2 = 0 → firstE n l = (-1, 0) := by
        intro n l
        induction l generalizing n with
        | nil => intro _; rfl
        | cons c l ih =>
          intro h
          rw [firstE] at h ⊢
          by_cases hc : condE c.2 c.1 ≠ 0
          · rw [if_pos hc] at h; exact absurd h hc
          · rw [if_neg hc] at h ⊢; exact ih _ h
       exact this _ _ h1)
      go_wp2_with fail
      exact bodyPost_ret (v := .tuple #[.int .i64 (-1), .int .i64 0]) (by simp [results, Tryz.results105, go_sem, *]) rfl ⟨by rw [HF.out], HB.out⟩
end Go.Proofs.YtffemfglngikbaaGreat
namespace Go.Proofs.YtffemfglngikbaaGreat
open Go.RowKit Go.Shelf
attribute [local go_sem] Oper.semAt_some
theorem shapeP_first {n : Nat} {p : ProdT} {F : List (Nat × CondT)} (hF : F = flatC n 0 p.conds) (hw : isWord p.name = true) (h : ¬ (F.length < 1 ∨ 16 < F.length ∨ p.acts.length < 1 ∨ 16 < p.acts.length)) :
 shapeP n p = if (firstE 0 F).2 ≠ 0 then firstE 0 F else match p.acts.findIdx? (fun a => !actB a) with
  | some i => (F.length + i, 9)
  | none => (-1, 0) := by
 unfold shapeP
 rw [← hF, if_neg (by rw [hw]; simp), if_neg h, firstE_shape]
 cases hfi : F.findIdx? (fun c => decide (condE c.2 c.1 ≠ 0)) with
 | none =>
   simp
   cases p.acts.findIdx? (fun a => !actB a) <;> rfl
 | some k =>
   obtain ⟨hk, h1, _⟩ := List.findIdx?_eq_some_iff_getElem.1 hfi
   have h1' : condE F[k].2 F[k].1 ≠ 0 := by simpa using h1
   simp [List.getElem?_eq_getElem hk, h1']
theorem ract_row {D : Nat → Prop} {w : World} {A : Option Addr} {c i : Nat} {l : List ActT} (h : RowR repActT D w A c l) (hi : i < l.length) : ∃ g off, A = some ⟨g, off, none⟩ ∧ D g ∧ g < w.heap.size ∧ w.rangeAt g (off + i * 19) (ActT.cells l[i]) := by
 obtain ⟨g, off, cs, e1, hd, hg, hr, hc⟩ := h.at_ hi
 have hr2 : cs = ActT.cells l[i] := hr
 subst hr2
 exact ⟨g, off, e1, hd, hg, fun j v hv => hc j v hv⟩
set_option maxRecDepth 100000 in
set_option maxHeartbeats 8000000 in
theorem rshape_is {D : Nat → Prop} (p : ProdT) (n : Nat) (A1 A2 : Option Addr) (c1 c2 : Nat) (w : World) (h1 : RowR (repCondT n) D w A1 c1 p.conds) (h2 : RowR repActT D w A2 c2 p.acts) (hF : (flatC n 0 p.conds).length ≤ 1000000) (hn : n ≤ 1000000) :
 Calls Tryz.prog 43 #[.agg #[.string p.name, .slice A1 p.conds.length c1, .slice A2 p.acts.length c2]] w fun e w' => e = .returned (.tuple #[.int .i64 (shapeP n p).1, .int .i64 (shapeP n p).2]) ∧ Below w.heap.size w w' := by
 have H1 := Lib.hid h1
 have H2 := Lib.hid h2
 have hl2 := h2.cap
 have hl1 := h1.cap
 clear h1 h2
 obtain ⟨F, hFd⟩ : ∃ F, F = flatC n 0 p.conds := ⟨_, rfl⟩
 have HFD := Lib.hid hFd
 rw [← hFd] at hF
 clear hFd
 have HSZ := Lib.hid (show ∀ W, Below w.heap.size w W → Calls Tryz.prog 88 #[.slice A1 p.conds.length c1] W fun e w' => e = .returned (.int .i64 (F.length : Nat)) ∧ W = w' by
  intro W hb
  have := rsize_is n D A1 c1 0 p.conds W (H1.out.new_ hb) (by rw [← HFD.out]; omega)
  rw [← HFD.out] at this
  exact this)
 have HCN := Lib.hid (show ∀ W, Below w.heap.size w W → Calls Tryz.prog 105 #[.slice A1 p.conds.length c1, .int .i64 0, .int .i64 0] W fun e w' => e = .returned (.tuple #[.int .i64 (firstE 0 F).1, .int .i64 (firstE 0 F).2]) ∧ Below W.heap.size W w' by
  intro W hb
  have := rconds_is n D A1 c1 0 0 p.conds W (H1.out.new_ hb) (by rw [← HFD.out]; omega) (by omega)
  rw [← HFD.out] at this
  exact this)
 have HBAD := Lib.hid (show isWord p.name = true → (F.length < 1 ∨ 16 < F.length ∨ p.acts.length < 1 ∨ 16 < p.acts.length) → shapeP n p = (-1, 7) by
  intro hw h
  unfold shapeP
  rw [if_neg (by rw [hw]; simp), ← HFD.out, if_pos h])
 go_enter Tryz.func43, Tryz.ntmps43
 go_upto_region 1 with fail
 obtain ⟨w1, hw1⟩ : ∃ w1, w1 = (w.alloc (.cells #[.string p.name, .slice A1 p.conds.length c1, .slice A2 p.acts.length c2] 25)) := ⟨_, rfl⟩
 rw [← hw1]
 have HB := Lib.hid (show Below w.heap.size w w1 by rw [hw1]; exact (by repeat (first | exact Below.refl _ _ | refine Below.drew ?_ | refine Below.al ?_ _ | refine Below.sc ?_ _)))
 have Kp := Lib.hid (show Blk w1 (w.heap.size) 25 #[.string p.name, .slice A1 p.conds.length c1, .slice A2 p.acts.length c2] by rw [hw1]; exact (Blk.new w 25 #[.string p.name, .slice A1 p.conds.length c1, .slice A2 p.acts.length c2]))
 clear hw1
 obtain ⟨p0, p1, p2⟩ := Kp.out.c3
 have pz := Kp.out.lt
 cases hw : isWord p.name
 · skip
   have hc := fun W => rword_is p.name W
   simp only [hw] at hc
   have HC := Lib.hid hc
   clear hc
   go_wp2_with fail
   with_reducible refine (HC.out _).mono ?_
   rintro e w0 ⟨rfl, rfl⟩
   have HR := Lib.hid (show shapeP n p = (-1, 2) by unfold shapeP; rw [if_pos hw])
   clear hw
   go_wp2_with fail
   exact bodyPost_ret (v := .tuple #[.int .i64 (-1), .int .i64 2]) (by simp [results, Tryz.results43, go_sem, *]) rfl ⟨by rw [HR.out], by (repeat (first | exact Below.refl _ _ | exact HB.out | refine Below.drew ?_ | refine Below.al ?_ _ | refine Below.sc ?_ _))⟩
 · skip
   have hc := fun W => rword_is p.name W
   simp only [hw] at hc
   have HC := Lib.hid hc
   clear hc
   go_wp2_with fail
   with_reducible refine (HC.out _).mono ?_
   rintro e w0 ⟨rfl, rfl⟩
   have HW := Lib.hid hw
   clear hw
   go_wp2_with fail
   with_reducible refine (HSZ.out _ (by (repeat (first | exact Below.refl _ _ | exact HB.out | refine Below.drew ?_ | refine Below.al ?_ _ | refine Below.sc ?_ _)))).mono ?_
   rintro e w0 ⟨rfl, rfl⟩
   by_cases ha : F.length < 1
   · skip
     have aa : decide ((F.length : Int) < 1) = true := decide_eq_true (by omega)
     have ab : decide (F.length < 1) = true := decide_eq_true (by omega)
     have HR := Lib.hid (HBAD.out HW.out (by omega))
     have hzz : F.length = 0 := by omega
     have HZZ := Lib.hid hzz
     clear hzz
     clear ha
     go_wp2_with fail
     exact bodyPost_ret (v := .tuple #[.int .i64 (-1), .int .i64 7]) (by simp [results, Tryz.results43, go_sem, *]) rfl ⟨by rw [HR.out], by (repeat (first | exact Below.refl _ _ | exact HB.out | refine Below.drew ?_ | refine Below.al ?_ _ | refine Below.sc ?_ _))⟩
   · skip
     have aa : decide ((F.length : Int) < 1) = false := decide_eq_false (by omega)
     have ab : decide (F.length < 1) = false := decide_eq_false (by omega)
     have Ha := Lib.hid ha
     clear ha
     by_cases hb : 16 < F.length
     · skip
       have ba : decide ((16 : Int) < (F.length : Int)) = true := decide_eq_true (by omega)
       have bb : decide (16 < F.length) = true := decide_eq_true (by omega)
       have HR := Lib.hid (HBAD.out HW.out (by omega))
       clear hb
       go_wp2_with fail
       exact bodyPost_ret (v := .tuple #[.int .i64 (-1), .int .i64 7]) (by simp [results, Tryz.results43, go_sem, *]) rfl ⟨by rw [HR.out], by (repeat (first | exact Below.refl _ _ | exact HB.out | refine Below.drew ?_ | refine Below.al ?_ _ | refine Below.sc ?_ _))⟩
     · skip
       have ba : decide ((16 : Int) < (F.length : Int)) = false := decide_eq_false (by omega)
       have bb : decide (16 < F.length) = false := decide_eq_false (by omega)
       have Hb := Lib.hid hb
       clear hb
       by_cases hc : p.acts.length < 1
       · skip
         have ca : decide ((p.acts.length : Int) < 1) = true := decide_eq_true (by omega)
         have cb : decide (p.acts.length < 1) = true := decide_eq_true (by omega)
         have HR := Lib.hid (HBAD.out HW.out (by omega))
         have hzz : p.acts.length = 0 := by omega
         have HZZ := Lib.hid hzz
         clear hzz
         clear hc
         go_wp2_with fail
         exact bodyPost_ret (v := .tuple #[.int .i64 (-1), .int .i64 7]) (by simp [results, Tryz.results43, go_sem, *]) rfl ⟨by rw [HR.out], by (repeat (first | exact Below.refl _ _ | exact HB.out | refine Below.drew ?_ | refine Below.al ?_ _ | refine Below.sc ?_ _))⟩
       · skip
         have ca : decide ((p.acts.length : Int) < 1) = false := decide_eq_false (by omega)
         have cb : decide (p.acts.length < 1) = false := decide_eq_false (by omega)
         have Hc := Lib.hid hc
         clear hc
         by_cases hd : 16 < p.acts.length
         · skip
           have da : decide ((16 : Int) < (p.acts.length : Int)) = true := decide_eq_true (by omega)
           have db : decide (16 < p.acts.length) = true := decide_eq_true (by omega)
           have HR := Lib.hid (HBAD.out HW.out (by omega))
           clear hd
           go_wp2_with fail
           exact bodyPost_ret (v := .tuple #[.int .i64 (-1), .int .i64 7]) (by simp [results, Tryz.results43, go_sem, *]) rfl ⟨by rw [HR.out], by (repeat (first | exact Below.refl _ _ | exact HB.out | refine Below.drew ?_ | refine Below.al ?_ _ | refine Below.sc ?_ _))⟩
         · skip
           have da : decide ((16 : Int) < (p.acts.length : Int)) = false := decide_eq_false (by omega)
           have db : decide (16 < p.acts.length) = false := decide_eq_false (by omega)
           have Hd := Lib.hid hd
           clear hd
           have HS := Lib.hid (shapeP_first HFD.out HW.out (by have := Ha.out; have := Hb.out; have := Hc.out; have := Hd.out; omega))
           go_wp2_with fail
           with_reducible refine (HCN.out _ (by (repeat (first | exact Below.refl _ _ | exact HB.out | refine Below.drew ?_ | refine Below.al ?_ _ | refine Below.sc ?_ _)))).mono ?_
           rintro e w2 ⟨rfl, hb⟩
           have hbs := Below.trans (show Below w1.heap.size w1 _ from (by (repeat (first | exact Below.refl _ _ | refine Below.drew ?_ | refine Below.al ?_ _ | refine Below.sc ?_ _)))) (hb.mono (by simp <;> omega))
           have Kp := Lib.hid (Kp.out.new_ hbs)
           have HB := Lib.hid (HB.out.trans (hbs.mono HB.out.size))
           have hsz2 := hbs.size
           clear p0 p1 p2 pz hb hbs
           obtain ⟨p0, p1, p2⟩ := Kp.out.c3
           have pz := Kp.out.lt
           obtain ⟨⟨r1, r2⟩, hr⟩ : ∃ r, r = firstE 0 F := ⟨_, rfl⟩
           rw [← hr]
           have HRR := Lib.hid hr
           clear hr
           dsimp only
           by_cases hz : r2 = 0
           · skip
             have z0 : (r2 != 0) = false := by simp [hz]
             have z1 : (r2 == 0) = true := by simp [hz]
             have HQ := Lib.hid (show shapeP n p = match p.acts.findIdx? (fun a => !actB a) with | some i => (F.length + i, 9) | none => (-1, 0) by
              rw [HS.out, ← HRR.out]
              rw [if_neg (by simp [hz])])
             have HZ := Lib.hid hz
             clear hz
             go_wp2_with fail
             clear p0 p1 p2 pz 
             go_loopw [7] (fun s wr => ∃ i : Nat, s = .int .i64 i ∧ i ≤ p.acts.length ∧ (∀ k, (h : k < p.acts.length) → k < i → actB p.acts[k] = true) ∧ Below w.heap.size w wr ∧ Blk wr (w.heap.size) 25 #[.string p.name, .slice A1 p.conds.length c1, .slice A2 p.acts.length c2]) (fun s wr => p.acts.length - (intOf s).toNat)
             case atStart => exact ⟨0, rfl, Nat.zero_le _, fun k _ h => absurd h (by omega), HB.out, Kp.out⟩
             case round =>
              obtain ⟨i, rfl, hi, hall, hB, hK⟩ := hrel
              have HALL := Lib.hid hall
              have HB := Lib.hid hB
              have Kp := Lib.hid hK
              clear hall hB hK
              obtain ⟨p0, p1, p2⟩ := Kp.out.c3
              have pz := Kp.out.lt
              by_cases hlt : i < p.acts.length
              · skip
                obtain ⟨y, hy⟩ : ∃ y, y = p.acts[i] := ⟨_, rfl⟩
                obtain ⟨g, off, rfl, _, hg, hrg⟩ := ract_row (H2.out.new_ HB.out) hlt
                rw [← hy] at hrg
                have HRG := Lib.hid (show wr.rangeAt g (off + i * 19) [.string y.id, .string y.attr.var, .int .i64 y.attr.sym.kind, .string y.attr.sym.text, .int .i64 y.attr.sym.n, .int .i64 y.value.op, .string y.value.a.var, .int .i64 y.value.a.sym.kind, .string y.value.a.sym.text, .int .i64 y.value.a.sym.n, .string y.value.b.var, .int .i64 y.value.b.sym.kind, .string y.value.b.sym.text, .int .i64 y.value.b.sym.n, .int .i64 y.pref, .string y.other.var, .int .i64 y.other.sym.kind, .string y.other.sym.text, .int .i64 y.other.sym.n] from hrg)
                have HY := Lib.hid hy
                have b1 : (0 : Int) ≤ (i : Int) := by omega
                have b2 : (i : Int) < (p.acts.length : Int) := by omega
                have v1 : IntKind.i64.wrap ((F.length : Int) + (i : Int)) = (F.length : Int) + (i : Int) := IntWalk.i64_in _ (by have := Hd.out; omega)
                clear hy hrg
                cases hab : actB y
                · skip
                  have hc := fun W => ract_is y W
                  simp only [hab] at hc
                  have HC := Lib.hid hc
                  clear hc
                  go_wp2_with (with_reducible refine wpList_load_mid rfl 99 _ rfl g (off + i * 19) rfl [.string y.id, .string y.attr.var, .int .i64 y.attr.sym.kind, .string y.attr.sym.text, .int .i64 y.attr.sym.n, .int .i64 y.value.op, .string y.value.a.var, .int .i64 y.value.a.sym.kind, .string y.value.a.sym.text, .int .i64 y.value.a.sym.n, .string y.value.b.var, .int .i64 y.value.b.sym.kind, .string y.value.b.sym.text, .int .i64 y.value.b.sym.n, .int .i64 y.pref, .string y.other.var, .int .i64 y.other.sym.kind, .string y.other.sym.text, .int .i64 y.other.sym.n] _ HRG.out Tryz.underlying99 rfl (by kernel_rfl) ?_)
                  with_reducible refine (HC.out _).mono ?_
                  rintro e w3 ⟨rfl, hb⟩
                  have hbs := Below.trans (show Below wr.heap.size wr _ from (by (repeat (first | exact Below.refl _ _ | refine Below.drew ?_ | refine Below.al ?_ _ | refine Below.sc ?_ _)))) (hb.mono (by simp <;> omega))
                  have Kp := Lib.hid (Kp.out.new_ hbs)
                  have HB := Lib.hid (HB.out.trans (hbs.mono HB.out.size))
                  have hsz3 := hbs.size
                  clear p0 p1 p2 pz hb hbs
                  obtain ⟨p0, p1, p2⟩ := Kp.out.c3
                  have pz := Kp.out.lt
                  have HR := Lib.hid (show shapeP n p = ((F.length : Int) + (i : Nat), 9) by
                   have hfi : p.acts.findIdx? (fun a => !actB a) = some i := by
                    rw [List.findIdx?_eq_some_iff_getElem]
                    exact ⟨hlt, by rw [← HY.out, hab]; rfl, fun j hj => by rw [HALL.out j (by omega) hj]; simp⟩
                   rw [HQ.out, hfi])
                  clear hab
                  go_wp2_with fail
                  exact bodyPost_ret (v := .tuple #[.int .i64 ((F.length : Int) + (i : Int)), .int .i64 9]) (by simp [results, Tryz.results43, go_sem, *]) rfl ⟨by rw [HR.out], by (repeat (first | exact Below.refl _ _ | exact HB.out | refine Below.drew ?_ | refine Below.al ?_ _ | refine Below.sc ?_ _))⟩
                · skip
                  have hc := fun W => ract_is y W
                  simp only [hab] at hc
                  have HC := Lib.hid hc
                  clear hc
                  go_wp2_with (with_reducible refine wpList_load_mid rfl 99 _ rfl g (off + i * 19) rfl [.string y.id, .string y.attr.var, .int .i64 y.attr.sym.kind, .string y.attr.sym.text, .int .i64 y.attr.sym.n, .int .i64 y.value.op, .string y.value.a.var, .int .i64 y.value.a.sym.kind, .string y.value.a.sym.text, .int .i64 y.value.a.sym.n, .string y.value.b.var, .int .i64 y.value.b.sym.kind, .string y.value.b.sym.text, .int .i64 y.value.b.sym.n, .int .i64 y.pref, .string y.other.var, .int .i64 y.other.sym.kind, .string y.other.sym.text, .int .i64 y.other.sym.n] _ HRG.out Tryz.underlying99 rfl (by kernel_rfl) ?_)
                  with_reducible refine (HC.out _).mono ?_
                  rintro e w3 ⟨rfl, hb⟩
                  have hbs := Below.trans (show Below wr.heap.size wr _ from (by (repeat (first | exact Below.refl _ _ | refine Below.drew ?_ | refine Below.al ?_ _ | refine Below.sc ?_ _)))) (hb.mono (by simp <;> omega))
                  have Kp := Lib.hid (Kp.out.new_ hbs)
                  have HB := Lib.hid (HB.out.trans (hbs.mono HB.out.size))
                  have hsz3 := hbs.size
                  clear p0 p1 p2 pz hb hbs
                  obtain ⟨p0, p1, p2⟩ := Kp.out.c3
                  have pz := Kp.out.lt
                  have HCB := Lib.hid hab
                  clear hab
                  go_wp2_with fail
                  go_roundw
                  case rel => exact ⟨i + 1, by go_num, by omega, fun k hk hki => by
                   by_cases e : k = i
                   · subst e; rw [← HY.out]; exact HCB.out
                   · exact HALL.out k hk (by omega), HB.out, Kp.out⟩
                  case measure => simp [intOf] <;> omega
              · skip
                have hie : i = p.acts.length := by omega
                subst hie
                have HR := Lib.hid (show shapeP n p = (-1, 0) by
                 have hfi : p.acts.findIdx? (fun a => !actB a) = none := by
                  rw [List.findIdx?_eq_none_iff]
                  intro x hx
                  obtain ⟨k, hk, rfl⟩ := List.getElem_of_mem hx
                  rw [HALL.out k hk hk]; rfl
                 rw [HQ.out, hfi])
                go_wp2_with fail
                exact bodyPost_ret (v := .tuple #[.int .i64 (-1), .int .i64 0]) (by simp [results, Tryz.results43, go_sem, *]) rfl ⟨by rw [HR.out], by (repeat (first | exact Below.refl _ _ | exact HB.out | refine Below.drew ?_ | refine Below.al ?_ _ | refine Below.sc ?_ _))⟩
           · skip
             have z0 : (r2 != 0) = true := by simp [hz]
             have z1 : (r2 == 0) = false := by simp [hz]
             have HR := Lib.hid (show shapeP n p = (r1, r2) by
              rw [HS.out, ← HRR.out]
              rw [if_pos (by simpa using hz)])
             clear hz
             go_wp2_with fail
             exact bodyPost_ret (v := .tuple #[.int .i64 r1, .int .i64 r2]) (by simp [results, Tryz.results43, go_sem, *]) rfl ⟨by rw [HR.out], by (repeat (first | exact Below.refl _ _ | exact HB.out | refine Below.drew ?_ | refine Below.al ?_ _ | refine Below.sc ?_ _))⟩
end Go.Proofs.YtffemfglngikbaaGreat
namespace Go.Proofs.YtffemfglngikbaaGreat
open Go.RowKit Go.Shelf
section
variable {t t' t2 : ByteArray → ByteArray}
theorem one_comp {v : ByteArray} (h : ∀ x ∈ oneN v, t' (t x) = t2 x ∧ ¬ (t x).toList = []) : oneR t' (oneR t v) = oneR t2 v := by
 by_cases hv : v.toList = []
 · rw [oneR, oneR, oneR, if_pos hv, if_pos e0L, if_pos hv]
 · rw [oneN_yes hv] at h
   obtain ⟨h1, h2⟩ := h v (by simp)
   rw [oneR, oneR, oneR, if_neg hv, if_neg h2, if_neg hv, h1]
theorem tests_comp {l : List TestT} (h : ∀ x ∈ varsT l, t' (t x) = t2 x ∧ ¬ (t x).toList = []) : (l.map (testR t)).map (testR t') = l.map (testR t2) := by
 rw [List.map_map]
 refine List.map_congr_left fun x hx => ?_
 show TestT.mk x.rel (oneR t' (oneR t x.var)) x.sym x.list = _
 rw [one_comp (fun y hy => h y (List.mem_flatMap.2 ⟨x, hx, hy⟩))]
 rfl
theorem cond_comp : ∀ (n : Nat) (c : CondT), (∀ x ∈ namesN n c, t' (t x) = t2 x ∧ ¬ (t x).toList = []) → condR t' n (condR t n c) = condR t2 n c
 | 0, _, _ => rfl
 | n + 1, c, h => by
   have e : namesN (n + 1) c = oneN c.id ++ (varsT c.attr ++ (varsT c.value ++ c.conds.flatMap (namesN n))) := rfl
   rw [e] at h
   have h3 : (c.conds.map (condR t n)).map (condR t' n) = c.conds.map (condR t2 n) := by
    rw [List.map_map]
    exact List.map_congr_left fun x hx => cond_comp n x (fun y hy => h y (by simp only [List.mem_append, List.mem_flatMap]; exact .inr (.inr (.inr ⟨x, hx, hy⟩))))
   show CondT.mk c.kind c.goal (oneR t' (oneR t c.id)) ((c.attr.map (testR t)).map (testR t')) ((c.value.map (testR t)).map (testR t')) c.acc ((c.conds.map (condR t n)).map (condR t' n)) = _
   rw [one_comp (fun y hy => h y (by simp [hy])), tests_comp (fun y hy => h y (by simp [hy])), tests_comp (fun y hy => h y (by simp [hy])), h3]
   rfl
theorem act_comp (a : ActT) (h : ∀ x ∈ varsA a, t' (t x) = t2 x ∧ ¬ (t x).toList = []) : actR t' (actR t a) = actR t2 a := by
 rw [vars5] at h
 show ActT.mk (oneR t' (oneR t a.id)) ⟨oneR t' (oneR t a.attr.var), a.attr.sym⟩ ⟨a.value.op, ⟨oneR t' (oneR t a.value.a.var), a.value.a.sym⟩, ⟨oneR t' (oneR t a.value.b.var), a.value.b.sym⟩⟩ a.pref ⟨oneR t' (oneR t a.other.var), a.other.sym⟩ = _
 rw [one_comp (fun y hy => h y (by simp [hy])), one_comp (fun y hy => h y (by simp [hy])), one_comp (fun y hy => h y (by simp [hy])), one_comp (fun y hy => h y (by simp [hy])), one_comp (fun y hy => h y (by simp [hy]))]
 rfl
end
theorem ren_vars {t : ByteArray → ByteArray} (n : Nat) (p : ProdT) (nm : ByteArray) (h : ∀ x ∈ varsP n p, ¬ (t x).toList = []) : varsP n ⟨nm, (prodR t n p).conds, (prodR t n p).acts⟩ = (varsP n p).map t := by
 show ((p.conds.map (condR t n)).flatMap (namesN n)) ++ ((p.acts.map (actR t)).flatMap varsA) = ((p.conds.flatMap (namesN n)) ++ (p.acts.flatMap varsA)).map t
 rw [List.flatMap_map, List.flatMap_map, List.map_append, List.map_flatMap, List.map_flatMap]
 congr 1
 · exact fm_congr fun c hc => cond_names n c (fun y hy => h y (mem_varsC hc hy))
 · exact fm_congr fun a ha => act_names a (fun y hy => h y (mem_varsA ha hy))
theorem numT_map {t : ByteArray → ByteArray} {us : List ByteArray} (hn : us.Nodup) (hi : ∀ a b, a ∈ us → b ∈ us → t a = t b → a = b) {v : ByteArray} (hv : v ∈ us) : numT (us.map t) (t v) = numT us v := by
 have h2 : (us.map t).Nodup := by
  refine List.pairwise_map.2 (List.Pairwise.imp_of_mem ?_ hn)
  intro x y hx hy hne e
  exact hne (hi x y hx hy e)
 have h3 : ixOf (t v) (us.map t) = ixOf v us := ixOf_nodup h2 _ (by rw [List.getElem?_map, (ixOf_lt hv).2]; rfl)
 rw [numT, if_pos (List.mem_map_of_mem hv), h3, numT, if_pos hv]
theorem plain_ren {t : ByteArray → ByteArray} (n : Nat) (p : ProdT) (nm : ByteArray) (h : ∀ x ∈ varsP n p, ¬ (t x).toList = []) (hi : ∀ a b, a ∈ varsP n p → b ∈ varsP n p → t a = t b → a = b) : plainP n ⟨nm, (prodR t n p).conds, (prodR t n p).acts⟩ = plainP n p := by
 obtain ⟨us, hus⟩ : ∃ us, us = uq (varsP n p) := ⟨_, rfl⟩
 have hu : uq (varsP n ⟨nm, (prodR t n p).conds, (prodR t n p).acts⟩) = us.map t := by rw [ren_vars n p nm h, hus]; exact uq_map hi
 have hm : ∀ x, x ∈ us ↔ x ∈ varsP n p := fun x => by rw [hus]; exact uq_mem
 have hc : ∀ x ∈ varsP n p, numT (us.map t) (t x) = numT us x ∧ ¬ (t x).toList = [] := fun x hx => ⟨numT_map (by rw [hus]; exact uq_nodup _) (fun a b ha hb => hi a b ((hm a).1 ha) ((hm b).1 hb)) ((hm x).2 hx), h x hx⟩
 rw [plainP, hu, plainP, ← hus]
 congr 1
 · show (p.conds.map (condR t n)).map _ = _
   rw [List.map_map]
   exact List.map_congr_left fun c hcc => cond_comp n c (fun y hy => hc y (mem_varsC hcc hy))
 · show (p.acts.map (actR t)).map _ = _
   rw [List.map_map]
   exact List.map_congr_left fun a ha => act_comp a (fun y hy => hc y (mem_varsA ha hy))
def turnC (by_ : Nat) (c : UInt8) : UInt8 := UInt8.ofNat (97 + (c.toNat - 97 + by_) % 26)
def turnB (by_ : Nat) (v : ByteArray) : ByteArray := match v.data.toList with
 | [] => v
 | c :: r => if c.toNat < 97 ∨ 122 < c.toNat then v else ⟨⟨turnC by_ c :: r⟩⟩
theorem turnC_nat (k : Nat) (c : UInt8) : (turnC k c).toNat = 97 + (c.toNat - 97 + k) % 26 := by
 have h := Nat.mod_lt (c.toNat - 97 + k) (show 0 < 26 by decide)
 simp only [turnC, UInt8.toNat_ofNat']
 omega
theorem turnC_inj {k : Nat} {a b : UInt8} (ha : 97 ≤ a.toNat ∧ a.toNat ≤ 122) (hb : 97 ≤ b.toNat ∧ b.toNat ≤ 122) (h : turnC k a = turnC k b) : a = b := by
 have h1 := congrArg UInt8.toNat h
 rw [turnC_nat, turnC_nat] at h1
 apply UInt8.toNat.inj
 omega
theorem turnB_list (k : Nat) (v : ByteArray) : (turnB k v).data.toList = match v.data.toList with
 | [] => []
 | c :: r => (if c.toNat < 97 ∨ 122 < c.toNat then c else turnC k c) :: r := by
 unfold turnB
 cases h : v.data.toList with
 | nil => simpa using h
 | cons c r =>
   simp only
   split
   · exact h
   · rfl
theorem turnB_no {k : Nat} {v : ByteArray} (h : ¬ v.toList = []) : ¬ (turnB k v).toList = [] := by
 rw [ByteArray.toList_eq] at h ⊢
 rw [turnB_list]
 cases e : v.data.toList with
 | nil => exact absurd e h
 | cons c r => simp
theorem turnB_inj {k : Nat} {a b : ByteArray} (h : turnB k a = turnB k b) : a = b := by
 have h1 := turnB_list k a
 rw [h, turnB_list] at h1
 apply Go.WideShapes.bytes_inj
 cases ea : a.data.toList with
 | nil =>
   cases eb : b.data.toList with
   | nil => rfl
   | cons d s => rw [ea, eb] at h1; simp at h1
 | cons c r =>
   cases eb : b.data.toList with
   | nil => rw [ea, eb] at h1; simp at h1
   | cons d s =>
     rw [ea, eb] at h1
     simp only [List.cons.injEq] at h1
     obtain ⟨h2, h3⟩ := h1
     have e : c = d := by
      by_cases hc : c.toNat < 97 ∨ 122 < c.toNat
      · rw [if_pos hc] at h2
        by_cases hd : d.toNat < 97 ∨ 122 < d.toNat
        · rw [if_pos hd] at h2; exact h2.symm
        · rw [if_neg hd] at h2
          have h4 := congrArg UInt8.toNat h2
          rw [turnC_nat] at h4
          omega
      · rw [if_neg hc] at h2
        by_cases hd : d.toNat < 97 ∨ 122 < d.toNat
        · rw [if_pos hd] at h2
          have h4 := congrArg UInt8.toNat h2
          rw [turnC_nat] at h4
          omega
        · rw [if_neg hd] at h2
          exact (turnC_inj (by omega) (by omega) h2).symm
     rw [e, h3]
theorem ones_no {v x : ByteArray} (h : x ∈ oneN v) : ¬ x.toList = [] := by
 by_cases hv : v.toList = []
 · rw [oneN_no hv] at h; cases h
 · rw [oneN_yes hv, List.mem_singleton] at h; rw [h]; exact hv
theorem varsT_no {l : List TestT} {x : ByteArray} (h : x ∈ varsT l) : ¬ x.toList = [] := by
 obtain ⟨t, _, ht⟩ := List.mem_flatMap.1 h
 exact ones_no ht
theorem namesN_no : ∀ (n : Nat) (c : CondT) (x : ByteArray), x ∈ namesN n c → ¬ x.toList = []
 | 0, _, x, h => by cases h
 | n + 1, c, x, h => by
   have e : namesN (n + 1) c = oneN c.id ++ (varsT c.attr ++ (varsT c.value ++ c.conds.flatMap (namesN n))) := rfl
   rw [e, List.mem_append, List.mem_append, List.mem_append] at h
   rcases h with h | h | h | h
   · exact ones_no h
   · exact varsT_no h
   · exact varsT_no h
   · obtain ⟨y, _, hy⟩ := List.mem_flatMap.1 h
     exact namesN_no n y x hy
theorem vars_no {n : Nat} {p : ProdT} {x : ByteArray} (h : x ∈ varsP n p) : ¬ x.toList = [] := by
 rcases List.mem_append.1 h with h | h
 · obtain ⟨c, _, hc⟩ := List.mem_flatMap.1 h
   exact namesN_no n c x hc
 · obtain ⟨a, _, ha⟩ := List.mem_flatMap.1 h
   obtain ⟨v, _, hv⟩ := List.mem_flatMap.1 ha
   exact ones_no hv
theorem turn_law (n k : Nat) (p : ProdT) (nm : ByteArray) : plainP n ⟨nm, (prodR (turnB k) n p).conds, (prodR (turnB k) n p).acts⟩ = plainP n p := by
 refine plain_ren n p nm (fun x hx => ?_) (fun a b _ _ h => turnB_inj h)
 refine turnB_no (fun e => ?_)
 exact vars_no hx e
end Go.Proofs.YtffemfglngikbaaGreat
namespace Go.Proofs.YtffemfglngikbaaGreat
open Go.RowKit Go.Shelf
theorem test_word {t : TestT} (h : testB t = true) : ∀ x ∈ oneN t.var, isWord x = true := by
 intro x hx
 by_cases hv : t.var.toList = []
 · rw [oneN_no hv] at hx; cases hx
 · rw [oneN_yes hv, List.mem_singleton] at hx
   subst hx
   unfold testB at h
   split at h
   · simp [hv] at h
   · split at h
     · cases h
     · first
        | (simp only [Bool.and_eq_true] at h; exact h.1)
        | (rw [if_neg hv] at h; simp only [Bool.and_eq_true] at h; exact h.1)
theorem tests_word {l : List TestT} (h : ∀ t ∈ l, testB t = true) : ∀ x ∈ varsT l, isWord x = true := fun x hx => by
 obtain ⟨t, ht, hy⟩ := List.mem_flatMap.1 hx
 exact test_word (h t ht) x hy
theorem one_word {v : ByteArray} (h : v.toList = [] ∨ isWord v = true) : ∀ x ∈ oneN v, isWord x = true := fun x hx => by
 rcases h with h | h
 · rw [oneN_no h] at hx; cases hx
 · by_cases hv : v.toList = []
   · rw [oneN_no hv] at hx; cases hx
   · rw [oneN_yes hv, List.mem_singleton] at hx; subst hx; exact h
theorem cond_word : ∀ (n d : Nat) (c : CondT), condE c d = 0 → (∀ x ∈ flatC n (d + 1) c.conds, condE x.2 x.1 = 0) → ∀ x ∈ namesN (n + 1) c, isWord x = true
 | n, d, c, h1, h2, x, hx => by
   have e : namesN (n + 1) c = oneN c.id ++ (varsT c.attr ++ (varsT c.value ++ c.conds.flatMap (namesN n))) := rfl
   rw [e, List.mem_append, List.mem_append, List.mem_append] at hx
   have hin : ∀ y ∈ c.conds.flatMap (namesN n), isWord y = true := fun y hy => by
    obtain ⟨c2, hc2, hy2⟩ := List.mem_flatMap.1 hy
    cases n with
    | zero => cases hy2
    | succ n =>
      obtain ⟨g1, g2⟩ := flatC_in (n := n) (d := d + 1) hc2
      exact cond_word n (d + 1) c2 (h2 _ g1) (fun z hz => h2 _ (g2 z hz)) y hy2
   by_cases hk : c.kind = 3
   · have h3 : c.id.toList = [] ∧ c.attr.length = 0 ∧ c.value.length = 0 := by
      unfold condE at h1
      rw [if_pos hk] at h1
      split at h1
      · exact absurd h1 (by decide)
      · rename_i hh
        simp only [not_or, Decidable.not_not, Nat.not_lt] at hh
        exact ⟨hh.2.1, by omega, by omega⟩
     obtain ⟨i1, i2, i3⟩ := h3
     rw [oneN_no i1, List.length_eq_zero_iff.1 i2, List.length_eq_zero_iff.1 i3] at hx
     rcases hx with hx | hx | hx | hx
     · cases hx
     · cases hx
     · cases hx
     · exact hin x hx
   · obtain ⟨i1, i2, i3, _⟩ := condE_leaf h1 hk
     rcases hx with hx | hx | hx | hx
     · exact one_word (.inr i1) x hx
     · exact tests_word i2 x hx
     · exact tests_word i3 x hx
     · exact hin x hx
theorem atom_word {a : AtomT} (h : atomB a = true) : a.var.toList = [] ∨ isWord a.var = true := by
 unfold atomB at h
 by_cases hv : a.var.toList = []
 · exact .inl hv
 · rw [if_neg hv, Bool.and_eq_true] at h; exact .inr h.1
theorem empty_word {a : AtomT} (h : emptyB a = true) : a.var.toList = [] ∨ isWord a.var = true := by
 unfold emptyB at h
 rw [Bool.and_eq_true] at h
 exact .inl (of_decide_eq_true h.1)
theorem term_word {t : TermT} (h : termB t = true) : (t.a.var.toList = [] ∨ isWord t.a.var = true) ∧ (t.b.var.toList = [] ∨ isWord t.b.var = true) := by
 unfold termB at h
 split at h
 · cases h
 · rename_i hh
   have ha : atomB t.a = true := by
    simp only [not_or] at hh
    simpa using hh.2.2
   refine ⟨atom_word ha, ?_⟩
   split at h
   · exact empty_word h
   · simp only [Bool.and_eq_true] at h
     exact atom_word h.1.1
theorem act_word {a : ActT} (h : actB a = true) : ∀ x ∈ varsA a, isWord x = true := by
 intro x hx
 rw [vars5, List.mem_append, List.mem_append, List.mem_append, List.mem_append] at hx
 unfold actB at h
 split at h
 · cases h
 · rename_i hh
   simp only [not_or] at hh
   obtain ⟨g1, g2, g3, _⟩ := hh
   have k1 : isWord a.id = true := by simpa using g1
   have k2 : atomB a.attr = true := by simpa using g2
   have k3 : termB a.value = true := by simpa using g3
   obtain ⟨m1, m2⟩ := term_word k3
   have ho : a.other.var.toList = [] ∨ isWord a.other.var = true := by
    split at h
    · exact atom_word h
    · exact empty_word h
   rcases hx with hx | hx | hx | hx | hx
   · exact one_word (.inr k1) x hx
   · exact one_word (atom_word k2) x hx
   · exact one_word m1 x hx
   · exact one_word m2 x hx
   · exact one_word ho x hx
theorem vars_word {n : Nat} {p : ProdT} (h : (shapeP n p).2 = 0) : ∀ x ∈ varsP n p, isWord x = true := by
 obtain ⟨_, _, h1, _, _, h2, h3⟩ := shapeP_ok h
 intro x hx
 rcases List.mem_append.1 hx with hx | hx
 · obtain ⟨c, hc, hy⟩ := List.mem_flatMap.1 hx
   cases n with
   | zero => cases hy
   | succ n =>
     obtain ⟨g1, g2⟩ := flatC_in (n := n) (d := 0) hc
     exact cond_word n 0 c (h2 _ g1) (fun z hz => h2 _ (g2 z hz)) x hy
 · obtain ⟨a, ha, hy⟩ := List.mem_flatMap.1 hx
   exact act_word (h3 a ha) x hy
def turnD (n : Nat) : ByteArray := ⟨#[UInt8.ofNat (97 + n)]⟩
theorem turnD_size (n : Nat) : (turnD n).size = 1 := rfl
theorem convT (n : Nat) (h : n < 26) (W : World) (g : Nat) (hc : W.cell? ⟨g, 0, none⟩ = some (.int .u8 (97 + (n : Int)))) : (convert 184 9 (.slice (some ⟨g, 0, none⟩) 1 1)).run Tryz.prog W = .ok (.string (turnD n)) W :=
 Lib.run_convert_whole (P := Tryz.prog) W 184 5 9 Tryz.underlying184 Tryz.underlying5 Tryz.underlying9 g 0 (turnD n) (fun i hi => by
  have : i = 0 := by have : (turnD n).size = 1 := rfl; omega
  subst this
  rw [Nat.add_zero, hc]
  have e : (turnD n)[0].toNat = 97 + n := by show (UInt8.ofNat (97 + n)).toNat = 97 + n; simp; omega
  rw [e]
  simp) 1
set_option maxRecDepth 100000 in
set_option maxHeartbeats 4000000 in
theorem turned_is (v : ByteArray) (hv : isWord v = true) (k : Nat) (hk : k < 26) (w : World) : Calls Tryz.prog 108 #[.string v, .int .i64 (k : Int)] w fun e w' => e = .returned (.string (turnB k v)) ∧ Below w.heap.size w w' := by
 obtain ⟨hz, hs, h1, _⟩ := isWord_iff.1 hv
 have hm1 : 97 ≤ v[0].toNat ∧ v[0].toNat ≤ 122 := by simpa [smallB] using h1
 have hne : ¬ v.toList = [] := by
  rw [ByteArray.toList_eq]
  intro e
  have h2 : v.data.toList.length = v.size := Array.length_toList
  rw [e] at h2
  simp at h2
  omega
 have ea : (v.toList == []) = false := by simp [hne]
 have eb : v.toList.isEmpty = false := by simp [hne]
 have ec : decide (v.toList = []) = false := by simp [hne]
 have t3 : decide ((v[0].toNat : Int) < 97) = false := by simp; omega
 have t4 : decide ((122 : Int) < (v[0].toNat : Int)) = false := by simp; omega
 obtain ⟨m, hm⟩ : ∃ m, m = v[0].toNat - 97 := ⟨_, rfl⟩
 have hm25 : m ≤ 25 := by omega
 have i1 : IntKind.u8.wrap ((v[0].toNat : Int) - 97) = (m : Int) := by rw [show (v[0].toNat : Int) - 97 = (m : Int) by omega]; exact IntWalk.u8_in _ (by omega)
 have i2 : IntKind.i64.wrap (m : Int) = (m : Int) := IntWalk.i64_in _ (by omega)
 have i3 : IntKind.i64.wrap ((m : Int) + (k : Int)) = (m : Int) + (k : Int) := IntWalk.i64_in _ (by omega)
 obtain ⟨q, hq⟩ : ∃ q, q = (m + k) % 26 := ⟨_, rfl⟩
 have hq26 : q < 26 := by rw [hq]; exact Nat.mod_lt _ (by decide)
 have i4 : ((m : Int) + (k : Int)).tmod 26 = (q : Int) := by rw [hq, Int.tmod_eq_emod_of_nonneg (by omega)]; omega
 have i4b : IntKind.i64.wrap (q : Int) = (q : Int) := IntWalk.i64_in _ (by omega)
 have i5 : IntKind.u8.wrap (q : Int) = (q : Int) := IntWalk.u8_in _ (by omega)
 have i6 : IntKind.u8.wrap (97 + (q : Int)) = 97 + (q : Int) := IntWalk.u8_in _ (by omega)
 obtain ⟨r, hr⟩ : ∃ r, r = v.extract 1 v.size := ⟨_, rfl⟩
 have hrs : r.size ≤ 32 := by rw [hr, ByteArray.size_extract]; omega
 have hcz : ¬ 9223372036854775807 < (turnD q).size + r.size := by rw [turnD_size]; omega
 have hcz1 : ¬ 9223372036854775807 < 1 + r.size := by omega
 have z1 : (1 : Int) ≤ (v.size : Int) := by omega
 have hsl : ∀ W, (Instr.slice 9 (.string v) (some (.int .i64 1)) none none).run Tryz.prog W = .ok (.string r) W := fun W => by
  rw [hr]
  go_simp
 have HRES := Lib.hid (show turnB k v = turnD q ++ r by
  apply Go.WideShapes.bytes_inj
  rw [turnB_list]
  have hl : v.data.toList = v[0] :: v.data.toList.drop 1 := by
   have h2 : v.data.toList.length = v.size := Array.length_toList
   have := List.drop_eq_getElem_cons (l := v.data.toList) (i := 0) (by omega)
   rw [List.drop_zero] at this
   rw [this]
   congr 1
  rw [hl]
  simp only
  rw [if_neg (by omega), hr, ByteArray.data_append, ByteArray.data_extract, Array.toList_append, Array.toList_extract]
  have h2 : v.data.toList.length = v.size := Array.length_toList
  have e1 : turnC k v[0] = UInt8.ofNat (97 + q) := by rw [turnC, hq, hm]
  rw [e1]
  show _ = [UInt8.ofNat (97 + q)] ++ _
  rw [List.singleton_append]
  congr 1
  rw [List.extract_eq_take_drop]
  have e3 : (v.data.toList.drop 1).length = v.size - 1 := by rw [List.length_drop, h2]
  rw [← e3, List.take_length])
 clear hne h1 hv hq hr hm
 go_enter Tryz.func108, Tryz.ntmps108
 go_upto_region 3 with fail
 refine wp_region_E (fun w9 => True) [(0, 0), (1, 0), (2, 0), (4, 0), (11, 0), (12, 0), (3, 2), (5, 0), (6, 0), (7, 2), (8, 0), (9, 2), (10, 2), (13, 0), (14, 0)] (by kernel_rfl) (by kernel_rfl) (fun KK hKK => ?_)
 simp only [beside, List.filterMap_cons, List.filterMap_nil, List.getElem?_toArray, List.getElem?_cons_zero, List.getElem?_cons_succ, Option.map_some]
 repeat ((first | (refine wpX_w ?_ (Or.inl ⟨by rfl, fun w9 => ?_⟩) ?_; rotate_left 1; go_simp; with_reducible rfl) | (refine wpX_l ?_ (trivial) (Or.inl ⟨by rfl, fun w9 hw9 => ?_⟩) ?_; rotate_left 1; skip; go_simp; with_reducible rfl) | refine wpX_w undef (Or.inr ⟨by rfl, rfl⟩) ?_ | refine wpX_l undef (trivial) (Or.inr ⟨by rfl, rfl⟩) ?_); go_frame)
 refine wpX_e (by kernel_rfl) (fun K9 hK9 => ?_)
 go_simp
 refine hK9 _ _ ?_
 clear hK9 K9
 repeat ((first | (refine wpX_w ?_ (Or.inl ⟨by rfl, fun w9 => ?_⟩) ?_; rotate_left 1; go_simp; with_reducible rfl) | (refine wpX_l ?_ (trivial) (Or.inl ⟨by rfl, fun w9 hw9 => ?_⟩) ?_; rotate_left 1; skip; go_simp; with_reducible rfl) | refine wpX_w undef (Or.inr ⟨by rfl, rfl⟩) ?_ | refine wpX_l undef (trivial) (Or.inr ⟨by rfl, rfl⟩) ?_); go_frame)
 refine wpX_e (by kernel_rfl) (fun K9 hK9 => ?_)
 go_simp
 refine hK9 _ _ ?_
 clear hK9 K9
 repeat ((first | (refine wpX_w ?_ (Or.inl ⟨by rfl, fun w9 => ?_⟩) ?_; rotate_left 1; go_simp; with_reducible rfl) | (refine wpX_l ?_ (trivial) (Or.inl ⟨by rfl, fun w9 hw9 => ?_⟩) ?_; rotate_left 1; skip; go_simp; with_reducible rfl) | refine wpX_w undef (Or.inr ⟨by rfl, rfl⟩) ?_ | refine wpX_l undef (trivial) (Or.inr ⟨by rfl, rfl⟩) ?_); go_frame)
 refine wpX_e (by kernel_rfl) (fun K9 hK9 => ?_)
 go_simp
 have HB9 := Lib.hid (show Below w.heap.size w (w.alloc (.cells #[.int .u8 (97 + (q : Int))] 5)).drew from ((Below.refl _ _).alloc (Nat.le_refl _) _).drew)
 have hc := convT q (by omega) (w.alloc (.cells #[.int .u8 (97 + (q : Int))] 5)).drew w.heap.size (((Blk.new w 5 #[.int .u8 (97 + (q : Int))]).drew.cell 0).trans rfl)
 refine hK9 _ _ ?_
 clear hK9 K9
 refine wpX_e (by kernel_rfl) (fun K9 hK9 => ?_)
 go_simp
 refine hK9 _ _ ?_
 clear hK9 K9
 repeat ((first | (refine wpX_w ?_ (Or.inl ⟨by rfl, fun w9 => ?_⟩) ?_; rotate_left 1; go_simp; with_reducible rfl) | (refine wpX_l ?_ (trivial) (Or.inl ⟨by rfl, fun w9 hw9 => ?_⟩) ?_; rotate_left 1; skip; go_simp; with_reducible rfl) | refine wpX_w undef (Or.inr ⟨by rfl, rfl⟩) ?_ | refine wpX_l undef (trivial) (Or.inr ⟨by rfl, rfl⟩) ?_); go_frame)
 refine wpX_nil ?_
 simp only [OnlyN_normal]
 refine hKK _ _ ?_
 clear hKK KK
 go_wp2_with fail
 go_ret
 exact ⟨by rw [HRES.out] <;> rfl, HB9.out⟩
end Go.Proofs.YtffemfglngikbaaGreat
