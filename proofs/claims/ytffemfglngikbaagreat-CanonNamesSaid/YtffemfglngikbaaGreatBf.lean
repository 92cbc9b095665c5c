/-
  Texts put together: BkNames, BkNames2, RangeM.
-/
import Derived.Test.YtffemfglngikbaaGreatBc
import Derived.Test.YtffemfglngikbaaGreatBd
import Derived.Test.YtffemfglngikbaaGreatBe
import Derived.Laws.EntriesVeiled
namespace Go.Proofs.YtffemfglngikbaaGreat
open Go.RowKit Go.Shelf
attribute [local go_sem] Oper.semAt_some
def restN (c : CondT) : Nat → List ByteArray
 | 0 => varsT c.attr ++ varsT c.value
 | 1 => varsT c.value
 | _ => []
def NamesPost (xs : List ByteArray) (J Jx : (Nat → Prop) → List ByteArray → World → Prop) (D E : Nat → Prop) (W X : World) (pre : List ByteArray) (e : Ending) (X' : World) : Prop :=
 (e = .returned (.bool true) ∧ (∃ E', (∀ k, E k → E' k) ∧ ItSt J D E' W pre X') ∧ Fr (fun k => ¬ (D k ∨ E k)) X X') ∨ (e = .returned (.bool false) ∧ ToldO xs J Jx X')
def NamesSpec (n lo : Nat) (xs : List ByteArray) (J Jx : (Nat → Prop) → List ByteArray → World → Prop) (D : Nat → Prop) (W : World) : Prop :=
 ∀ (c : CondT) (A1 : Option Addr) (a1 : Nat) (A2 : Option Addr) (a2 : Nat) (A3 : Option Addr) (a3 : Nat) (E : Nat → Prop) (pre post : List ByteArray) (X : World), xs = pre ++ (namesN (n + 1) c ++ post) → RowR repTestT D X A1 a1 c.attr → RowR repTestT D X A2 a2 c.value → RowR (repCondT n) D X A3 a3 c.conds → ItSt J D E W pre X →
   CallsIn Fence.wide 0 Tryz.prog 212 #[.agg #[.int .i64 c.kind, .bool c.goal, .string c.id, .slice A1 c.attr.length a1, .slice A2 c.value.length a2, .bool c.acc, .slice A3 c.conds.length a3], .func (.yield lo) #[] #[]] X (NamesPost xs J Jx D E W X (pre ++ namesN (n + 1) c))
set_option maxRecDepth 100000 in
set_option maxHeartbeats 16000000 in
theorem names_step (n lo : Nat) (xs : List ByteArray) (J Jx : (Nat → Prop) → List ByteArray → World → Prop) (D : Nat → Prop) (W : World) (hJ : Steady W.heap.size J) (hY : RoundsO Tryz.prog lo encStr xs J Jx)
 (ih : ∀ m, n = m + 1 → NamesSpec m lo xs J Jx D W) : NamesSpec n lo xs J Jx D W := by
 intro c A1 a1 A2 a2 A3 a3 E pre post X hx h1 h2 h3 hit
 have HJ := Lib.hid hJ
 have HY := Lib.hid hY
 have IH := Lib.hid ih
 have H1 := Lib.hid h1
 have H2 := Lib.hid h2
 have H3 := Lib.hid h3
 have hac := h3.cap
 have HX := Lib.hid hx
 have HXX := Lib.hid hx
 have HI := Lib.hid hit
 obtain ⟨rc, hrc⟩ : ∃ rc, rc = c.conds.flatMap (namesN n) ++ post := ⟨_, rfl⟩
 have HRC := Lib.hid hrc
 have hbX : Below X.heap.size X (X.alloc (.cells #[.int .i64 c.kind, .bool c.goal, .string c.id, .slice A1 c.attr.length a1, .slice A2 c.value.length a2, .bool c.acc, .slice A3 c.conds.length a3] 59)) := (Below.refl _ _).alloc (Nat.le_refl _) _
 have HIX := Lib.hid (HI.out.new_ HJ.out hbX)
 have KCX := Lib.hid (show Blk (X.alloc (.cells #[.int .i64 c.kind, .bool c.goal, .string c.id, .slice A1 c.attr.length a1, .slice A2 c.value.length a2, .bool c.acc, .slice A3 c.conds.length a3] 59)) X.heap.size 59 #[.int .i64 c.kind, .bool c.goal, .string c.id, .slice A1 c.attr.length a1, .slice A2 c.value.length a2, .bool c.acc, .slice A3 c.conds.length a3] from Blk.new _ _ _)
 have HFX := Lib.hid (show Fr (fun k => ¬ (D k ∨ E k)) X (X.alloc (.cells #[.int .i64 c.kind, .bool c.goal, .string c.id, .slice A1 c.attr.length a1, .slice A2 c.value.length a2, .bool c.acc, .slice A3 c.conds.length a3] 59)) from Fr.of_new hbX)
 clear hJ hY ih h1 h2 h3 hx hit hrc hbX
 refine callsIn_of_wp Tryz.func212 rfl trivial ?_
 simp only [Tryz.ntmps212, List.size_toArray, List.length_cons, List.length_nil, Nat.reduceAdd, Nat.reduceSub, Array.replicate_succ, Array.replicate_zero, List.push_toArray, List.append_toArray, List.nil_append, List.cons_append]
 by_cases hid : c.id.toList = []
 · have ia : (c.id.toList == []) = true := by simp [hid]
   have ib : c.id.toList.isEmpty = true := by simp [hid]
   have ic : decide (c.id.toList = []) = true := by simp [hid]
   have HX0 := Lib.hid (show xs = pre ++ (restN c 0 ++ rc) by rw [HX.out, namesN, oneN_no hid, HRC.out]; simp [restN])
   have HI0 := HIX
   have HC0 := Lib.hid (show Plus E X (X.alloc (.cells #[.int .i64 c.kind, .bool c.goal, .string c.id, .slice A1 c.attr.length a1, .slice A2 c.value.length a2, .bool c.acc, .slice A3 c.conds.length a3] 59)) X.heap.size from .inr ⟨Nat.le_refl _, by simp⟩)
   have KC0 := KCX
   have HE0 := Lib.hid (show ∀ k, E k → Plus E X (X.alloc (.cells #[.int .i64 c.kind, .bool c.goal, .string c.id, .slice A1 c.attr.length a1, .slice A2 c.value.length a2, .bool c.acc, .slice A3 c.conds.length a3] 59)) k from fun k hk => .inl hk)
   have HF0 := HFX
   clear hid HX
   gi_wp2_with fail
   refine ⟨(fun f h => by cases h), ?_⟩
   gi_wp2_with fail
   gi_loopw [26] (fun s wr => ∃ (j : Nat) (E1 : Nat → Prop) (p1 : List ByteArray), s = .int .i64 j ∧ j ≤ 2 ∧ xs = p1 ++ (restN c j ++ rc) ∧ ItSt J D E1 W p1 wr ∧ E1 X.heap.size ∧ Blk wr X.heap.size 59 #[.int .i64 c.kind, .bool c.goal, .string c.id, .slice A1 c.attr.length a1, .slice A2 c.value.length a2, .bool c.acc, .slice A3 c.conds.length a3] ∧ (∀ k, E k → E1 k) ∧ Fr (fun k => ¬ (D k ∨ E k)) X wr) (fun s wr => 2 - (intOf s).toNat)
   case atStart => exact ⟨0, _, _, rfl, by omega, HX0.out, HI0.out, HC0.out, KC0.out, HE0.out, HF0.out⟩
   case round =>
    obtain ⟨j, E1, p1, rfl, hj, hx1, hit1, hc1, hk1, he1, hf1⟩ := hrel
    have HX1 := Lib.hid hx1
    have HI1 := Lib.hid hit1
    have HC1 := Lib.hid hc1
    have KC1 := Lib.hid hk1
    have HE1 := Lib.hid he1
    have HF1 := Lib.hid hf1
    clear hx1 hit1 hc1 hk1 he1 hf1
    by_cases hlt : j < 2
    · obtain ⟨lj, Al, al, hix, hlj, hrj⟩ : ∃ (lj : List TestT) (Al : Option Addr) (al : Nat), (∀ V, (Instr.index 139 (.agg #[.slice A1 c.attr.length a1, .slice A2 c.value.length a2]) (.int .i64 (j : Int))).run Tryz.prog V = .ok (.slice Al lj.length al) V) ∧ RowR repTestT D X Al al lj ∧ restN c j = varsT lj ++ restN c (j + 1) := by
       match j, hlt with
       | 0, _ => exact ⟨c.attr, A1, a1, fun V => by rfl, H1.out, rfl⟩
       | 1, _ => exact ⟨c.value, A2, a2, fun V => by rfl, H2.out, by simp [restN]⟩
      have HLJ := Lib.hid hlj
      have hljc := hlj.cap
      have jj1 : (0 : Int) ≤ (j : Int) := by omega
      have jj2 : (j : Int) < 2 := by omega
      obtain ⟨rj, hrjd⟩ : ∃ rj, rj = restN c (j + 1) ++ rc := ⟨_, rfl⟩
      have HX2 := Lib.hid (show xs = p1 ++ (varsT (lj.drop 0) ++ rj) by rw [HX1.out, hrj, hrjd, List.drop_zero]; simp)
      have HRJ := Lib.hid hrjd
      clear hlj hrj hrjd HX1
      gi_wp2_with fail
      gi_loopw [31] (fun s wr => ∃ (i : Nat) (E1 : Nat → Prop) (p1 : List ByteArray), s = .int .i64 i ∧ i ≤ lj.length ∧ xs = p1 ++ (varsT (lj.drop i) ++ rj) ∧ ItSt J D E1 W p1 wr ∧ E1 X.heap.size ∧ Blk wr X.heap.size 59 #[.int .i64 c.kind, .bool c.goal, .string c.id, .slice A1 c.attr.length a1, .slice A2 c.value.length a2, .bool c.acc, .slice A3 c.conds.length a3] ∧ (∀ k, E k → E1 k) ∧ Fr (fun k => ¬ (D k ∨ E k)) X wr) (fun s wr => lj.length - (intOf s).toNat)
      case atStart => exact ⟨0, _, _, rfl, Nat.zero_le _, HX2.out, HI1.out, HC1.out, KC1.out, HE1.out, HF1.out⟩
      case round =>
       clear HX2 HI1 HC1 KC1 HE1 HF1
       obtain ⟨i, E1, p1, rfl, hi, hx1, hit1, hc1, hk1, he1, hf1⟩ := hrel
       have HX1 := Lib.hid hx1
       have HI1 := Lib.hid hit1
       have HC1 := Lib.hid hc1
       have KC1 := Lib.hid hk1
       have HE1 := Lib.hid he1
       have HF1 := Lib.hid hf1
       clear hx1 hit1 hc1 hk1 he1 hf1
       by_cases hlt2 : i < lj.length
       · skip
         obtain ⟨y, hy0⟩ : ∃ y, y = lj[i] := ⟨_, rfl⟩
         have htr := HLJ.out.fr HF1.out (fun k hk hn => hn (.inl hk))
         obtain ⟨gt, ot, At, at_, hA, _, hgt, q0, q1, q2, q3, q4, q5, _⟩ := at_TestT htr hlt2
         subst hA
         rw [← hy0] at q0 q1 q2 q3 q4 q5
         have HVD := Lib.hid (show varsT (lj.drop i) = oneN y.var ++ varsT (lj.drop (i + 1)) by rw [hy0]; exact varsT_drop hlt2)
         have j1 : (0 : Int) ≤ (i : Int) := by omega
         have j2 : (i : Int) < (lj.length : Int) := by omega
         clear hy0 htr
         have hbY : Below wr.heap.size wr (wr.alloc (.cells #[.int .i64 y.rel, .string y.var, .int .i64 y.sym.kind, .string y.sym.text, .int .i64 y.sym.n, .slice At y.list.length at_] 141)) := (Below.refl _ _).alloc (Nat.le_refl _) _
         have HIY := Lib.hid (HI1.out.new_ HJ.out hbY)
         have HBY := Lib.hid hbY
         have KCY := Lib.hid (KC1.out.new_ hbY)
         have HFY := Lib.hid (HF1.out.trans (Fr.of_new hbY))
         clear hbY
         by_cases hve : y.var.toList = []
         · have va : (y.var.toList == []) = true := by simp [hve]
           have vb : y.var.toList.isEmpty = true := by simp [hve]
           have vc : decide (y.var.toList = []) = true := by simp [hve]
           have HXN := Lib.hid (show xs = p1 ++ (varsT (lj.drop (i + 1)) ++ rj) by rw [HX1.out, HVD.out, oneN_no hve, List.nil_append])
           have HIN := HIY
           have HCN := Lib.hid (show Plus E1 wr (wr.alloc (.cells #[.int .i64 y.rel, .string y.var, .int .i64 y.sym.kind, .string y.sym.text, .int .i64 y.sym.n, .slice At y.list.length at_] 141)) X.heap.size from .inl HC1.out)
           have KCN := KCY
           have HEN := Lib.hid (show ∀ k, E k → Plus E1 wr (wr.alloc (.cells #[.int .i64 y.rel, .string y.var, .int .i64 y.sym.kind, .string y.sym.text, .int .i64 y.sym.n, .slice At y.list.length at_] 141)) k from fun k hk => .inl (HE1.out k hk))
           have HFN := HFY
           clear hve
           gi_wp2_with fail
           refine ⟨(fun f h => by cases h), ?_⟩
           gi_wp2_with fail
           go_roundw
           case rel => exact ⟨i + 1, _, _, by go_num, by omega, HXN.out, HIN.out, HCN.out, KCN.out, HEN.out, HFN.out⟩
           case measure => simp [intOf] <;> omega
         · have va : (y.var.toList == []) = false := by simp [hve]
           have vb : y.var.toList.isEmpty = false := by simp [hve]
           have vc : decide (y.var.toList = []) = false := by simp [hve]
           have HXV := Lib.hid (show xs = p1 ++ y.var :: (varsT (lj.drop (i + 1)) ++ rj) by rw [HX1.out, HVD.out, oneN_yes hve]; simp)
           clear hve
           obtain ⟨fy, ty, ay, by_, hy, hR⟩ := (HIY.out).round HY.out (HXV.out)
           dsimp only [encStr] at hy
           have HRR := Lib.hid hR
           clear hR
           gi_wp2_with fail
           refine ⟨rfl, HRR.out.mono ?_⟩
           rintro e W3 (⟨rfl, hi3, hk3⟩ | ⟨rfl, hT, -⟩)
           · have HI3 := Lib.hid hi3
             have HK3 := Lib.hid hk3
             clear hi3 hk3 hy
             have HXN := Lib.hid (show xs = (p1 ++ [y.var]) ++ (varsT (lj.drop (i + 1)) ++ rj) by rw [HXV.out]; simp)
             have HIN := HI3
             have HCN := Lib.hid (show Plus E1 wr (wr.alloc (.cells #[.int .i64 y.rel, .string y.var, .int .i64 y.sym.kind, .string y.sym.text, .int .i64 y.sym.n, .slice At y.list.length at_] 141)) X.heap.size from .inl HC1.out)
             have KCN := Lib.hid (KCY.out.fr HK3.out (fun hn => hn (.inr (.inl HC1.out))))
             have HEN := Lib.hid (show ∀ k, E k → Plus E1 wr (wr.alloc (.cells #[.int .i64 y.rel, .string y.var, .int .i64 y.sym.kind, .string y.sym.text, .int .i64 y.sym.n, .slice At y.list.length at_] 141)) k from fun k hk => .inl (HE1.out k hk))
             have HFN := Lib.hid (HFY.out.trans (HK3.out.mono (fun k _ hk hd => hk (hd.imp id (HEN.out k)))))
             gi_wp2_with fail
             go_roundw
             case rel => exact ⟨i + 1, _, _, by go_num, by omega, HXN.out, HIN.out, HCN.out, KCN.out, HEN.out, HFN.out⟩
             case measure => simp [intOf] <;> omega
           · have HT := Lib.hid hT
             clear hT hy
             gi_wp2_with fail
             go_ret
             exact .inr ⟨rfl, HT.out⟩
       · obtain rfl : i = lj.length := by omega
         have HX3 := Lib.hid (show xs = p1 ++ (restN c (j + 1) ++ rc) by rw [HX1.out, List.drop_length, HRJ.out]; simp [varsT])
         gi_wp2_with fail
         go_roundw
         case rel => exact ⟨j + 1, _, _, by go_num, by omega, HX3.out, HI1.out, HC1.out, KC1.out, HE1.out, HF1.out⟩
         case measure => simp [intOf] <;> omega
    · have HJ2 := Lib.hid (show j = 2 by omega)
      have HX2 := Lib.hid (show xs = p1 ++ ((c.conds.drop 0).flatMap (namesN n) ++ post) by rw [HX1.out, HRC.out, HJ2.out, List.drop_zero]; rfl)
      have jn : decide ((j : Int) < 2) = false := by simp; omega
      have k6 := (KC1.out.cell 6).trans rfl
      have kz := KC1.out.lt
      clear HX1
      gi_wp2_with fail
      clear k6 kz
      gi_loopw [50] (fun s wr => ∃ (i : Nat) (E1 : Nat → Prop) (p1 : List ByteArray), s = .int .i64 i ∧ i ≤ c.conds.length ∧ xs = p1 ++ ((c.conds.drop i).flatMap (namesN n) ++ post) ∧ ItSt J D E1 W p1 wr ∧ E1 X.heap.size ∧ Blk wr X.heap.size 59 #[.int .i64 c.kind, .bool c.goal, .string c.id, .slice A1 c.attr.length a1, .slice A2 c.value.length a2, .bool c.acc, .slice A3 c.conds.length a3] ∧ (∀ k, E k → E1 k) ∧ Fr (fun k => ¬ (D k ∨ E k)) X wr) (fun s wr => c.conds.length - (intOf s).toNat)
      case atStart => exact ⟨0, _, _, rfl, Nat.zero_le _, HX2.out, HI1.out, HC1.out, KC1.out, HE1.out, HF1.out⟩
      case round =>
       clear HX2 HI1 HC1 KC1 HE1 HF1
       obtain ⟨i, E1, p1, rfl, hi, hx1, hit1, hc1, hk1, he1, hf1⟩ := hrel
       have HX1 := Lib.hid hx1
       have HI1 := Lib.hid hit1
       have HC1 := Lib.hid hc1
       have KC1 := Lib.hid hk1
       have HE1 := Lib.hid he1
       have HF1 := Lib.hid hf1
       clear hx1 hit1 hc1 hk1 he1 hf1
       by_cases hlt2 : i < c.conds.length
       · obtain ⟨m, hnm⟩ : ∃ m, n = m + 1 := by
          cases n with
          | zero => have := row_zero H3.out; rw [this] at hlt2; simp at hlt2
          | succ m => exact ⟨m, rfl⟩
         subst hnm
         obtain ⟨y, hy0⟩ : ∃ y, y = c.conds[i] := ⟨_, rfl⟩
         have hcr := H3.out.fr HF1.out (fun k hk hn => hn (.inl hk))
         obtain ⟨gt, ot, B1, b1_, B2, b2_, B3, b3_, hA, _, hgt, q0, q1, q2, q3, q4, q5, q6, -, -, -⟩ := at_CondT hcr hlt2
         have HDC := Lib.hid (show (c.conds.drop i).flatMap (namesN (m + 1)) = namesN (m + 1) y ++ (c.conds.drop (i + 1)).flatMap (namesN (m + 1)) by rw [hy0, List.drop_eq_getElem_cons hlt2, List.flatMap_cons])
         subst hA
         rw [← hy0] at q0 q1 q2 q3 q4 q5 q6
         obtain ⟨_, _, _, _, _, _, _, _, hA9, _, _, _, _, _, q3', q4', _, q6', r1, r2, r3⟩ := at_CondT hcr hlt2
         injection hA9 with hA9
         injection hA9 with e1 e2
         subst e1
         subst e2
         rw [← hy0] at q3' q4' q6' r1 r2 r3
         rw [q3] at q3'
         rw [q4] at q4'
         rw [q6] at q6'
         injection q3' with q3'; injection q3' with s1 s2 s3; subst s1; subst s3
         injection q4' with q4'; injection q4' with s4 s5 s6; subst s4; subst s6
         injection q6' with q6'; injection q6' with s7 s8 s9; subst s7; subst s9
         have j1 : (0 : Int) ≤ (i : Int) := by omega
         have j2 : (i : Int) < (c.conds.length : Int) := by omega
         have hbY : Below wr.heap.size wr (wr.alloc (.cells #[.int .i64 y.kind, .bool y.goal, .string y.id, .slice B1 y.attr.length b1_, .slice B2 y.value.length b2_, .bool y.acc, .slice B3 y.conds.length b3_] 59)) := (Below.refl _ _).alloc (Nat.le_refl _) _
         have HXY := Lib.hid (show xs = p1 ++ (namesN (m + 1) y ++ ((c.conds.drop (i + 1)).flatMap (namesN (m + 1)) ++ post)) by rw [HX1.out, HDC.out, List.append_assoc])
         have HIH := Lib.hid (IH.out m rfl y B1 b1_ B2 b2_ B3 b3_ (Plus E1 wr (wr.alloc (.cells #[.int .i64 y.kind, .bool y.goal, .string y.id, .slice B1 y.attr.length b1_, .slice B2 y.value.length b2_, .bool y.acc, .slice B3 y.conds.length b3_] 59))) p1 _ (wr.alloc (.cells #[.int .i64 y.kind, .bool y.goal, .string y.id, .slice B1 y.attr.length b1_, .slice B2 y.value.length b2_, .bool y.acc, .slice B3 y.conds.length b3_] 59)) HXY.out (r1.new_ hbY) (r2.new_ hbY) (r3.new_ hbY) (HI1.out.new_ HJ.out hbY))
         have KCY := Lib.hid (KC1.out.new_ hbY)
         have HFY := Lib.hid (HF1.out.trans (Fr.of_new hbY))
         clear hy0 hcr r1 r2 r3 hbY s2 s5 s8
         gi_wp2_with fail
         refine ⟨trivial, rfl, ?_⟩
         refine HIH.out.mono ?_
         rintro e w5 (⟨rfl, ⟨E5, he5, hi5⟩, hf5⟩ | ⟨rfl, hT⟩)
         · have HXN := Lib.hid (show xs = (p1 ++ namesN (m + 1) y) ++ ((c.conds.drop (i + 1)).flatMap (namesN (m + 1)) ++ post) by rw [HXY.out]; simp)
           have HI5 := Lib.hid hi5
           have HC5 := Lib.hid (he5 _ (.inl HC1.out))
           have KC5 := Lib.hid (KCY.out.fr hf5 (fun hn => hn (.inr (.inl HC1.out))))
           have HE5 := Lib.hid (show ∀ k, E k → E5 k from fun k hk => he5 k (.inl (HE1.out k hk)))
           have HF5 := Lib.hid (HFY.out.trans (hf5.mono (fun k _ hk hd => hk (hd.imp id (fun h => .inl (HE1.out k h))))))
           clear he5 hi5 hf5 q0 q1 q2 q3 q4 q5 q6
           gi_wp2_with fail
           go_roundw
           case rel => exact ⟨i + 1, _, _, by go_num, by omega, HXN.out, HI5.out, HC5.out, KC5.out, HE5.out, HF5.out⟩
           case measure => simp [intOf] <;> omega
         · have HT := Lib.hid hT
           clear hT q0 q1 q2 q3 q4 q5 q6
           gi_wp2_with fail
           go_ret
           exact .inr ⟨rfl, HT.out⟩
       · obtain rfl : i = c.conds.length := by omega
         have HXE := Lib.hid (show p1 = pre ++ namesN (n + 1) c by
          have h := HX1.out
          rw [List.drop_length, List.flatMap_nil, List.nil_append, HXX.out, ← List.append_assoc] at h
          exact (List.append_cancel_right h).symm)
         gi_wp2_with fail
         go_ret
         exact .inl ⟨rfl, ⟨E1, HE1.out, by have := HI1.out; rw [HXE.out] at this; exact this⟩, HF1.out⟩
 · have ia : (c.id.toList == []) = false := by simp [hid]
   have ib : c.id.toList.isEmpty = false := by simp [hid]
   have ic : decide (c.id.toList = []) = false := by simp [hid]
   have HXV := Lib.hid (show xs = pre ++ c.id :: (restN c 0 ++ rc) by rw [HX.out, namesN, oneN_yes hid, HRC.out]; simp [restN])
   clear hid HX
   obtain ⟨fy, ty, ay, by_, hy, hR⟩ := (HIX.out).round HY.out (HXV.out)
   dsimp only [encStr] at hy
   have HRR := Lib.hid hR
   clear hR
   gi_wp2_with fail
   refine ⟨rfl, HRR.out.mono ?_⟩
   rintro e W3 (⟨rfl, hi3, hk3⟩ | ⟨rfl, hT, -⟩)
   · have HI3 := Lib.hid hi3
     have HK3 := Lib.hid hk3
     clear hi3 hk3 hy
     have HX0 := Lib.hid (show xs = (pre ++ [c.id]) ++ (restN c 0 ++ rc) by rw [HXV.out]; simp)
     have HI0 := HI3
     have HC0 := Lib.hid (show Plus E X (X.alloc (.cells #[.int .i64 c.kind, .bool c.goal, .string c.id, .slice A1 c.attr.length a1, .slice A2 c.value.length a2, .bool c.acc, .slice A3 c.conds.length a3] 59)) X.heap.size from .inr ⟨Nat.le_refl _, by simp⟩)
     have KC0 := Lib.hid (KCX.out.fr HK3.out (fun hn => hn (.inr HC0.out)))
     have HE0 := Lib.hid (show ∀ k, E k → Plus E X (X.alloc (.cells #[.int .i64 c.kind, .bool c.goal, .string c.id, .slice A1 c.attr.length a1, .slice A2 c.value.length a2, .bool c.acc, .slice A3 c.conds.length a3] 59)) k from fun k hk => .inl hk)
     have HF0 := Lib.hid (HFX.out.trans (HK3.out.mono (fun k _ hk hd => hk (hd.imp id (HE0.out k)))))
     have x3 := (KC0.out.cell 3).trans rfl
     have x4 := (KC0.out.cell 4).trans rfl
     have xz := KC0.out.lt
     gi_wp2_with fail
     clear x3 x4 xz
     gi_loopw [26] (fun s wr => ∃ (j : Nat) (E1 : Nat → Prop) (p1 : List ByteArray), s = .int .i64 j ∧ j ≤ 2 ∧ xs = p1 ++ (restN c j ++ rc) ∧ ItSt J D E1 W p1 wr ∧ E1 X.heap.size ∧ Blk wr X.heap.size 59 #[.int .i64 c.kind, .bool c.goal, .string c.id, .slice A1 c.attr.length a1, .slice A2 c.value.length a2, .bool c.acc, .slice A3 c.conds.length a3] ∧ (∀ k, E k → E1 k) ∧ Fr (fun k => ¬ (D k ∨ E k)) X wr) (fun s wr => 2 - (intOf s).toNat)
     case atStart => exact ⟨0, _, _, rfl, by omega, HX0.out, HI0.out, HC0.out, KC0.out, HE0.out, HF0.out⟩
     case round =>
      obtain ⟨j, E1, p1, rfl, hj, hx1, hit1, hc1, hk1, he1, hf1⟩ := hrel
      have HX1 := Lib.hid hx1
      have HI1 := Lib.hid hit1
      have HC1 := Lib.hid hc1
      have KC1 := Lib.hid hk1
      have HE1 := Lib.hid he1
      have HF1 := Lib.hid hf1
      clear hx1 hit1 hc1 hk1 he1 hf1
      by_cases hlt : j < 2
      · obtain ⟨lj, Al, al, hix, hlj, hrj⟩ : ∃ (lj : List TestT) (Al : Option Addr) (al : Nat), (∀ V, (Instr.index 139 (.agg #[.slice A1 c.attr.length a1, .slice A2 c.value.length a2]) (.int .i64 (j : Int))).run Tryz.prog V = .ok (.slice Al lj.length al) V) ∧ RowR repTestT D X Al al lj ∧ restN c j = varsT lj ++ restN c (j + 1) := by
         match j, hlt with
         | 0, _ => exact ⟨c.attr, A1, a1, fun V => by rfl, H1.out, rfl⟩
         | 1, _ => exact ⟨c.value, A2, a2, fun V => by rfl, H2.out, by simp [restN]⟩
        have HLJ := Lib.hid hlj
        have hljc := hlj.cap
        have jj1 : (0 : Int) ≤ (j : Int) := by omega
        have jj2 : (j : Int) < 2 := by omega
        obtain ⟨rj, hrjd⟩ : ∃ rj, rj = restN c (j + 1) ++ rc := ⟨_, rfl⟩
        have HX2 := Lib.hid (show xs = p1 ++ (varsT (lj.drop 0) ++ rj) by rw [HX1.out, hrj, hrjd, List.drop_zero]; simp)
        have HRJ := Lib.hid hrjd
        clear hlj hrj hrjd HX1
        gi_wp2_with fail
        gi_loopw [31] (fun s wr => ∃ (i : Nat) (E1 : Nat → Prop) (p1 : List ByteArray), s = .int .i64 i ∧ i ≤ lj.length ∧ xs = p1 ++ (varsT (lj.drop i) ++ rj) ∧ ItSt J D E1 W p1 wr ∧ E1 X.heap.size ∧ Blk wr X.heap.size 59 #[.int .i64 c.kind, .bool c.goal, .string c.id, .slice A1 c.attr.length a1, .slice A2 c.value.length a2, .bool c.acc, .slice A3 c.conds.length a3] ∧ (∀ k, E k → E1 k) ∧ Fr (fun k => ¬ (D k ∨ E k)) X wr) (fun s wr => lj.length - (intOf s).toNat)
        case atStart => exact ⟨0, _, _, rfl, Nat.zero_le _, HX2.out, HI1.out, HC1.out, KC1.out, HE1.out, HF1.out⟩
        case round =>
         clear HX2 HI1 HC1 KC1 HE1 HF1
         obtain ⟨i, E1, p1, rfl, hi, hx1, hit1, hc1, hk1, he1, hf1⟩ := hrel
         have HX1 := Lib.hid hx1
         have HI1 := Lib.hid hit1
         have HC1 := Lib.hid hc1
         have KC1 := Lib.hid hk1
         have HE1 := Lib.hid he1
         have HF1 := Lib.hid hf1
         clear hx1 hit1 hc1 hk1 he1 hf1
         by_cases hlt2 : i < lj.length
         · skip
           obtain ⟨y, hy0⟩ : ∃ y, y = lj[i] := ⟨_, rfl⟩
           have htr := HLJ.out.fr HF1.out (fun k hk hn => hn (.inl hk))
           obtain ⟨gt, ot, At, at_, hA, _, hgt, q0, q1, q2, q3, q4, q5, _⟩ := at_TestT htr hlt2
           subst hA
           rw [← hy0] at q0 q1 q2 q3 q4 q5
           have HVD := Lib.hid (show varsT (lj.drop i) = oneN y.var ++ varsT (lj.drop (i + 1)) by rw [hy0]; exact varsT_drop hlt2)
           have j1 : (0 : Int) ≤ (i : Int) := by omega
           have j2 : (i : Int) < (lj.length : Int) := by omega
           clear hy0 htr
           have hbY : Below wr.heap.size wr (wr.alloc (.cells #[.int .i64 y.rel, .string y.var, .int .i64 y.sym.kind, .string y.sym.text, .int .i64 y.sym.n, .slice At y.list.length at_] 141)) := (Below.refl _ _).alloc (Nat.le_refl _) _
           have HIY := Lib.hid (HI1.out.new_ HJ.out hbY)
           have HBY := Lib.hid hbY
           have KCY := Lib.hid (KC1.out.new_ hbY)
           have HFY := Lib.hid (HF1.out.trans (Fr.of_new hbY))
           clear hbY
           by_cases hve : y.var.toList = []
           · have va : (y.var.toList == []) = true := by simp [hve]
             have vb : y.var.toList.isEmpty = true := by simp [hve]
             have vc : decide (y.var.toList = []) = true := by simp [hve]
             have HXN := Lib.hid (show xs = p1 ++ (varsT (lj.drop (i + 1)) ++ rj) by rw [HX1.out, HVD.out, oneN_no hve, List.nil_append])
             have HIN := HIY
             have HCN := Lib.hid (show Plus E1 wr (wr.alloc (.cells #[.int .i64 y.rel, .string y.var, .int .i64 y.sym.kind, .string y.sym.text, .int .i64 y.sym.n, .slice At y.list.length at_] 141)) X.heap.size from .inl HC1.out)
             have KCN := KCY
             have HEN := Lib.hid (show ∀ k, E k → Plus E1 wr (wr.alloc (.cells #[.int .i64 y.rel, .string y.var, .int .i64 y.sym.kind, .string y.sym.text, .int .i64 y.sym.n, .slice At y.list.length at_] 141)) k from fun k hk => .inl (HE1.out k hk))
             have HFN := HFY
             clear hve
             gi_wp2_with fail
             refine ⟨(fun f h => by cases h), ?_⟩
             gi_wp2_with fail
             go_roundw
             case rel => exact ⟨i + 1, _, _, by go_num, by omega, HXN.out, HIN.out, HCN.out, KCN.out, HEN.out, HFN.out⟩
             case measure => simp [intOf] <;> omega
           · have va : (y.var.toList == []) = false := by simp [hve]
             have vb : y.var.toList.isEmpty = false := by simp [hve]
             have vc : decide (y.var.toList = []) = false := by simp [hve]
             have HXV := Lib.hid (show xs = p1 ++ y.var :: (varsT (lj.drop (i + 1)) ++ rj) by rw [HX1.out, HVD.out, oneN_yes hve]; simp)
             clear hve
             obtain ⟨fy, ty, ay, by_, hy, hR⟩ := (HIY.out).round HY.out (HXV.out)
             dsimp only [encStr] at hy
             have HRR := Lib.hid hR
             clear hR
             gi_wp2_with fail
             refine ⟨rfl, HRR.out.mono ?_⟩
             rintro e W3 (⟨rfl, hi3, hk3⟩ | ⟨rfl, hT, -⟩)
             · have HI3 := Lib.hid hi3
               have HK3 := Lib.hid hk3
               clear hi3 hk3 hy
               have HXN := Lib.hid (show xs = (p1 ++ [y.var]) ++ (varsT (lj.drop (i + 1)) ++ rj) by rw [HXV.out]; simp)
               have HIN := HI3
               have HCN := Lib.hid (show Plus E1 wr (wr.alloc (.cells #[.int .i64 y.rel, .string y.var, .int .i64 y.sym.kind, .string y.sym.text, .int .i64 y.sym.n, .slice At y.list.length at_] 141)) X.heap.size from .inl HC1.out)
               have KCN := Lib.hid (KCY.out.fr HK3.out (fun hn => hn (.inr (.inl HC1.out))))
               have HEN := Lib.hid (show ∀ k, E k → Plus E1 wr (wr.alloc (.cells #[.int .i64 y.rel, .string y.var, .int .i64 y.sym.kind, .string y.sym.text, .int .i64 y.sym.n, .slice At y.list.length at_] 141)) k from fun k hk => .inl (HE1.out k hk))
               have HFN := Lib.hid (HFY.out.trans (HK3.out.mono (fun k _ hk hd => hk (hd.imp id (HEN.out k)))))
               gi_wp2_with fail
               go_roundw
               case rel => exact ⟨i + 1, _, _, by go_num, by omega, HXN.out, HIN.out, HCN.out, KCN.out, HEN.out, HFN.out⟩
               case measure => simp [intOf] <;> omega
             · have HT := Lib.hid hT
               clear hT hy
               gi_wp2_with fail
               go_ret
               exact .inr ⟨rfl, HT.out⟩
         · obtain rfl : i = lj.length := by omega
           have HX3 := Lib.hid (show xs = p1 ++ (restN c (j + 1) ++ rc) by rw [HX1.out, List.drop_length, HRJ.out]; simp [varsT])
           gi_wp2_with fail
           go_roundw
           case rel => exact ⟨j + 1, _, _, by go_num, by omega, HX3.out, HI1.out, HC1.out, KC1.out, HE1.out, HF1.out⟩
           case measure => simp [intOf] <;> omega
      · have HJ2 := Lib.hid (show j = 2 by omega)
        have HX2 := Lib.hid (show xs = p1 ++ ((c.conds.drop 0).flatMap (namesN n) ++ post) by rw [HX1.out, HRC.out, HJ2.out, List.drop_zero]; rfl)
        have jn : decide ((j : Int) < 2) = false := by simp; omega
        have k6 := (KC1.out.cell 6).trans rfl
        have kz := KC1.out.lt
        clear HX1
        gi_wp2_with fail
        clear k6 kz
        gi_loopw [50] (fun s wr => ∃ (i : Nat) (E1 : Nat → Prop) (p1 : List ByteArray), s = .int .i64 i ∧ i ≤ c.conds.length ∧ xs = p1 ++ ((c.conds.drop i).flatMap (namesN n) ++ post) ∧ ItSt J D E1 W p1 wr ∧ E1 X.heap.size ∧ Blk wr X.heap.size 59 #[.int .i64 c.kind, .bool c.goal, .string c.id, .slice A1 c.attr.length a1, .slice A2 c.value.length a2, .bool c.acc, .slice A3 c.conds.length a3] ∧ (∀ k, E k → E1 k) ∧ Fr (fun k => ¬ (D k ∨ E k)) X wr) (fun s wr => c.conds.length - (intOf s).toNat)
        case atStart => exact ⟨0, _, _, rfl, Nat.zero_le _, HX2.out, HI1.out, HC1.out, KC1.out, HE1.out, HF1.out⟩
        case round =>
         clear HX2 HI1 HC1 KC1 HE1 HF1
         obtain ⟨i, E1, p1, rfl, hi, hx1, hit1, hc1, hk1, he1, hf1⟩ := hrel
         have HX1 := Lib.hid hx1
         have HI1 := Lib.hid hit1
         have HC1 := Lib.hid hc1
         have KC1 := Lib.hid hk1
         have HE1 := Lib.hid he1
         have HF1 := Lib.hid hf1
         clear hx1 hit1 hc1 hk1 he1 hf1
         by_cases hlt2 : i < c.conds.length
         · obtain ⟨m, hnm⟩ : ∃ m, n = m + 1 := by
            cases n with
            | zero => have := row_zero H3.out; rw [this] at hlt2; simp at hlt2
            | succ m => exact ⟨m, rfl⟩
           subst hnm
           obtain ⟨y, hy0⟩ : ∃ y, y = c.conds[i] := ⟨_, rfl⟩
           have hcr := H3.out.fr HF1.out (fun k hk hn => hn (.inl hk))
           obtain ⟨gt, ot, B1, b1_, B2, b2_, B3, b3_, hA, _, hgt, q0, q1, q2, q3, q4, q5, q6, -, -, -⟩ := at_CondT hcr hlt2
           have HDC := Lib.hid (show (c.conds.drop i).flatMap (namesN (m + 1)) = namesN (m + 1) y ++ (c.conds.drop (i + 1)).flatMap (namesN (m + 1)) by rw [hy0, List.drop_eq_getElem_cons hlt2, List.flatMap_cons])
           subst hA
           rw [← hy0] at q0 q1 q2 q3 q4 q5 q6
           obtain ⟨_, _, _, _, _, _, _, _, hA9, _, _, _, _, _, q3', q4', _, q6', r1, r2, r3⟩ := at_CondT hcr hlt2
           injection hA9 with hA9
           injection hA9 with e1 e2
           subst e1
           subst e2
           rw [← hy0] at q3' q4' q6' r1 r2 r3
           rw [q3] at q3'
           rw [q4] at q4'
           rw [q6] at q6'
           injection q3' with q3'; injection q3' with s1 s2 s3; subst s1; subst s3
           injection q4' with q4'; injection q4' with s4 s5 s6; subst s4; subst s6
           injection q6' with q6'; injection q6' with s7 s8 s9; subst s7; subst s9
           have j1 : (0 : Int) ≤ (i : Int) := by omega
           have j2 : (i : Int) < (c.conds.length : Int) := by omega
           have hbY : Below wr.heap.size wr (wr.alloc (.cells #[.int .i64 y.kind, .bool y.goal, .string y.id, .slice B1 y.attr.length b1_, .slice B2 y.value.length b2_, .bool y.acc, .slice B3 y.conds.length b3_] 59)) := (Below.refl _ _).alloc (Nat.le_refl _) _
           have HXY := Lib.hid (show xs = p1 ++ (namesN (m + 1) y ++ ((c.conds.drop (i + 1)).flatMap (namesN (m + 1)) ++ post)) by rw [HX1.out, HDC.out, List.append_assoc])
           have HIH := Lib.hid (IH.out m rfl y B1 b1_ B2 b2_ B3 b3_ (Plus E1 wr (wr.alloc (.cells #[.int .i64 y.kind, .bool y.goal, .string y.id, .slice B1 y.attr.length b1_, .slice B2 y.value.length b2_, .bool y.acc, .slice B3 y.conds.length b3_] 59))) p1 _ (wr.alloc (.cells #[.int .i64 y.kind, .bool y.goal, .string y.id, .slice B1 y.attr.length b1_, .slice B2 y.value.length b2_, .bool y.acc, .slice B3 y.conds.length b3_] 59)) HXY.out (r1.new_ hbY) (r2.new_ hbY) (r3.new_ hbY) (HI1.out.new_ HJ.out hbY))
           have KCY := Lib.hid (KC1.out.new_ hbY)
           have HFY := Lib.hid (HF1.out.trans (Fr.of_new hbY))
           clear hy0 hcr r1 r2 r3 hbY s2 s5 s8
           gi_wp2_with fail
           refine ⟨trivial, rfl, ?_⟩
           refine HIH.out.mono ?_
           rintro e w5 (⟨rfl, ⟨E5, he5, hi5⟩, hf5⟩ | ⟨rfl, hT⟩)
           · have HXN := Lib.hid (show xs = (p1 ++ namesN (m + 1) y) ++ ((c.conds.drop (i + 1)).flatMap (namesN (m + 1)) ++ post) by rw [HXY.out]; simp)
             have HI5 := Lib.hid hi5
             have HC5 := Lib.hid (he5 _ (.inl HC1.out))
             have KC5 := Lib.hid (KCY.out.fr hf5 (fun hn => hn (.inr (.inl HC1.out))))
             have HE5 := Lib.hid (show ∀ k, E k → E5 k from fun k hk => he5 k (.inl (HE1.out k hk)))
             have HF5 := Lib.hid (HFY.out.trans (hf5.mono (fun k _ hk hd => hk (hd.imp id (fun h => .inl (HE1.out k h))))))
             clear he5 hi5 hf5 q0 q1 q2 q3 q4 q5 q6
             gi_wp2_with fail
             go_roundw
             case rel => exact ⟨i + 1, _, _, by go_num, by omega, HXN.out, HI5.out, HC5.out, KC5.out, HE5.out, HF5.out⟩
             case measure => simp [intOf] <;> omega
           · have HT := Lib.hid hT
             clear hT q0 q1 q2 q3 q4 q5 q6
             gi_wp2_with fail
             go_ret
             exact .inr ⟨rfl, HT.out⟩
         · obtain rfl : i = c.conds.length := by omega
           have HXE := Lib.hid (show p1 = pre ++ namesN (n + 1) c by
            have h := HX1.out
            rw [List.drop_length, List.flatMap_nil, List.nil_append, HXX.out, ← List.append_assoc] at h
            exact (List.append_cancel_right h).symm)
           gi_wp2_with fail
           go_ret
           exact .inl ⟨rfl, ⟨E1, HE1.out, by have := HI1.out; rw [HXE.out] at this; exact this⟩, HF1.out⟩
   · have HT := Lib.hid hT
     clear hT hy
     gi_wp2_with fail
     go_ret
     exact .inr ⟨rfl, HT.out⟩
end Go.Proofs.YtffemfglngikbaaGreat
namespace Go.Proofs.YtffemfglngikbaaGreat
open Go.RowKit Go.Shelf
attribute [local go_sem] Oper.semAt_some
theorem names_is (n lo : Nat) (xs : List ByteArray) (J Jx : (Nat → Prop) → List ByteArray → World → Prop) (D : Nat → Prop) (W : World) (hJ : Steady W.heap.size J) (hY : RoundsO Tryz.prog lo encStr xs J Jx) : NamesSpec n lo xs J Jx D W := by
 induction n with
 | zero => exact names_step 0 lo xs J Jx D W hJ hY (fun m h => by omega)
 | succ n ih => exact names_step (n + 1) lo xs J Jx D W hJ hY (fun m h => by obtain rfl : n = m := by omega
                                                                             exact ih)
set_option maxRecDepth 100000 in
set_option maxHeartbeats 4000000 in
theorem namesI_is {D : Nat → Prop} (n : Nat) (c : CondT) (kb : Nat) (A1 A2 A3 : Option Addr) (a1 a2 a3 : Nat) (W : World) (hkb : Blk W kb 59 #[.int .i64 c.kind, .bool c.goal, .string c.id, .slice A1 c.attr.length a1, .slice A2 c.value.length a2, .bool c.acc, .slice A3 c.conds.length a3]) (_ : D kb)
 (h1 : RowR repTestT D W A1 a1 c.attr) (h2 : RowR repTestT D W A2 a2 c.value) (h3 : RowR (repCondT n) D W A3 a3 c.conds) :
 IterO Tryz.prog 211 #[.pointer (some ⟨kb, 0, none⟩)] encStr (namesN (n + 1) c) W D := by
 intro lo J Jx hJ hJx h0 hY
 have hc := names_is n lo (namesN (n + 1) c) J Jx D W hJ hY c A1 a1 A2 a2 A3 a3 (fun _ => False) [] [] W (by simp) h1 h2 h3 (ItSt.start h0)
 obtain ⟨ns, hns⟩ : ∃ ns, ns = namesN (n + 1) c := ⟨_, rfl⟩
 rw [← hns] at hc ⊢
 have HC := Lib.hid hc
 obtain ⟨q0, q1, q2, q3, q4, q5, q6⟩ := hkb.c7
 have hkl := hkb.lt
 clear hc hns h0 hJ hJx hY h1 h2 h3 hkb
 refine callsIn_of_wp Tryz.func211 rfl trivial ?_
 simp only [Tryz.ntmps211, List.size_toArray, List.length_cons, List.length_nil, Nat.reduceAdd, Nat.reduceSub, Array.replicate_succ, Array.replicate_zero, List.push_toArray, List.append_toArray, List.nil_append, List.cons_append]
 gi_wp2_with fail
 refine ⟨trivial, rfl, ?_⟩
 refine HC.out.mono ?_
 rintro e w5 (⟨rfl, ⟨E5, _, hi5⟩, _⟩ | ⟨rfl, hT⟩)
 · have HI5 := Lib.hid hi5
   clear hi5 q0 q1 q2 q3 q4 q5 q6
   gi_wp2_with fail
   go_end0
   refine ⟨⟨_, rfl⟩, ?_⟩
   have := HI5.out
   rw [List.nil_append] at this
   exact this.told
 · have HT := Lib.hid hT
   clear hT q0 q1 q2 q3 q4 q5 q6
   gi_wp2_with fail
   go_end0
   exact ⟨⟨_, rfl⟩, HT.out⟩
set_option maxHeartbeats 400000 in
theorem mknames_is (c : CondT) (A1 A2 A3 : Option Addr) (a1 a2 a3 : Nat) (w : World) :
 Calls Tryz.prog 147 #[.agg #[.int .i64 c.kind, .bool c.goal, .string c.id, .slice A1 c.attr.length a1, .slice A2 c.value.length a2, .bool c.acc, .slice A3 c.conds.length a3]] w fun e w' => e = .returned (.func (.func 211) #[] #[.pointer (some ⟨w.heap.size, 0, none⟩)]) ∧ Blk w' w.heap.size 59 #[.int .i64 c.kind, .bool c.goal, .string c.id, .slice A1 c.attr.length a1, .slice A2 c.value.length a2, .bool c.acc, .slice A3 c.conds.length a3] ∧ Below w.heap.size w w' := by
 go_enter Tryz.func147, Tryz.ntmps147
 go_wp2_with fail
 go_ret
 exact ⟨rfl, Blk.new _ _ _, (Below.refl _ _).alloc (Nat.le_refl _) _⟩
end Go.Proofs.YtffemfglngikbaaGreat
namespace Go.Proofs.YtffemfglngikbaaGreat
open Go.RowKit
variable {P : Program} {α : Type}
def StopSt (Jx : (Nat → Prop) → List α → World → Prop) (D E : Nat → Prop) (W : World) (xs : List α) (X : World) : Prop :=
 ∃ D' pre post, (∀ k, D k → D' k) ∧ (∀ k, E k → D' k) ∧ xs = pre ++ post ∧ Jx D' pre X ∧ (∀ k, E k → W.heap.size ≤ k) ∧ W.heap.size ≤ X.heap.size
section
variable {J Jx : (Nat → Prop) → List α → World → Prop} {D E E' : Nat → Prop} {W X Y : World} {pre xs : List α}
theorem StopSt.step (h : StopSt Jx D E W xs X) (hJ : Steady W.heap.size Jx) (hF : Fr E X Y) : StopSt Jx D (Plus E X Y) W xs Y := by
 obtain ⟨D', p, q, h1, h2, h3, h4, h5, h6⟩ := h
 refine ⟨Plus D' X Y, p, q, fun k hk => .inl (h1 k hk), fun k hk => hk.imp (h2 k) id, h3, hJ _ _ _ _ h4 (hF.mono (fun k _ hk => ⟨h2 k hk, h5 k hk⟩)), fun k hk => ?_, Nat.le_trans h6 hF.size⟩
 rcases hk with hk | hk
 · exact h5 k hk
 · exact Nat.le_trans h6 hk.1
theorem StopSt.same (h : StopSt Jx D E W xs X) (hJ : Steady W.heap.size Jx) (hF : Fr E X Y) (hz : Y.heap.size = X.heap.size) : StopSt Jx D E W xs Y := by
 have := h.step hJ hF
 rwa [Plus.same hz] at this
theorem StopSt.told (h : StopSt Jx D E W xs X) : ToldO xs J Jx X := by
 obtain ⟨D', p, q, _, _, h3, h4, _⟩ := h
 exact ⟨D', .inr ⟨p, q, h3, h4⟩⟩
theorem ItSt.same (h : ItSt J D E W pre X) (hJ : Steady W.heap.size J) (hF : Fr E X Y) (hz : Y.heap.size = X.heap.size) : ItSt J D E W pre Y := by
 have := h.step hJ hF
 rwa [Plus.same hz] at this
theorem ItSt.roundS {l : Nat} {encs : α → Array Value} {x : α} {post : List α} (h : ItSt J D E W pre X) (hY : RoundsO P l encs xs J Jx) (hx : xs = pre ++ x :: post) :
 YieldAt Fence.wide 0 P l (encs x) X fun e W' => (e = .returned (.bool true) ∧ ItSt J D E W (pre ++ [x]) W' ∧ Fr (fun k => ¬ (D k ∨ E k)) X W') ∨ (e = .returned (.bool false) ∧ StopSt Jx D E W xs W' ∧ Fr (fun k => ¬ (D k ∨ E k)) X W') := by
 obtain ⟨D', h1, h2, h3, h4, h5⟩ := h
 obtain ⟨fn, tmps, assign, body, hy, hR⟩ := hY D' pre x post X hx h3
 refine ⟨fn, tmps, assign, body, hy, hR.mono ?_⟩
 rintro e W' (⟨g1, g2, g3⟩ | ⟨g1, g2, g3⟩)
 · exact .inl ⟨g1, ⟨D', h1, h2, g2, h4.trans (g3.mono (fun k _ hk hd => hk (h1 k hd))), h5⟩, g3.mono (fun k _ hk hd => hk (hd.elim (h1 k) (h2 k)))⟩
 · exact .inr ⟨g1, ⟨D', pre ++ [x], post, h1, h2, by rw [hx]; simp, g2, h5, Nat.le_trans h4.size g3.size⟩, g3.mono (fun k _ hk hd => hk (hd.elim (h1 k) (h2 k)))⟩
end
def Marks (E : Nat → Prop) : List Deferred → World → Prop
 | [], _ => True
 | d :: ds, w => (∃ r, d = { target := .collected r, args := #[] } ∧ E r ∧ w.heap[r]? = some (.deferred (some [])) ∧ ∀ d' ∈ ds, d'.target ≠ .collected r) ∧ Marks E ds w
section
variable {E E' : Nat → Prop} {ds : List Deferred} {w w' : World}
theorem Marks.mono (h : Marks E ds w) (hE : ∀ k, E k → E' k) : Marks E' ds w := by
 induction ds with
 | nil => trivial
 | cons d ds ih =>
   obtain ⟨⟨r, h1, h2, h3, h4⟩, h5⟩ := h
   exact ⟨⟨r, h1, hE r h2, h3, h4⟩, ih h5⟩
theorem Marks.fr {M : Nat → Prop} (h : Marks E ds w) (hF : Fr M w w') (hM : ∀ k, E k → ¬ M k) : Marks E ds w' := by
 induction ds with
 | nil => trivial
 | cons d ds ih =>
   obtain ⟨⟨r, h1, h2, h3, h4⟩, h5⟩ := h
   exact ⟨⟨r, h1, h2, (hF.block r (Array.getElem?_eq_some_iff.1 h3).1 (hM r h2)).trans h3, h4⟩, ih h5⟩
theorem Marks.of (h : Marks E ds w) : Marks (fun k => E k ∧ k < w.heap.size) ds w := by
 induction ds with
 | nil => trivial
 | cons d ds ih =>
   obtain ⟨⟨r, h1, h2, h3, h4⟩, h5⟩ := h
   exact ⟨⟨r, h1, ⟨h2, (Array.getElem?_eq_some_iff.1 h3).1⟩, h3, h4⟩, ih h5⟩
theorem Marks.in_ (h : Marks E ds w) : ∀ d ∈ ds, ∀ r, d.target = .collected r → E r := by
 induction ds with
 | nil => intro d hd; cases hd
 | cons d ds ih =>
   obtain ⟨⟨r, h1, h2, h3, h4⟩, h5⟩ := h
   intro d' hd r' hr
   rcases List.mem_cons.1 hd with e | hd
   · subst e; subst h1
     injection hr with hr
     subst hr
     exact h2
   · exact ih h5 d' hd r' hr
theorem Marks.cons {d : Nat} (h : Marks E ds w) (hE : ∀ k, E k → E' k) (hd : E' d) (hk : w.heap[d]? = some (.deferred (some []))) (hn : ¬ E d) : Marks E' ({ target := .collected d, args := #[] } :: ds) w :=
 ⟨⟨d, rfl, hd, hk, fun d' hd' e => hn (h.in_ d' hd' d e)⟩, h.mono hE⟩
theorem leaves_marks {F : Fence} {n : Nat} {fn : Func} {tmps : Array Value} {R : Ending → World → Prop} : ∀ (ds : List Deferred) (w : World), Marks E ds w → (∀ w', Fr E w w' → w'.heap.size = w.heap.size → LeavesInM F n P fn tmps R [] .returning w') → LeavesInM F n P fn tmps R ds .returning w
 | [], w, _, hR => hR w (Fr.refl _ _) rfl
 | d :: ds, w, ⟨⟨r, h1, h2, h3, h4⟩, h5⟩, hR => by
   subst h1
   have hput : Fr (· = r) w (w.putObj r (.deferred none)) := (Fr.refl (· = r) w).putObj (.inl rfl) _
   have hm : Marks E ds (w.putObj r (.deferred none)) := by
    clear hR
    induction ds with
    | nil => trivial
    | cons d ds ih =>
      obtain ⟨⟨r', g1, g2, g3, g4⟩, g5⟩ := h5
      refine ⟨⟨r', g1, g2, (hput.block r' (Array.getElem?_eq_some_iff.1 g3).1 (fun e => h4 d (by simp) (by rw [g1, e]))).trans g3, g4⟩, ih (fun d' hd' => h4 d' (by simp [hd'])) g5⟩
   exact ⟨by simp, .inl ⟨_, _, rfl, run_takeDeferred h3, leaves_marks ds _ hm (fun w' hF hz => hR w' ((hput.mono (fun k _ e => by rw [e]; exact h2)).trans hF) (by rw [hz]; simp))⟩⟩
end
end Go.Proofs.YtffemfglngikbaaGreat
