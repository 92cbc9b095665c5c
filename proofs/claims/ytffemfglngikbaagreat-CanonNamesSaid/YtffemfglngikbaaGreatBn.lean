/-
  Texts put together: Shape6, Show6, ShowSz, Canon8.
-/
import Derived.Test.YtffemfglngikbaaGreatBl
import Derived.Test.YtffemfglngikbaaGreatBm
import Derived.Test.YtffemfglngikbaaGreatBd
import Derived.Test.YtffemfglngikbaaGreatBk
import Derived.Test.YtffemfglngikbaaGreatBi
namespace Go.Proofs.YtffemfglngikbaaGreat
open Go.RowKit Go.Shelf
attribute [local go_sem] Oper.semAt_some
set_option maxRecDepth 100000 in
set_option maxHeartbeats 16000000 in
theorem shape_is {D : Nat → Prop} (p : ProdT) (n : Nat) (A1 A2 : Option Addr) (c1 c2 : Nat) (w : World) (h1 : RowR (repCondT n) D w A1 c1 p.conds) (h2 : RowR repActT D w A2 c2 p.acts) (hD : ∀ k, D k → k < w.heap.size) (hF : (flatC n 0 p.conds).length ≤ 1000000000) (hn : n ≤ 1000000000) :
 Calls Tryz.prog 170 #[.agg #[.string p.name, .slice A1 p.conds.length c1, .slice A2 p.acts.length c2]] w fun e w' => e = .returned (.tuple #[.int .i64 (shapeP n p).1, .int .i64 (shapeP n p).2]) ∧ Below w.heap.size w w' := by
 have H1 := Lib.hid h1
 have H2 := Lib.hid h2
 have HD := Lib.hid hD
 have hl2 := h2.cap
 clear h1 h2 hD
 by_cases hw : isWord p.name = false
 · have HR := Lib.hid (show shapeP n p = (-1, 2) by unfold shapeP; rw [if_pos hw])
   have w1 := hw
   clear hw
   go_enter Tryz.func170, Tryz.ntmps170
   go_wp2_with (go_at_call 126; refine (word_is p.name _).mono ?_; rintro e w9 ⟨rfl, rfl⟩)
   go_ret2
   exact ⟨by rw [HR.out] <;> rfl, (Below.refl _ _).alloc (Nat.le_refl _) _⟩
 have w1 : isWord p.name = true := by simpa using hw
 have HW := Lib.hid hw
 clear hw
 obtain ⟨F, hFd⟩ : ∃ F, F = flatC n 0 p.conds := ⟨_, rfl⟩
 have HFD := Lib.hid hFd
 rw [← hFd] at hF
 clear hFd
 go_enter Tryz.func170, Tryz.ntmps170
 go_upto_region 4 with (go_at_call 126; refine (word_is p.name _).mono ?_; rintro e w9 ⟨rfl, rfl⟩)
 obtain ⟨W1, hW1⟩ : ∃ W1, W1 = (w.alloc (.cells #[.string p.name, .slice A1 p.conds.length c1, .slice A2 p.acts.length c2] 25)).alloc (.cells #[.int .i64 0] 3) := ⟨_, rfl⟩
 rw [← hW1]
 have hb1 : Below w.heap.size w W1 := by rw [hW1]; exact ((Below.refl _ _).alloc (Nat.le_refl _) _).alloc (by simp) _
 have hP : Blk W1 w.heap.size 25 #[.string p.name, .slice A1 p.conds.length c1, .slice A2 p.acts.length c2] := by rw [hW1]; exact (Blk.new w 25 #[.string p.name, .slice A1 p.conds.length c1, .slice A2 p.acts.length c2]).alloc _
 have hN : Blk W1 (w.heap.size + 1) 3 #[.int .i64 0] := by
  rw [hW1]
  have := Blk.new (w.alloc (.cells #[.string p.name, .slice A1 p.conds.length c1, .slice A2 p.acts.length c2] 25)) 3 #[.int .i64 0]
  rw [show (w.alloc (.cells #[.string p.name, .slice A1 p.conds.length c1, .slice A2 p.acts.length c2] 25)).heap.size = w.heap.size + 1 from by simp] at this
  exact this
 obtain ⟨bn, hbn⟩ : ∃ bn, bn = w.heap.size + 1 := ⟨_, rfl⟩
 obtain ⟨px, hpx⟩ : ∃ px, px = w.heap.size := ⟨_, rfl⟩
 rw [← hbn] at hN ⊢
 rw [← hpx] at hP
 have HPX := Lib.hid hpx
 have HBN := Lib.hid hbn
 have hDn : ¬ D bn := fun h => by have := HD.out _ h; omega
 have p1 : W1.cell? ⟨w.heap.size, 1, none⟩ = some (.slice A1 p.conds.length c1) := by rw [← hpx]; exact (hP.cell 1).trans rfl
 have hpl : w.heap.size < W1.heap.size := by rw [← hpx]; exact hP.lt
 have HB1 := Lib.hid hb1
 have HP := Lib.hid hP
 have HN := Lib.hid hN
 clear hW1 hbn hpx hb1 hP hN
 go_wp2_with fail
 have hwk := walk_is (yld1 (D := D) bn hDn F) hF n 0 0 A1 c1 p.conds W1 (H1.out.new_ HB1.out) (fun k hk => by rw [hk]; exact HN.out.lt) ⟨[], by rw [← HFD.out]; simp⟩ (by rw [← HFD.out]; omega) (by omega) ⟨HN.out, by omega⟩
 rw [← HFD.out] at hwk
 refine hwk.mono ?_
 rintro e W2 ⟨b, a, rfl, hbt, hbf, hF2⟩
 have hm : ∃ m : Nat, Blk W2 bn 3 #[.int .i64 (m : Int)] ∧ ((m = F.length ∧ m ≤ 16) ∨ (m = 17 ∧ 16 < F.length)) := by
  cases b with
  | true =>
    obtain ⟨ha, hI⟩ := hbt rfl
    exact ⟨a, hI.1, .inl ⟨by omega, hI.2⟩⟩
  | false =>
    have hS := hbf rfl
    exact ⟨17, hS.1, .inr ⟨rfl, hS.2⟩⟩
 obtain ⟨m, hM, hmF⟩ := hm
 have hP2 := HP.out.fr hF2 (fun e => by have := HPX.out; have := HBN.out; omega)
 have HB2 := Lib.hid (HB1.out.trans (hF2.below HB1.out.size (fun k hk e => by have := HBN.out; omega)))
 have n0 : W2.cell? ⟨bn, 0, none⟩ = some (.int .i64 (m : Int)) := (hM.cell 0).trans rfl
 have p1' : W2.cell? ⟨w.heap.size, 1, none⟩ = some (.slice A1 p.conds.length c1) := by rw [← HPX.out]; exact (hP2.cell 1).trans rfl
 have p2' : W2.cell? ⟨w.heap.size, 2, none⟩ = some (.slice A2 p.acts.length c2) := by rw [← HPX.out]; exact (hP2.cell 2).trans rfl
 have hpl2 : w.heap.size < W2.heap.size := by rw [← HPX.out]; exact hP2.lt
 have hnl := hM.lt
 have HM := Lib.hid hM
 have HP2 := Lib.hid hP2
 clear hwk hbt hbf hF2 hM hP2 p1 hpl
 have bad : (F.length < 1 ∨ 16 < F.length ∨ p.acts.length < 1 ∨ 16 < p.acts.length) → shapeP n p = (-1, 7) := fun h => by
  unfold shapeP
  rw [if_neg HW.out, ← HFD.out, if_pos h]
 have HBAD := Lib.hid bad
 clear bad
 by_cases k1 : m < 1
 · have t1 : decide ((m : Int) < 1) = true := decide_eq_true (by omega)
   have t1n : decide (m < 1) = true := decide_eq_true (by omega)
   have HR := Lib.hid (HBAD.out (by omega))
   clear k1
   go_wp2_with fail
   go_ret2
   exact ⟨by rw [HR.out] <;> rfl, HB2.out⟩
 have t1 : decide ((m : Int) < 1) = false := decide_eq_false (by omega)
 have t1n : decide (m < 1) = false := decide_eq_false (by omega)
 by_cases k2 : 16 < m
 · have t2 : decide ((16 : Int) < (m : Int)) = true := decide_eq_true (by omega)
   have t2n : decide (16 < m) = true := decide_eq_true (by omega)
   have HR := Lib.hid (HBAD.out (by omega))
   clear k1 k2
   go_wp2_with fail
   go_ret2
   exact ⟨by rw [HR.out] <;> rfl, HB2.out⟩
 have t2 : decide ((16 : Int) < (m : Int)) = false := decide_eq_false (by omega)
 have t2n : decide (16 < m) = false := decide_eq_false (by omega)
 have hmF' : m = F.length := by omega
 by_cases k3 : p.acts.length < 1
 · have t3 : decide ((p.acts.length : Int) < 1) = true := decide_eq_true (by omega)
   have t3n : decide (p.acts.length < 1) = true := decide_eq_true (by omega)
   have HR := Lib.hid (HBAD.out (by omega))
   have hz0 : p.acts.length = 0 := by omega
   clear k1 k2 k3 hmF hmF'
   go_wp2_with fail
   go_ret2
   exact ⟨by rw [HR.out] <;> rfl, HB2.out⟩
 have t3 : decide ((p.acts.length : Int) < 1) = false := decide_eq_false (by omega)
 have t3n : decide (p.acts.length < 1) = false := decide_eq_false (by omega)
 by_cases k4 : 16 < p.acts.length
 · have t4 : decide ((16 : Int) < (p.acts.length : Int)) = true := decide_eq_true (by omega)
   have t4n : decide (16 < p.acts.length) = true := decide_eq_true (by omega)
   have HR := Lib.hid (HBAD.out (by omega))
   clear k1 k2 k3 k4 hmF hmF'
   go_wp2_with fail
   go_ret2
   exact ⟨by rw [HR.out] <;> rfl, HB2.out⟩
 have t4 : decide ((16 : Int) < (p.acts.length : Int)) = false := decide_eq_false (by omega)
 have t4n : decide (16 < p.acts.length) = false := decide_eq_false (by omega)
 clear k1 k2 k3 k4 hmF
 have HMF := Lib.hid hmF'
 clear hmF'
 have good : ∀ r : Int × Int, (match F.findIdx? (fun c => decide (condE c.2 c.1 ≠ 0)) with
  | some k => ((k : Int), ((F[k]?).map fun c => condE c.2 c.1).getD 0)
  | none => match p.acts.findIdx? (fun a => !actB a) with
    | some i => (F.length + i, 9)
    | none => (-1, 0)) = r → shapeP n p = r := fun r h => by
  have ht2 := t2n
  have ht1 := t1n
  have ht3 := t3n
  have ht4 := t4n
  rw [decide_eq_false_iff_not] at ht1 ht2 ht3 ht4
  unfold shapeP
  rw [if_neg HW.out, ← HFD.out, if_neg (by have := HMF.out; omega)]
  exact h
 have HGOOD := Lib.hid good
 clear good
 go_upto_region 8 with fail
 obtain ⟨W3, hW3⟩ : ∃ W3, W3 = (W2.alloc (.cells #[.int .i64 (-1)] 3)).alloc (.cells #[.int .i64 0] 42) := ⟨_, rfl⟩
 rw [← hW3]
 have hb3 : Below W2.heap.size W2 W3 := by rw [hW3]; exact ((Below.refl _ _).alloc (Nat.le_refl _) _).alloc (by simp) _
 have hQ : Blk W3 W2.heap.size 3 #[.int .i64 (-1)] := by rw [hW3]; exact (Blk.new W2 3 #[.int .i64 (-1)]).alloc _
 have hE : Blk W3 (W2.heap.size + 1) 42 #[.int .i64 0] := by
  rw [hW3]
  have := Blk.new (W2.alloc (.cells #[.int .i64 (-1)] 3)) 42 #[.int .i64 0]
  rw [show (W2.alloc (.cells #[.int .i64 (-1)] 3)).heap.size = W2.heap.size + 1 from by simp] at this
  exact this
 obtain ⟨be, hbe⟩ : ∃ be, be = W2.heap.size + 1 := ⟨_, rfl⟩
 obtain ⟨bp, hbp⟩ : ∃ bp, bp = W2.heap.size := ⟨_, rfl⟩
 rw [← hbe] at hE ⊢
 rw [← hbp] at hQ ⊢
 have hz2 := HB2.out.size
 have hD1 : ¬ D be := fun h => by have := HD.out _ h; omega
 have hD2 : ¬ D bp := fun h => by have := HD.out _ h; omega
 have q1 : W3.cell? ⟨w.heap.size, 1, none⟩ = some (.slice A1 p.conds.length c1) := (hb3.cell (p := ⟨w.heap.size, 1, none⟩) hpl2).trans p1'
 have hpl3 := Nat.lt_of_lt_of_le hpl2 hb3.size
 have HB3 := Lib.hid hb3
 have HE := Lib.hid hE
 have HQ := Lib.hid hQ
 have HBE := Lib.hid hbe
 have HBP := Lib.hid hbp
 clear hW3 hb3 hE hQ hbe hbp p1' n0 hnl
 go_wp2_with fail
 have hwk := walk_is (yld2 (D := D) be bp hD1 hD2 (by have := HBE.out; have := HBP.out; omega) F) hF n 0 0 A1 c1 p.conds W3 (H1.out.new_ (HB2.out.trans (HB3.out.mono hz2))) (fun k hk => hk.elim (fun e => e ▸ HE.out.lt) (fun e => e ▸ HQ.out.lt)) ⟨[], by rw [← HFD.out]; simp⟩ (by rw [← HFD.out]; omega) (by omega) ⟨HE.out, HQ.out, fun j _ h => absurd h (by omega)⟩
 rw [← HFD.out] at hwk
 refine hwk.mono ?_
 rintro e W4 ⟨b, a2, rfl, hbt, hbf, hF4⟩
 have HB4 := Lib.hid (show Below w.heap.size w W4 from (HB2.out.trans (HB3.out.mono hz2)).trans (hF4.below (by have := HB3.out.size; omega) (fun k hk e => by have := HBE.out; have := HBP.out; rcases e with e | e <;> omega)))
 have hM4 := (HM.out.new_ HB3.out).fr hF4 (fun e => by have h1 := HM.out.lt; have := HBE.out; have := HBP.out; rcases e with e | e <;> omega)
 have hP4 := (HP2.out.new_ HB3.out).fr hF4 (fun e => by have h1 := HP2.out.lt; have := HBE.out; have := HBP.out; rcases e with e | e <;> omega)
 have HM4 := Lib.hid hM4
 have r2 : W4.cell? ⟨w.heap.size, 2, none⟩ = some (.slice A2 p.acts.length c2) := by rw [← HPX.out]; exact (hP4.cell 2).trans rfl
 have hpl4 : w.heap.size < W4.heap.size := by rw [← HPX.out]; exact hP4.lt
 have n4 : W4.cell? ⟨bn, 0, none⟩ = some (.int .i64 (m : Int)) := (hM4.cell 0).trans rfl
 have hnl4 := hM4.lt
 clear hwk hF4 hM4 hP4 q1 hpl3 p2' hpl2
 cases b with
 | false =>
   obtain ⟨k, hk, hE4, hQ4, hne, hall⟩ := hbf rfl
   obtain ⟨z, hz⟩ : ∃ z, z = condE F[k].2 F[k].1 := ⟨_, rfl⟩
   have hR : shapeP n p = ((k : Int), z) := by
    refine HGOOD.out _ ?_
    have hfi : F.findIdx? (fun c => decide (condE c.2 c.1 ≠ 0)) = some k := by
     rw [List.findIdx?_eq_some_iff_getElem]
     exact ⟨hk, by simpa using hne, fun j hj => by simpa using hall j (by omega) hj⟩
    rw [hfi]
    simp [List.getElem?_eq_getElem hk, hz]
   rw [← hz] at hE4 hne
   have HR := Lib.hid hR
   have s0 : W4.cell? ⟨be, 0, none⟩ = some (.int .i64 z) := (hE4.cell 0).trans rfl
   have s1 : W4.cell? ⟨bp, 0, none⟩ = some (.int .i64 (k : Int)) := (hQ4.cell 0).trans rfl
   have hl0 := hE4.lt
   have hl1 := hQ4.lt
   have t5 : (z == 0) = false := by simp [hne]
   have t6 : decide (z = 0) = false := by simp [hne]
   clear hR hz hE4 hQ4 hall hbt hbf hne n4 r2
   go_wp2_with fail
   go_quiet (fail)
   go_wp2_with fail
   go_ret2
   exact ⟨by rw [HR.out] <;> rfl, Below.drewN' HB4.out _⟩
 | true =>
   obtain ⟨_, hE4, _, hall⟩ := hbt rfl
   have hnone : F.findIdx? (fun c => decide (condE c.2 c.1 ≠ 0)) = none := by
    rw [List.findIdx?_eq_none_iff]
    intro x hx
    obtain ⟨j, hj, rfl⟩ := List.getElem_of_mem hx
    have := hall j hj (by omega)
    simpa using this
   have HNO := Lib.hid hnone
   have s0 : W4.cell? ⟨be, 0, none⟩ = some (.int .i64 0) := (hE4.cell 0).trans rfl
   have hl0 := hE4.lt
   clear hnone hall hbt hbf hE4
   go_wp2_with fail
   go_loopw [46] (fun s wr => ∃ i : Nat, s = .int .i64 i ∧ i ≤ p.acts.length ∧ (∀ k, (h : k < p.acts.length) → k < i → actB p.acts[k] = true) ∧ Below W4.heap.size W4 wr) (fun s wr => p.acts.length - (intOf s).toNat)
   case atStart => exact ⟨0, rfl, Nat.zero_le _, fun k _ h => absurd h (by omega), Below.refl _ _⟩
   case round =>
    obtain ⟨i, rfl, hi, hall, hBr⟩ := hrel
    have HALL := Lib.hid hall
    have HBr := Lib.hid hBr
    have hz4 := HB4.out.size
    have hzr := hBr.size
    clear hall hBr
    by_cases hlt : i < p.acts.length
    · obtain ⟨y, hy⟩ : ∃ y, y = p.acts[i] := ⟨_, rfl⟩
      obtain ⟨g, off, hAA, _, hg, q0, q1, q2, q3, q4, q5, q6, q7, q8, q9, q10, q11, q12, q13, q14, q15, q16, q17, q18⟩ := at_ActT (H2.out.new_ (HB4.out.trans (HBr.out.mono hz4))) hlt
      subst hAA
      rw [← hy] at q0 q1 q2 q3 q4 q5 q6 q7 q8 q9 q10 q11 q12 q13 q14 q15 q16 q17 q18
      have HY := Lib.hid hy
      have b1 : (0 : Int) ≤ (i : Int) := by omega
      have b2 : (i : Int) < (p.acts.length : Int) := by omega
      have HRG := Lib.hid (show wr.rangeAt g (off + i * 19) [.string y.id, .string y.attr.var, .int .i64 y.attr.sym.kind, .string y.attr.sym.text, .int .i64 y.attr.sym.n, .int .i64 y.value.op, .string y.value.a.var, .int .i64 y.value.a.sym.kind, .string y.value.a.sym.text, .int .i64 y.value.a.sym.n, .string y.value.b.var, .int .i64 y.value.b.sym.kind, .string y.value.b.sym.text, .int .i64 y.value.b.sym.n, .int .i64 y.pref, .string y.other.var, .int .i64 y.other.sym.kind, .string y.other.sym.text, .int .i64 y.other.sym.n] from fun j v hv => by
       obtain ⟨g', off', cs, e1, _, _, hr, hc⟩ := (H2.out.new_ (HB4.out.trans (HBr.out.mono hz4))).at_ hlt
       cases e1
       have hr2 : cs = ActT.cells p.acts[i] := hr
       subst hr2
       rw [← HY.out] at hc
       exact hc j v hv)
      have HTH := Lib.hid (show (wr.alloc (.cells #[.string ⟨#[]⟩, .string ⟨#[]⟩, .int .i64 0, .string ⟨#[]⟩, .int .i64 0, .int .i64 0, .string ⟨#[]⟩, .int .i64 0, .string ⟨#[]⟩, .int .i64 0, .string ⟨#[]⟩, .int .i64 0, .string ⟨#[]⟩, .int .i64 0, .int .i64 0, .string ⟨#[]⟩, .int .i64 0, .string ⟨#[]⟩, .int .i64 0] 99)).there wr.heap.size 0 (#[.string y.id, .string y.attr.var, .int .i64 y.attr.sym.kind, .string y.attr.sym.text, .int .i64 y.attr.sym.n, .int .i64 y.value.op, .string y.value.a.var, .int .i64 y.value.a.sym.kind, .string y.value.a.sym.text, .int .i64 y.value.a.sym.n, .string y.value.b.var, .int .i64 y.value.b.sym.kind, .string y.value.b.sym.text, .int .i64 y.value.b.sym.n, .int .i64 y.pref, .string y.other.var, .int .i64 y.other.sym.kind, .string y.other.sym.text, .int .i64 y.other.sym.n] : Array Value).size from (Blk.new wr 99 #[.string ⟨#[]⟩, .string ⟨#[]⟩, .int .i64 0, .string ⟨#[]⟩, .int .i64 0, .int .i64 0, .string ⟨#[]⟩, .int .i64 0, .string ⟨#[]⟩, .int .i64 0, .string ⟨#[]⟩, .int .i64 0, .string ⟨#[]⟩, .int .i64 0, .int .i64 0, .string ⟨#[]⟩, .int .i64 0, .string ⟨#[]⟩, .int .i64 0]).there)
      obtain ⟨W5, hW5⟩ : ∃ W5, W5 = (wr.alloc (.cells #[.string ⟨#[]⟩, .string ⟨#[]⟩, .int .i64 0, .string ⟨#[]⟩, .int .i64 0, .int .i64 0, .string ⟨#[]⟩, .int .i64 0, .string ⟨#[]⟩, .int .i64 0, .string ⟨#[]⟩, .int .i64 0, .string ⟨#[]⟩, .int .i64 0, .int .i64 0, .string ⟨#[]⟩, .int .i64 0, .string ⟨#[]⟩, .int .i64 0] 99)).setCells wr.heap.size 0 [.string y.id, .string y.attr.var, .int .i64 y.attr.sym.kind, .string y.attr.sym.text, .int .i64 y.attr.sym.n, .int .i64 y.value.op, .string y.value.a.var, .int .i64 y.value.a.sym.kind, .string y.value.a.sym.text, .int .i64 y.value.a.sym.n, .string y.value.b.var, .int .i64 y.value.b.sym.kind, .string y.value.b.sym.text, .int .i64 y.value.b.sym.n, .int .i64 y.pref, .string y.other.var, .int .i64 y.other.sym.kind, .string y.other.sym.text, .int .i64 y.other.sym.n] := ⟨_, rfl⟩
      have HW5 := Lib.hid hW5
      have HRG5 := Lib.hid (show W5.rangeAt wr.heap.size 0 [.string y.id, .string y.attr.var, .int .i64 y.attr.sym.kind, .string y.attr.sym.text, .int .i64 y.attr.sym.n, .int .i64 y.value.op, .string y.value.a.var, .int .i64 y.value.a.sym.kind, .string y.value.a.sym.text, .int .i64 y.value.a.sym.n, .string y.value.b.var, .int .i64 y.value.b.sym.kind, .string y.value.b.sym.text, .int .i64 y.value.b.sym.n, .int .i64 y.pref, .string y.other.var, .int .i64 y.other.sym.kind, .string y.other.sym.text, .int .i64 y.other.sym.n] by rw [hW5]; exact World.rangeAt_setCells_same _ _ _ _ HTH.out)
      have HB5 := Lib.hid (show Below wr.heap.size wr W5 by rw [hW5]; exact Below.setCells' _ _ ((Below.refl _ _).alloc (Nat.le_refl _) _) (Nat.le_refl _))
      clear hy hW5 q0 q1 q2 q3 q4 q5 q6 q7 q8 q9 q10 q11 q12 q13 q14 q15 q16 q17 q18
      go_wp2_with (first
       | (with_reducible refine wpList_load_mid rfl 99 _ rfl g (off + i * 19) rfl [.string y.id, .string y.attr.var, .int .i64 y.attr.sym.kind, .string y.attr.sym.text, .int .i64 y.attr.sym.n, .int .i64 y.value.op, .string y.value.a.var, .int .i64 y.value.a.sym.kind, .string y.value.a.sym.text, .int .i64 y.value.a.sym.n, .string y.value.b.var, .int .i64 y.value.b.sym.kind, .string y.value.b.sym.text, .int .i64 y.value.b.sym.n, .int .i64 y.pref, .string y.other.var, .int .i64 y.other.sym.kind, .string y.other.sym.text, .int .i64 y.other.sym.n] _ HRG.out Tryz.underlying99 rfl (by kernel_rfl) ?_)
       | ((with_reducible refine wpList_store_mid rfl 99 _ _ rfl wr.heap.size 0 #[.string y.id, .string y.attr.var, .int .i64 y.attr.sym.kind, .string y.attr.sym.text, .int .i64 y.attr.sym.n, .int .i64 y.value.op, .string y.value.a.var, .int .i64 y.value.a.sym.kind, .string y.value.a.sym.text, .int .i64 y.value.a.sym.n, .string y.value.b.var, .int .i64 y.value.b.sym.kind, .string y.value.b.sym.text, .int .i64 y.value.b.sym.n, .int .i64 y.pref, .string y.other.var, .int .i64 y.other.sym.kind, .string y.other.sym.text, .int .i64 y.other.sym.n] rfl rfl HTH.out (by kernel_rfl) (by kernel_rfl) ?_); rw [← HW5.out])
       | (with_reducible refine wpList_load_mid rfl 99 _ rfl wr.heap.size 0 rfl [.string y.id, .string y.attr.var, .int .i64 y.attr.sym.kind, .string y.attr.sym.text, .int .i64 y.attr.sym.n, .int .i64 y.value.op, .string y.value.a.var, .int .i64 y.value.a.sym.kind, .string y.value.a.sym.text, .int .i64 y.value.a.sym.n, .string y.value.b.var, .int .i64 y.value.b.sym.kind, .string y.value.b.sym.text, .int .i64 y.value.b.sym.n, .int .i64 y.pref, .string y.other.var, .int .i64 y.other.sym.kind, .string y.other.sym.text, .int .i64 y.other.sym.n] _ HRG5.out Tryz.underlying99 rfl (by kernel_rfl) ?_))
      refine (act_is y _).mono ?_
      rintro e w9 ⟨rfl, hb9⟩
      have HB9 := Lib.hid (HBr.out.trans ((HB5.out.trans (hb9.mono HB5.out.size)).mono hzr))
      clear hb9
      cases hcb : actB y
      · have hfi : p.acts.findIdx? (fun a => !actB a) = some i := by
         rw [List.findIdx?_eq_some_iff_getElem]
         refine ⟨hlt, by rw [← HY.out, hcb]; rfl, fun j hj => ?_⟩
         have := HALL.out j (by omega) hj
         simp [this]
        have HR := Lib.hid (HGOOD.out ((m : Int) + i, 9) (by rw [HNO.out, hfi]; simp [HMF.out]))
        have n9 : w9.cell? ⟨bn, 0, none⟩ = some (.int .i64 (m : Int)) := (HB9.out.cell (p := ⟨bn, 0, none⟩) hnl4).trans n4
        have hn9 := Nat.lt_of_lt_of_le hnl4 HB9.out.size
        have t7 := t2n
        rw [decide_eq_false_iff_not] at t7
        have t8 := t4n
        rw [decide_eq_false_iff_not] at t8
        have v1 : IntKind.i64.wrap ((m : Int) + (i : Int)) = (m : Int) + (i : Int) := IntWalk.i64_in _ (by omega)
        clear hcb hfi t7 t8
        go_wp2_with fail
        go_ret2
        exact ⟨by rw [HR.out] <;> rfl, HB4.out.trans (HB9.out.mono hz4)⟩
      · have HCB := Lib.hid hcb
        clear hcb
        go_wp2_with fail
        go_roundw
        case rel => exact ⟨i + 1, by go_num, by omega, fun k hk hki => by
         by_cases e : k = i
         · subst e; rw [← HY.out]; exact HCB.out
         · exact HALL.out k hk (by omega), HB9.out⟩
        case measure => simp [intOf] <;> omega
    · have hie : i = p.acts.length := by omega
      have hfi : p.acts.findIdx? (fun a => !actB a) = none := by
       rw [List.findIdx?_eq_none_iff]
       intro x hx
       obtain ⟨j, hj, rfl⟩ := List.getElem_of_mem hx
       simp [HALL.out j hj (by omega)]
      have HR := Lib.hid (HGOOD.out (-1, 0) (by rw [HNO.out, hfi]))
      subst hie
      clear hfi
      go_wp2_with fail
      go_ret2
      exact ⟨by rw [HR.out] <;> rfl, HB4.out.trans (HBr.out.mono hz4)⟩
end Go.Proofs.YtffemfglngikbaaGreat
namespace Go.Proofs.YtffemfglngikbaaGreat
open Go.RowKit Go.Shelf
attribute [local go_sem] Oper.semAt_some
set_option linter.unusedSimpArgs false
def showX (n : Nat) (p : ProdT) : ByteArray := if (shapeP n p).2 = 0 then prodX n p else ⟨#[]⟩
def headX (p : ProdT) : ByteArray := (⟨#[115, 112, 32, 123]⟩ : ByteArray) ++ p.name ++ (⟨#[10]⟩ : ByteArray)
def midX (n : Nat) (p : ProdT) : ByteArray := p.conds.foldl (lineC n) (headX p) ++ (⟨#[45, 45, 62, 10]⟩ : ByteArray)
set_option maxRecDepth 100000 in
set_option maxHeartbeats 8000000 in
theorem sprod_is {D : Nat → Prop} (n : Nat) (p : ProdT) (A1 A2 : Option Addr) (c1 c2 : Nat) (w : World) (h1 : RowR (repCondT n) D w A1 c1 p.conds) (h2 : RowR repActT D w A2 c2 p.acts) (hD : ∀ k, D k → k < w.heap.size) (hF : (flatC n 0 p.conds).length ≤ 1000000000) (hn : n ≤ 1000000000) (hz : (shapeP n p).2 = 0 → (prodX n p).size ≤ MAXS) :
 Calls Tryz.prog 102 #[.agg #[.string p.name, .slice A1 p.conds.length c1, .slice A2 p.acts.length c2]] w fun e w' => e = .returned (.tuple #[.string (showX n p), .int .i64 (shapeP n p).2]) ∧ Below w.heap.size w w' := by
 have H1 := Lib.hid h1
 have H2 := Lib.hid h2
 have hl1 := h1.cap
 have hl2 := h2.cap
 have HSH := Lib.hid (show ∀ W, Below w.heap.size w W → Calls Tryz.prog 170 #[.agg #[.string p.name, .slice A1 p.conds.length c1, .slice A2 p.acts.length c2]] W fun e w' => e = .returned (.tuple #[.int .i64 (shapeP n p).1, .int .i64 (shapeP n p).2]) ∧ Below W.heap.size W w' from fun W hW => shape_is p n A1 A2 c1 c2 W (h1.new_ hW) (h2.new_ hW) (fun k hk => Nat.lt_of_lt_of_le (hD k hk) hW.size) hF hn)
 obtain ⟨q1, hq1⟩ : ∃ q, q = (shapeP n p).1 := ⟨_, rfl⟩
 obtain ⟨q2, hq2⟩ : ∃ q, q = (shapeP n p).2 := ⟨_, rfl⟩
 rw [← hq1, ← hq2] at HSH
 rw [← hq2] at hz ⊢
 have HQ := Lib.hid hq2
 clear h1 h2 hD hF hn hq1 hq2
 by_cases he : q2 = 0
 · skip
   have HR := Lib.hid (show showX n p = p.acts.foldl lineA (midX n p) ++ (⟨#[125, 10]⟩ : ByteArray) by unfold showX; rw [if_pos (HQ.out ▸ he)]; rfl)
   have hz := hz he
   rw [show prodX n p = p.acts.foldl lineA (midX n p) ++ (⟨#[125, 10]⟩ : ByteArray) from rfl, ByteArray.size_append] at hz
   have et : ((⟨#[125, 10]⟩ : ByteArray)).size = 2 := rfl
   rw [et] at hz
   obtain ⟨T, hT⟩ : ∃ T, T = p.acts.foldl lineA (midX n p) := ⟨_, rfl⟩
   rw [← hT] at HR hz
   have zm : (midX n p).size ≤ T.size := by rw [hT]; exact fold_le lineA_le _ _
   obtain ⟨C, hC⟩ : ∃ C, C = p.conds.foldl (lineC n) (headX p) := ⟨_, rfl⟩
   have hm : midX n p = C ++ (⟨#[45, 45, 62, 10]⟩ : ByteArray) := by rw [hC]; rfl
   have HM := Lib.hid hm
   rw [hm, ByteArray.size_append] at zm
   have ea : ((⟨#[45, 45, 62, 10]⟩ : ByteArray)).size = 4 := rfl
   rw [ea] at zm
   have zh : (headX p).size ≤ C.size := by rw [hC]; exact fold_le (lineC_le n) _ _
   unfold headX at zh
   rw [ByteArray.size_append, ByteArray.size_append] at zh
   have eh : ((⟨#[115, 112, 32, 123]⟩ : ByteArray)).size = 4 := rfl
   have en : ((⟨#[10]⟩ : ByteArray)).size = 1 := rfl
   rw [eh, en] at zh
   have y1 : ¬ MAXS < 4 + p.name.size := by unfold MAXS at *; omega
   have y2 : ¬ MAXS < 4 + p.name.size + 1 := by unfold MAXS at *; omega
   have y3 : ¬ MAXS < C.size + 4 := by unfold MAXS at *; omega
   have y4 : ¬ MAXS < T.size + 2 := by unfold MAXS at *; omega
   have zC := Lib.hid (show C.size ≤ MAXS by unfold MAXS at *; omega)
   have zT := Lib.hid (show T.size ≤ MAXS by unfold MAXS at *; omega)
   have HC := Lib.hid hC
   have HT := Lib.hid hT
   subst he
   clear hz et hT zm hC hm ea zh eh en
   go_enter Tryz.func102, Tryz.ntmps102
   go_upto_region 1 with fail
   obtain ⟨w1, hw1⟩ : ∃ w1, w1 = (w.alloc (.cells #[.string p.name, .slice A1 p.conds.length c1, .slice A2 p.acts.length c2] 25)) := ⟨_, rfl⟩
   rw [← hw1]
   have HB := Lib.hid (show Below w.heap.size w w1 by rw [hw1]; exact (by repeat (first | exact Below.refl _ _ | refine Below.drew ?_ | refine Below.al ?_ _ | refine Below.sc ?_ _)))
   have Kb := Lib.hid (show Blk w1 (w.heap.size) 25 #[.string p.name, .slice A1 p.conds.length c1, .slice A2 p.acts.length c2] by rw [hw1]; exact (Blk.new w 25 #[.string p.name, .slice A1 p.conds.length c1, .slice A2 p.acts.length c2]))
   clear hw1
   obtain ⟨b0, b1, b2⟩ := Kb.out.c3
   have bz := Kb.out.lt
   go_wp2_with fail
   with_reducible refine (HSH.out _ (by (repeat (first | exact Below.refl _ _ | exact HB.out | refine Below.drew ?_ | refine Below.al ?_ _ | refine Below.sc ?_ _)))).mono ?_
   rintro e w2 ⟨rfl, hb⟩
   have hbs := Below.trans (show Below w1.heap.size w1 _ from (by (repeat (first | exact Below.refl _ _ | refine Below.drew ?_ | refine Below.al ?_ _ | refine Below.sc ?_ _)))) (hb.mono (by simp <;> omega))
   have Kb := Lib.hid (Kb.out.new_ hbs)
   have HB := Lib.hid (HB.out.trans (hbs.mono HB.out.size))
   have hsz2 := hbs.size
   clear b0 b1 b2 bz hb hbs
   obtain ⟨b0, b1, b2⟩ := Kb.out.c3
   have bz := Kb.out.lt
   go_wp2_with fail
   clear b0 b1 b2 bz y1 y2
   rw [show (⟨#[115, 112, 32, 123]⟩ : ByteArray) ++ p.name ++ (⟨#[10]⟩ : ByteArray) = headX p from rfl]
   go_loopw [6, 26] (fun s i wr => ∃ k : Nat, i = .int .i64 k ∧ k ≤ p.conds.length ∧ s = .string ((p.conds.take k).foldl (lineC n) (headX p)) ∧ Below w2.heap.size w2 wr) (fun s i wr => p.conds.length - (intOf i).toNat)
   case atStart => exact ⟨0, rfl, Nat.zero_le _, rfl, Below.refl _ _⟩
   case round =>
    obtain ⟨k, rfl, hk, rfl, hb⟩ := hrel
    have HBR := Lib.hid hb
    have HBW := Lib.hid (HB.out.trans (hb.mono HB.out.size))
    clear hb
    by_cases hlt : k < p.conds.length
    · have hrw := H1.out.new_ HBW.out
      obtain ⟨m, hnm⟩ : ∃ m, n = m + 1 := by
       cases n with
       | zero => rw [row0 hrw] at hlt; simp at hlt
       | succ m => exact ⟨m, rfl⟩
      subst hnm
      obtain ⟨g, off, B1, d1, B2, d2, B3, d3, hA0, _, hg, q0, q1_, q2_, q3, q4, q5, q6, hy1, hy2, hy3⟩ := at_CondT hrw hlt
      subst hA0
      obtain ⟨y, hy⟩ : ∃ y, y = p.conds[k] := ⟨_, rfl⟩
      obtain ⟨S, hS⟩ : ∃ S, S = (p.conds.take k).foldl (lineC (m + 1)) (headX p) := ⟨_, rfl⟩
      have HN := Lib.hid (show (p.conds.take (k + 1)).foldl (lineC (m + 1)) (headX p) = S ++ (⟨#[32, 32]⟩ : ByteArray) ++ condX (m + 1) y ++ (⟨#[10]⟩ : ByteArray) by rw [fold_snoc _ hlt, ← hS, ← hy]; rfl)
      have hle := fold_take (lineC_le (m + 1)) hlt (headX p)
      rw [← hS, ← hy, ← HC.out] at hle
      unfold lineC at hle
      rw [ByteArray.size_append, ByteArray.size_append, ByteArray.size_append] at hle
      have e2 : ((⟨#[32, 32]⟩ : ByteArray)).size = 2 := rfl
      have e1 : ((⟨#[10]⟩ : ByteArray)).size = 1 := rfl
      rw [e2, e1] at hle
      have zc := zC.out
      have x1 : ¬ MAXS < S.size + 2 := by unfold MAXS at *; omega
      have x2 : ¬ MAXS < S.size + 2 + (condX (m + 1) y).size := by unfold MAXS at *; omega
      have x3 : ¬ MAXS < S.size + 2 + (condX (m + 1) y).size + 1 := by unfold MAXS at *; omega
      rw [← hy] at q0 q1_ q2_ q3 q4 q5 q6 hy1 hy2 hy3
      have HZY := Lib.hid (show (condX (m + 1) y).size ≤ MAXS by unfold MAXS at *; omega)
      have bh : Below wr.heap.size wr (wr.alloc (.cells #[.int .i64 y.kind, .bool y.goal, .string y.id, .slice B1 y.attr.length d1, .slice B2 y.value.length d2, .bool y.acc, .slice B3 y.conds.length d3] 59)) := (Below.refl _ _).alloc (Nat.le_refl _) _
      have HIH := Lib.hid (scond_is m y B1 d1 B2 d2 B3 d3 D (wr.alloc (.cells #[.int .i64 y.kind, .bool y.goal, .string y.id, .slice B1 y.attr.length d1, .slice B2 y.value.length d2, .bool y.acc, .slice B3 y.conds.length d3] 59)) (hy1.new_ bh) (hy2.new_ bh) (hy3.new_ bh) HZY.out)
      have b1_ : (0 : Int) ≤ (k : Int) := by omega
      have b2_ : (k : Int) < (p.conds.length : Int) := by omega
      rw [← hS]
      clear hy hS hle hrw hy1 hy2 hy3 e1 e2 zc
      go_wp2_with fail
      refine HIH.out.mono ?_
      rintro e w5 ⟨rfl, hb5⟩
      have HB5 := Lib.hid (HBR.out.trans ((bh.trans (hb5.mono bh.size)).mono HBR.out.size))
      clear hb5 bh q0 q1_ q2_ q3 q4 q5 q6
      go_wp2_with fail
      go_roundw
      case rel => exact ⟨k + 1, by go_num, by omega, by rw [HN.out], HB5.out⟩
      case measure => simp [intOf] <;> omega
    · obtain rfl : k = p.conds.length := by omega
      rw [List.take_length, ← HC.out]
      have Kb := Lib.hid (Kb.out.new_ HBR.out)
      obtain ⟨wq, hwq⟩ : ∃ wq, wq = wr := ⟨_, rfl⟩
      rw [← hwq] at Kb HBW ⊢
      clear hwq
      obtain ⟨b0, b1, b2⟩ := Kb.out.c3
      have bz := Kb.out.lt
      go_wp2_with fail
      rw [← HM.out]
      clear b0 b1 b2 bz y3
      have HBQ := HBW
      go_loopw [6, 42] (fun s i wr => ∃ k : Nat, i = .int .i64 k ∧ k ≤ p.acts.length ∧ s = .string ((p.acts.take k).foldl lineA (midX n p)) ∧ Below wq.heap.size wq wr) (fun s i wr => p.acts.length - (intOf i).toNat)
      case atStart => exact ⟨0, rfl, Nat.zero_le _, rfl, Below.refl _ _⟩
      case round =>
       obtain ⟨i, rfl, hi, rfl, hb⟩ := hrel
       have HBR := Lib.hid hb
       have HBW := Lib.hid (HBQ.out.trans (hb.mono HBQ.out.size))
       clear hb
       by_cases hlt : i < p.acts.length
       · skip
         obtain ⟨y, hy⟩ : ∃ y, y = p.acts[i] := ⟨_, rfl⟩
         obtain ⟨g, off, hAA, _, hg, _⟩ := at_ActT (H2.out.new_ HBW.out) hlt
         subst hAA
         have HY := Lib.hid hy
         have b1 : (0 : Int) ≤ (i : Int) := by omega
         have b2 : (i : Int) < (p.acts.length : Int) := by omega
         have HRG := Lib.hid (show wr.rangeAt g (off + i * 19) [.string y.id, .string y.attr.var, .int .i64 y.attr.sym.kind, .string y.attr.sym.text, .int .i64 y.attr.sym.n, .int .i64 y.value.op, .string y.value.a.var, .int .i64 y.value.a.sym.kind, .string y.value.a.sym.text, .int .i64 y.value.a.sym.n, .string y.value.b.var, .int .i64 y.value.b.sym.kind, .string y.value.b.sym.text, .int .i64 y.value.b.sym.n, .int .i64 y.pref, .string y.other.var, .int .i64 y.other.sym.kind, .string y.other.sym.text, .int .i64 y.other.sym.n] from fun j v hv => by
          obtain ⟨g', off', cs, e1, _, _, hr, hc⟩ := (H2.out.new_ HBW.out).at_ hlt
          cases e1
          have hr2 : cs = ActT.cells p.acts[i] := hr
          subst hr2
          rw [← HY.out] at hc
          exact hc j v hv)
         have HTH := Lib.hid (show (wr.alloc (.cells #[.string ⟨#[]⟩, .string ⟨#[]⟩, .int .i64 0, .string ⟨#[]⟩, .int .i64 0, .int .i64 0, .string ⟨#[]⟩, .int .i64 0, .string ⟨#[]⟩, .int .i64 0, .string ⟨#[]⟩, .int .i64 0, .string ⟨#[]⟩, .int .i64 0, .int .i64 0, .string ⟨#[]⟩, .int .i64 0, .string ⟨#[]⟩, .int .i64 0] 99)).there wr.heap.size 0 (#[.string y.id, .string y.attr.var, .int .i64 y.attr.sym.kind, .string y.attr.sym.text, .int .i64 y.attr.sym.n, .int .i64 y.value.op, .string y.value.a.var, .int .i64 y.value.a.sym.kind, .string y.value.a.sym.text, .int .i64 y.value.a.sym.n, .string y.value.b.var, .int .i64 y.value.b.sym.kind, .string y.value.b.sym.text, .int .i64 y.value.b.sym.n, .int .i64 y.pref, .string y.other.var, .int .i64 y.other.sym.kind, .string y.other.sym.text, .int .i64 y.other.sym.n] : Array Value).size from (Blk.new wr 99 #[.string ⟨#[]⟩, .string ⟨#[]⟩, .int .i64 0, .string ⟨#[]⟩, .int .i64 0, .int .i64 0, .string ⟨#[]⟩, .int .i64 0, .string ⟨#[]⟩, .int .i64 0, .string ⟨#[]⟩, .int .i64 0, .string ⟨#[]⟩, .int .i64 0, .int .i64 0, .string ⟨#[]⟩, .int .i64 0, .string ⟨#[]⟩, .int .i64 0]).there)
         obtain ⟨W5, hW5⟩ : ∃ W5, W5 = (wr.alloc (.cells #[.string ⟨#[]⟩, .string ⟨#[]⟩, .int .i64 0, .string ⟨#[]⟩, .int .i64 0, .int .i64 0, .string ⟨#[]⟩, .int .i64 0, .string ⟨#[]⟩, .int .i64 0, .string ⟨#[]⟩, .int .i64 0, .string ⟨#[]⟩, .int .i64 0, .int .i64 0, .string ⟨#[]⟩, .int .i64 0, .string ⟨#[]⟩, .int .i64 0] 99)).setCells wr.heap.size 0 [.string y.id, .string y.attr.var, .int .i64 y.attr.sym.kind, .string y.attr.sym.text, .int .i64 y.attr.sym.n, .int .i64 y.value.op, .string y.value.a.var, .int .i64 y.value.a.sym.kind, .string y.value.a.sym.text, .int .i64 y.value.a.sym.n, .string y.value.b.var, .int .i64 y.value.b.sym.kind, .string y.value.b.sym.text, .int .i64 y.value.b.sym.n, .int .i64 y.pref, .string y.other.var, .int .i64 y.other.sym.kind, .string y.other.sym.text, .int .i64 y.other.sym.n] := ⟨_, rfl⟩
         have HW5 := Lib.hid hW5
         have HRG5 := Lib.hid (show W5.rangeAt wr.heap.size 0 [.string y.id, .string y.attr.var, .int .i64 y.attr.sym.kind, .string y.attr.sym.text, .int .i64 y.attr.sym.n, .int .i64 y.value.op, .string y.value.a.var, .int .i64 y.value.a.sym.kind, .string y.value.a.sym.text, .int .i64 y.value.a.sym.n, .string y.value.b.var, .int .i64 y.value.b.sym.kind, .string y.value.b.sym.text, .int .i64 y.value.b.sym.n, .int .i64 y.pref, .string y.other.var, .int .i64 y.other.sym.kind, .string y.other.sym.text, .int .i64 y.other.sym.n] by rw [hW5]; exact World.rangeAt_setCells_same _ _ _ _ HTH.out)
         have HB5 := Lib.hid (show Below wr.heap.size wr W5 by rw [hW5]; exact Below.setCells' _ _ ((Below.refl _ _).alloc (Nat.le_refl _) _) (Nat.le_refl _))
         obtain ⟨S, hS⟩ : ∃ S, S = (p.acts.take i).foldl lineA (midX n p) := ⟨_, rfl⟩
         have HN := Lib.hid (show (p.acts.take (i + 1)).foldl lineA (midX n p) = S ++ (⟨#[32, 32]⟩ : ByteArray) ++ actX y ++ (⟨#[10]⟩ : ByteArray) by rw [fold_snoc _ hlt, ← hS, ← hy]; rfl)
         have hle := fold_take lineA_le hlt (midX n p)
         rw [← hS, ← hy, ← HT.out] at hle
         unfold lineA at hle
         rw [ByteArray.size_append, ByteArray.size_append, ByteArray.size_append] at hle
         have e2 : ((⟨#[32, 32]⟩ : ByteArray)).size = 2 := rfl
         have e1 : ((⟨#[10]⟩ : ByteArray)).size = 1 := rfl
         rw [e2, e1] at hle
         have zc := zT.out
         have x1 : ¬ MAXS < S.size + 2 := by unfold MAXS at *; omega
         have x2 : ¬ MAXS < S.size + 2 + (actX y).size := by unfold MAXS at *; omega
         have x3 : ¬ MAXS < S.size + 2 + (actX y).size + 1 := by unfold MAXS at *; omega
         have HZY := Lib.hid (show (actX y).size ≤ MAXS by unfold MAXS at *; omega)
         rw [← hS]
         clear hy hS hle hW5 e1 e2 zc
         go_wp2_with (first
          | (with_reducible refine wpList_load_mid rfl 99 _ rfl g (off + i * 19) rfl [.string y.id, .string y.attr.var, .int .i64 y.attr.sym.kind, .string y.attr.sym.text, .int .i64 y.attr.sym.n, .int .i64 y.value.op, .string y.value.a.var, .int .i64 y.value.a.sym.kind, .string y.value.a.sym.text, .int .i64 y.value.a.sym.n, .string y.value.b.var, .int .i64 y.value.b.sym.kind, .string y.value.b.sym.text, .int .i64 y.value.b.sym.n, .int .i64 y.pref, .string y.other.var, .int .i64 y.other.sym.kind, .string y.other.sym.text, .int .i64 y.other.sym.n] _ HRG.out Tryz.underlying99 rfl (by kernel_rfl) ?_)
          | ((with_reducible refine wpList_store_mid rfl 99 _ _ rfl wr.heap.size 0 #[.string y.id, .string y.attr.var, .int .i64 y.attr.sym.kind, .string y.attr.sym.text, .int .i64 y.attr.sym.n, .int .i64 y.value.op, .string y.value.a.var, .int .i64 y.value.a.sym.kind, .string y.value.a.sym.text, .int .i64 y.value.a.sym.n, .string y.value.b.var, .int .i64 y.value.b.sym.kind, .string y.value.b.sym.text, .int .i64 y.value.b.sym.n, .int .i64 y.pref, .string y.other.var, .int .i64 y.other.sym.kind, .string y.other.sym.text, .int .i64 y.other.sym.n] rfl rfl HTH.out (by kernel_rfl) (by kernel_rfl) ?_); rw [← HW5.out])
          | (with_reducible refine wpList_load_mid rfl 99 _ rfl wr.heap.size 0 rfl [.string y.id, .string y.attr.var, .int .i64 y.attr.sym.kind, .string y.attr.sym.text, .int .i64 y.attr.sym.n, .int .i64 y.value.op, .string y.value.a.var, .int .i64 y.value.a.sym.kind, .string y.value.a.sym.text, .int .i64 y.value.a.sym.n, .string y.value.b.var, .int .i64 y.value.b.sym.kind, .string y.value.b.sym.text, .int .i64 y.value.b.sym.n, .int .i64 y.pref, .string y.other.var, .int .i64 y.other.sym.kind, .string y.other.sym.text, .int .i64 y.other.sym.n] _ HRG5.out Tryz.underlying99 rfl (by kernel_rfl) ?_))
         refine (sact_is y _ HZY.out).mono ?_
         rintro e w9 ⟨rfl, hb9⟩
         have HB9 := Lib.hid (HBR.out.trans ((HB5.out.trans (hb9.mono HB5.out.size)).mono HBR.out.size))
         clear hb9
         go_wp2_with fail
         go_roundw
         case rel => exact ⟨i + 1, by go_num, by omega, by rw [HN.out], HB9.out⟩
         case measure => simp [intOf] <;> omega
       · obtain rfl : i = p.acts.length := by omega
         rw [List.take_length, ← HT.out]
         go_wp2_with fail
         go_ret2
         exact ⟨by rw [HR.out] <;> rfl, HBW.out⟩
 · skip
   have HR := Lib.hid (show showX n p = ⟨#[]⟩ by unfold showX; rw [if_neg (HQ.out ▸ he)])
   have e1 : (q2 != 0) = true := by simp [he]
   have e2 : decide (q2 = 0) = false := by simp [he]
   have e3 : (q2 == 0) = false := by simp [he]
   clear hz he
   go_enter Tryz.func102, Tryz.ntmps102
   go_upto_region 1 with fail
   obtain ⟨w1, hw1⟩ : ∃ w1, w1 = (w.alloc (.cells #[.string p.name, .slice A1 p.conds.length c1, .slice A2 p.acts.length c2] 25)) := ⟨_, rfl⟩
   rw [← hw1]
   have HB := Lib.hid (show Below w.heap.size w w1 by rw [hw1]; exact (by repeat (first | exact Below.refl _ _ | refine Below.drew ?_ | refine Below.al ?_ _ | refine Below.sc ?_ _)))
   have Kb := Lib.hid (show Blk w1 (w.heap.size) 25 #[.string p.name, .slice A1 p.conds.length c1, .slice A2 p.acts.length c2] by rw [hw1]; exact (Blk.new w 25 #[.string p.name, .slice A1 p.conds.length c1, .slice A2 p.acts.length c2]))
   clear hw1
   obtain ⟨b0, b1, b2⟩ := Kb.out.c3
   have bz := Kb.out.lt
   go_wp2_with fail
   with_reducible refine (HSH.out _ (by (repeat (first | exact Below.refl _ _ | exact HB.out | refine Below.drew ?_ | refine Below.al ?_ _ | refine Below.sc ?_ _)))).mono ?_
   rintro e w2 ⟨rfl, hb⟩
   have hbs := Below.trans (show Below w1.heap.size w1 _ from (by (repeat (first | exact Below.refl _ _ | refine Below.drew ?_ | refine Below.al ?_ _ | refine Below.sc ?_ _)))) (hb.mono (by simp <;> omega))
   have Kb := Lib.hid (Kb.out.new_ hbs)
   have HB := Lib.hid (HB.out.trans (hbs.mono HB.out.size))
   have hsz2 := hbs.size
   clear b0 b1 b2 bz hb hbs
   obtain ⟨b0, b1, b2⟩ := Kb.out.c3
   have bz := Kb.out.lt
   go_wp2_with fail
   go_ret2
   exact ⟨by rw [HR.out] <;> rfl, HB.out⟩
end Go.Proofs.YtffemfglngikbaaGreat
namespace Go.Proofs.YtffemfglngikbaaGreat
theorem numB_le (n : Int) (h1 : -2147483647 ≤ n) (h2 : n ≤ 2147483647) : (numB n).size ≤ 2200000000 := by
 unfold numB
 split
 · rw [ByteArray.size_append]
   have := decB_size (-n).toNat
   have e : (⟨#[45]⟩ : ByteArray).size = 1 := rfl
   omega
 · have := decB_size n.toNat
   omega
theorem word_le {t : ByteArray} (h : isWord t = true) : t.size ≤ 32 := by
 obtain ⟨_, h, _⟩ := isWord_iff.1 h
 exact h
theorem textB_le (s : Sym) : (textB s).size ≤ 2300000000 := by
 unfold textB
 by_cases hv : validB s = true
 · rw [if_pos hv]
   obtain ⟨k, t, n⟩ := s
   rcases validB_kind hv with rfl | rfl | rfl
   · obtain ⟨h1, _, h3, h4⟩ := validB_id hv
     rw [if_pos rfl, ByteArray.size_append]
     have := numB_le n (by omega) (by omega)
     simp only
     omega
   · obtain ⟨_, h3, h4⟩ := validB_int hv
     rw [if_neg (by simp), if_pos rfl]
     have := numB_le n (by omega) (by omega)
     simp only
     omega
   · rw [if_neg (by simp), if_neg (by simp)]
     have h2 : isWord t = true := by
      unfold validB at hv
      simp at hv
      first | exact hv.2 | exact hv | exact hv.1
     have := word_le h2
     simp only
     omega
 · rw [if_neg hv]
   have e : (⟨#[]⟩ : ByteArray).size = 0 := rfl
   omega
theorem atomX_le {v : ByteArray} {s : Sym} (h : v.toList = [] ∨ isWord v = true) : (atomX v s).size ≤ 2300000000 := by
 unfold atomX
 split
 · exact textB_le s
 · rename_i h1
   have := word_le (h.resolve_left h1)
   rw [ByteArray.size_append, ByteArray.size_append]
   have e1 : (⟨#[60]⟩ : ByteArray).size = 1 := rfl
   have e2 : (⟨#[62]⟩ : ByteArray).size = 1 := rfl
   omega
theorem relX_le (k : Int) : (relX k).size ≤ 3 := by
 have e0 : (⟨#[]⟩ : ByteArray).size = 0 := rfl
 have e1 : (⟨#[60, 62]⟩ : ByteArray).size = 2 := rfl
 have e2 : (⟨#[60]⟩ : ByteArray).size = 1 := rfl
 have e3 : (⟨#[60, 61]⟩ : ByteArray).size = 2 := rfl
 have e4 : (⟨#[62]⟩ : ByteArray).size = 1 := rfl
 have e5 : (⟨#[62, 61]⟩ : ByteArray).size = 2 := rfl
 have e6 : (⟨#[60, 61, 62]⟩ : ByteArray).size = 3 := rfl
 unfold relX
 repeat (split; omega)
 omega
theorem fold_sum {α : Type} {f : ByteArray → α → ByteArray} {B : Nat} : ∀ (l : List α) (s : ByteArray), (∀ x ∈ l, ∀ s, (f s x).size ≤ s.size + B) → (l.foldl f s).size ≤ s.size + l.length * B
 | [], _, _ => by simp
 | x :: l, s, h => by
   have h1 := h x (by simp) s
   have h2 := fold_sum l (f s x) (fun y hy => h y (by simp [hy]))
   rw [List.foldl_cons, List.length_cons, Nat.add_mul]
   omega
theorem testX_le {t : TestT} (h : testB t = true) : (testX t).size ≤ 30000000000 := by
 unfold testX
 unfold testB at h
 by_cases h8 : t.rel = 8
 · rw [if_pos h8] at h ⊢
   simp only [Bool.and_eq_true, decide_eq_true_eq] at h
   have h9 : t.list.length ≤ 8 := h.1.2
   have h1 := fold_sum (f := listX) (B := 2300000001) t.list (⟨#[60, 60]⟩ : ByteArray) (fun x _ s => by
    unfold listX
    rw [ByteArray.size_append, ByteArray.size_append]
    have := textB_le x
    have e : (⟨#[32]⟩ : ByteArray).size = 1 := rfl
    omega)
   rw [ByteArray.size_append]
   have e1 : (⟨#[60, 60]⟩ : ByteArray).size = 2 := rfl
   have e2 : (⟨#[32, 62, 62]⟩ : ByteArray).size = 3 := rfl
   have h3 : t.list.length * 2300000001 ≤ 8 * 2300000001 := Nat.mul_le_mul_right _ h9
   omega
 · rw [if_neg h8] at h ⊢
   have hv : t.var.toList = [] ∨ isWord t.var = true := by
    by_cases hv : t.var.toList = []
    · exact .inl hv
    · right
      split at h
      · cases h
      · have h' : (isWord t.var && noneB t.sym) = true := by first | exact h | (rw [if_neg hv] at h; exact h)
        simp only [Bool.and_eq_true] at h'
        exact h'.1
   have ha := atomX_le (s := t.sym) hv
   split
   · omega
   · rw [ByteArray.size_append, ByteArray.size_append]
     have := relX_le t.rel
     have e : (⟨#[32]⟩ : ByteArray).size = 1 := rfl
     omega
theorem fieldX_le {l : List TestT} (h : ∀ t ∈ l, testB t = true) (h4 : l.length ≤ 4) : (fieldX l).size ≤ 200000000000 := by
 unfold fieldX
 split
 · have e : (⟨#[]⟩ : ByteArray).size = 0 := rfl
   omega
 · split
   · rename_i h1
     have := testX_le (h l[0] (List.getElem_mem _))
     omega
   · rw [ByteArray.size_append]
     have h1 := fold_sum (f := fieldF) (B := 30000000001) l (⟨#[123]⟩ : ByteArray) (fun x hx s => by
      unfold fieldF
      rw [ByteArray.size_append, ByteArray.size_append]
      have := testX_le (h x hx)
      have e : (⟨#[32]⟩ : ByteArray).size = 1 := rfl
      omega)
     have e1 : (⟨#[123]⟩ : ByteArray).size = 1 := rfl
     have e2 : (⟨#[32, 125]⟩ : ByteArray).size = 2 := rfl
     have h3 : l.length * 30000000001 ≤ 4 * 30000000001 := Nat.mul_le_mul_right _ h4
     omega
theorem condE_leaf {c : CondT} {d : Nat} (h : condE c d = 0) (hk : ¬ c.kind = 3) : isWord c.id = true ∧ (∀ t ∈ c.attr, testB t = true) ∧ (∀ t ∈ c.value, testB t = true) ∧ c.attr.length ≤ 4 ∧ c.value.length ≤ 4 ∧ (c.kind = 1 ∨ c.kind = 2) ∧ c.conds.length = 0 ∧ 0 < c.attr.length := by
 unfold condE at h
 rw [if_neg hk] at h
 by_cases h1 : c.kind = 1 ∨ c.kind = 2
 · rw [if_pos h1] at h
   by_cases h2 : 0 < c.conds.length ∨ isWord c.id = false ∨ c.attr.length = 0
   · rw [if_pos h2] at h; exact absurd h (by decide)
   rw [if_neg h2] at h
   by_cases h3 : 4 < c.attr.length ∨ 4 < c.value.length
   · rw [if_pos h3] at h; exact absurd h (by decide)
   rw [if_neg h3] at h
   by_cases h4 : (c.attr.all testB && c.value.all testB) = false
   · rw [if_pos h4] at h; exact absurd h (by decide)
   simp only [not_or] at h2 h3
   have h5 : c.attr.all testB = true ∧ c.value.all testB = true := by
    have : (c.attr.all testB && c.value.all testB) = true := by simpa using h4
    simpa using this
   exact ⟨by simpa using h2.2.1, fun t ht => List.all_eq_true.1 h5.1 t ht, fun t ht => List.all_eq_true.1 h5.2 t ht, by omega, by omega, h1, by omega, by omega⟩
 · rw [if_neg h1] at h; exact absurd h (by decide)
theorem leafX_le {c : CondT} {d : Nat} (h : condE c d = 0) (hk : ¬ c.kind = 3) : (leafX c).size ≤ 500000000000 := by
 obtain ⟨h1, h2, h3, h4, h5, _⟩ := condE_leaf h hk
 have a1 := word_le h1
 have a2 := fieldX_le h2 h4
 have a3 := fieldX_le h3 h5
 have e1 : (⟨#[45, 40]⟩ : ByteArray).size = 2 := rfl
 have e2 : (⟨#[40]⟩ : ByteArray).size = 1 := rfl
 have e3 : (⟨#[115, 116, 97, 116, 101, 32]⟩ : ByteArray).size = 6 := rfl
 have e4 : (⟨#[60]⟩ : ByteArray).size = 1 := rfl
 have e5 : (⟨#[62, 32, 94]⟩ : ByteArray).size = 3 := rfl
 have e6 : (⟨#[32]⟩ : ByteArray).size = 1 := rfl
 have e7 : (⟨#[32, 43]⟩ : ByteArray).size = 2 := rfl
 have e8 : (⟨#[41]⟩ : ByteArray).size = 1 := rfl
 have l1 : (leaf1 c).size ≤ 2 := by unfold leaf1; split <;> omega
 have l2 : (leaf2 c).size ≤ 8 := by unfold leaf2; split; rw [ByteArray.size_append]; omega; omega
 have l3 : (leaf3 c).size ≤ 200000000050 := by unfold leaf3; rw [ByteArray.size_append, ByteArray.size_append, ByteArray.size_append, ByteArray.size_append]; omega
 have l4 : (leaf4 c).size ≤ 400000000060 := by unfold leaf4; split; rw [ByteArray.size_append, ByteArray.size_append]; omega; omega
 have l5 : (leaf5 c).size ≤ 400000000070 := by unfold leaf5; split; rw [ByteArray.size_append]; omega; omega
 unfold leafX
 rw [ByteArray.size_append]
 omega
theorem allF_sum {f : CondT → ByteArray} {g : CondT → Nat} : ∀ (l : List CondT) (p : Nat × ByteArray), (∀ x ∈ l, (f x).size + 1 ≤ g x) → (l.foldl (allF f) p).2.size ≤ p.2.size + (l.map g).sum
 | [], _, _ => by simp
 | x :: l, p, h => by
   have h1 := h x (by simp)
   have h2 := allF_sum l (allF f p x) (fun y hy => h y (by simp [hy]))
   have e : (⟨#[32]⟩ : ByteArray).size = 1 := rfl
   have h3 : (allF f p x).2.size ≤ p.2.size + g x := by
    unfold allF
    dsimp only
    rw [ByteArray.size_append]
    split
    · rw [ByteArray.size_append]; omega
    · omega
   rw [List.foldl_cons, List.map_cons, List.sum_cons]
   omega
theorem flatC_sum (n d : Nat) : ∀ l : List CondT, (l.map fun c => 1 + (flatC n (d + 1) c.conds).length).sum = (flatC (n + 1) d l).length
 | [] => by simp [flatC]
 | c :: l => by
   have := flatC_sum n d l
   rw [List.map_cons, List.sum_cons, this]
   simp [flatC, List.flatMap_cons]
   omega
theorem sum_mul (k : Nat) (g : CondT → Nat) : ∀ l : List CondT, (l.map fun c => k * g c).sum = k * (l.map g).sum
 | [] => by simp
 | c :: l => by rw [List.map_cons, List.sum_cons, sum_mul k g l, List.map_cons, List.sum_cons, Nat.mul_add]
theorem flatC_in {n d : Nat} {l : List CondT} {c : CondT} (h : c ∈ l) : (d, c) ∈ flatC (n + 1) d l ∧ ∀ x ∈ flatC n (d + 1) c.conds, x ∈ flatC (n + 1) d l := by
 constructor
 · rw [flatC]; exact List.mem_flatMap.2 ⟨c, h, by simp⟩
 · intro x hx; rw [flatC]; exact List.mem_flatMap.2 ⟨c, h, by simp [hx]⟩
def Dp : Nat → CondT → Prop
 | 0, _ => False
 | n + 1, c => ∀ x ∈ c.conds, Dp n x
theorem row_dp : ∀ (n : Nat) {D : Nat → Prop} {w : World} {A : Option Addr} {c : Nat} {l : List CondT}, RowR (repCondT n) D w A c l → ∀ x ∈ l, Dp n x
 | 0, _, _, _, _, l, h, x, hx => by
   obtain ⟨k, hk, rfl⟩ := List.getElem_of_mem hx
   obtain ⟨_, _, _, _, _, _, hr, _⟩ := h.at_ hk
   exact hr.elim
 | n + 1, _, _, _, _, l, h, x, hx => by
   obtain ⟨k, hk, rfl⟩ := List.getElem_of_mem hx
   obtain ⟨_, _, _, _, _, _, _, _, _, _, _, _, _, _, _, _, _, _, _, _, h3⟩ := at_CondT h hk
   exact row_dp n h3
theorem condX_le : ∀ (n d : Nat) (c : CondT), Dp (n + 1) c → condE c d = 0 → (∀ x ∈ flatC n (d + 1) c.conds, condE x.2 x.1 = 0) → (condX (n + 1) c).size + 4 ≤ 1000000000000 * (1 + (flatC n (d + 1) c.conds).length)
 | n, d, c, hd, h, hf => by
   rw [condX]
   by_cases hk : c.kind = 3
   · rw [if_pos hk, ByteArray.size_append]
     have e1 : (⟨#[45, 123]⟩ : ByteArray).size = 2 := rfl
     have e2 : (⟨#[125]⟩ : ByteArray).size = 1 := rfl
     cases n with
     | zero =>
       have hc : c.conds = [] := by
        cases hcc : c.conds with
        | nil => rfl
        | cons x l => exact (hd x (by rw [hcc]; simp)).elim
       rw [hc]
       simp
       omega
     | succ m =>
       have h1 := allF_sum (f := condX (m + 1)) (g := fun x => 1000000000000 * (1 + (flatC m (d + 1 + 1) x.conds).length)) c.conds (0, (⟨#[45, 123]⟩ : ByteArray)) (fun x hx => by
        obtain ⟨g1, g2⟩ := flatC_in (n := m) (d := d + 1) hx
        have := condX_le m (d + 1) x (hd x hx) (hf _ g1) (fun y hy => hf _ (g2 y hy))
        omega)
       rw [sum_mul, flatC_sum] at h1
       rw [e1] at h1
       omega
   · rw [if_neg hk]
     have := leafX_le h hk
     omega
theorem termX_le {t : TermT} (h : termB t = true) : (termX t).size ≤ 5000000000 := by
 unfold termB at h
 by_cases h1 : t.op < 0 ∨ 3 < t.op ∨ atomB t.a = false
 · rw [if_pos h1] at h; cases h
 rw [if_neg h1] at h
 simp only [not_or] at h1
 have av : ∀ a : AtomT, atomB a = true → a.var.toList = [] ∨ isWord a.var = true := fun a ha => by
  unfold atomB at ha
  split at ha
  · exact .inl (by assumption)
  · simp only [Bool.and_eq_true] at ha; exact .inr ha.1
 have ha := atomX_le (s := t.a.sym) (av t.a (by simpa using h1.2.2))
 unfold termX
 have e1 : (⟨#[40]⟩ : ByteArray).size = 1 := rfl
 have e2 : (⟨#[32]⟩ : ByteArray).size = 1 := rfl
 have e3 : (⟨#[41]⟩ : ByteArray).size = 1 := rfl
 have e4 : (⟨#[43]⟩ : ByteArray).size = 1 := rfl
 have e5 : (⟨#[45]⟩ : ByteArray).size = 1 := rfl
 have e6 : (⟨#[42]⟩ : ByteArray).size = 1 := rfl
 have eo : (opX t.op).size = 1 := by unfold opX; split; rfl; split <;> rfl
 split
 · rename_i ho
   rw [if_neg (by omega)] at h
   simp only [Bool.and_eq_true] at h
   have hb := atomX_le (s := t.b.sym) (av t.b h.1.1)
   simp only [ByteArray.size_append]
   omega
 · omega
theorem signX_le (k : Int) : (signX k).size ≤ 1 := by
 unfold signX
 repeat (split; exact Nat.le_refl 1)
 exact Nat.le_refl 1
theorem actX_le {a : ActT} (h : actB a = true) : (actX a).size ≤ 20000000000 := by
 unfold actB at h
 by_cases h1 : isWord a.id = false ∨ atomB a.attr = false ∨ termB a.value = false ∨ a.pref < 1 ∨ 10 < a.pref
 · rw [if_pos h1] at h; cases h
 rw [if_neg h1] at h
 simp only [not_or] at h1
 have av : ∀ a : AtomT, atomB a = true → a.var.toList = [] ∨ isWord a.var = true := fun a ha => by
  unfold atomB at ha
  split at ha
  · exact .inl (by assumption)
  · simp only [Bool.and_eq_true] at ha; exact .inr ha.1
 have w1 := word_le (show isWord a.id = true by simpa using h1.1)
 have ha := atomX_le (s := a.attr.sym) (av a.attr (by simpa using h1.2.1))
 have ht := termX_le (show termB a.value = true by simpa using h1.2.2.1)
 have hs := signX_le a.pref
 have e1 : (⟨#[40, 60]⟩ : ByteArray).size = 2 := rfl
 have e2 : (⟨#[62, 32, 94]⟩ : ByteArray).size = 3 := rfl
 have e3 : (⟨#[32]⟩ : ByteArray).size = 1 := rfl
 have e4 : (⟨#[41]⟩ : ByteArray).size = 1 := rfl
 unfold actX
 dsimp only
 rw [ByteArray.size_append]
 split
 · rename_i ho
   rw [if_pos ho] at h
   have hb := atomX_le (s := a.other.sym) (av a.other h)
   simp only [ByteArray.size_append]
   omega
 · simp only [ByteArray.size_append]
   omega
theorem shapeP_ok {n : Nat} {p : ProdT} (h : (shapeP n p).2 = 0) : isWord p.name = true ∧ (flatC n 0 p.conds).length ≤ 16 ∧ 1 ≤ (flatC n 0 p.conds).length ∧ p.acts.length ≤ 16 ∧ 1 ≤ p.acts.length ∧ (∀ x ∈ flatC n 0 p.conds, condE x.2 x.1 = 0) ∧ ∀ a ∈ p.acts, actB a = true := by
 unfold shapeP at h
 by_cases h1 : isWord p.name = false
 · rw [if_pos h1] at h; exact absurd h (by decide)
 rw [if_neg h1] at h
 by_cases h2 : (flatC n 0 p.conds).length < 1 ∨ 16 < (flatC n 0 p.conds).length ∨ p.acts.length < 1 ∨ 16 < p.acts.length
 · rw [if_pos h2] at h; exact absurd h (by decide)
 rw [if_neg h2] at h
 simp only [not_or] at h2
 cases h3 : (flatC n 0 p.conds).findIdx? (fun c => decide (condE c.2 c.1 ≠ 0)) with
 | some k =>
   rw [h3] at h
   obtain ⟨hk, hp, _⟩ := List.findIdx?_eq_some_iff_getElem.1 h3
   simp only at h
   rw [List.getElem?_eq_getElem hk] at h
   simp at h hp
   exact absurd h hp
 | none =>
   rw [h3] at h
   cases h4 : p.acts.findIdx? (fun a => !actB a) with
   | some i => rw [h4] at h; exact absurd h (by simp)
   | none =>
     refine ⟨by simpa using h1, by omega, by omega, by omega, by omega, fun x hx => ?_, fun a ha => ?_⟩
     · have := List.findIdx?_eq_none_iff.1 h3 x hx
       simpa using this
     · have := List.findIdx?_eq_none_iff.1 h4 a ha
       simpa using this
theorem prodX_le {n : Nat} {p : ProdT} (hdp : ∀ c ∈ p.conds, Dp n c) (h : (shapeP n p).2 = 0) : (prodX n p).size ≤ 1000000000000000 := by
 obtain ⟨h1, h2, _, h4, _, h6, h7⟩ := shapeP_ok h
 have w1 := word_le h1
 cases n with
 | zero => exact absurd h2 (by have := (shapeP_ok h).2.2.1; simp [flatC] at this)
 | succ m =>
   have hl : p.conds.length ≤ 16 := by
    have := flatC_sum m 0 p.conds
    have h8 : ∀ l : List CondT, l.length ≤ (l.map fun c => 1 + (flatC m (0 + 1) c.conds).length).sum := by
     intro l
     induction l with
     | nil => simp
     | cons c l ih => rw [List.map_cons, List.sum_cons, List.length_cons]; omega
    have := h8 p.conds
    omega
   have c1 := fold_sum (f := lineC (m + 1)) (B := 17000000000010) p.conds ((⟨#[115, 112, 32, 123]⟩ : ByteArray) ++ p.name ++ (⟨#[10]⟩ : ByteArray)) (fun c hc s => by
    obtain ⟨g1, g2⟩ := flatC_in (n := m) (d := 0) hc
    have g3 := condX_le m 0 c (hdp c hc) (h6 _ g1) (fun y hy => h6 _ (g2 y hy))
    have g4 : (flatC m (0 + 1) c.conds).length ≤ 16 := by
     have e := flatC_sum m 0 p.conds
     have g5 : ∀ l : List CondT, c ∈ l → 1 + (flatC m (0 + 1) c.conds).length ≤ (l.map fun c => 1 + (flatC m (0 + 1) c.conds).length).sum := by
      intro l hl
      induction l with
      | nil => cases hl
      | cons x l ih =>
        rw [List.map_cons, List.sum_cons]
        rcases List.mem_cons.1 hl with rfl | hl
        · omega
        · have := ih hl; omega
     have := g5 p.conds hc
     omega
    unfold lineC
    rw [ByteArray.size_append, ByteArray.size_append, ByteArray.size_append]
    have e1 : (⟨#[32, 32]⟩ : ByteArray).size = 2 := rfl
    have e2 : (⟨#[10]⟩ : ByteArray).size = 1 := rfl
    omega)
   have a1 := fold_sum (f := lineA) (B := 20000000010) p.acts (p.conds.foldl (lineC (m + 1)) ((⟨#[115, 112, 32, 123]⟩ : ByteArray) ++ p.name ++ (⟨#[10]⟩ : ByteArray)) ++ (⟨#[45, 45, 62, 10]⟩ : ByteArray)) (fun a ha s => by
    have := actX_le (h7 a ha)
    unfold lineA
    rw [ByteArray.size_append, ByteArray.size_append, ByteArray.size_append]
    have e1 : (⟨#[32, 32]⟩ : ByteArray).size = 2 := rfl
    have e2 : (⟨#[10]⟩ : ByteArray).size = 1 := rfl
    omega)
   unfold prodX
   rw [ByteArray.size_append]
   rw [ByteArray.size_append (b := (⟨#[45, 45, 62, 10]⟩ : ByteArray))] at a1
   rw [ByteArray.size_append, ByteArray.size_append] at c1
   have e1 : (⟨#[115, 112, 32, 123]⟩ : ByteArray).size = 4 := rfl
   have e2 : (⟨#[10]⟩ : ByteArray).size = 1 := rfl
   have e3 : (⟨#[45, 45, 62, 10]⟩ : ByteArray).size = 4 := rfl
   have e4 : (⟨#[125, 10]⟩ : ByteArray).size = 2 := rfl
   have m1 : p.conds.length * 17000000000010 ≤ 16 * 17000000000010 := Nat.mul_le_mul_right _ hl
   have m2 : p.acts.length * 20000000010 ≤ 16 * 20000000010 := Nat.mul_le_mul_right _ h4
   omega
end Go.Proofs.YtffemfglngikbaaGreat
namespace Go.Proofs.YtffemfglngikbaaGreat
open Go.RowKit Go.Shelf
attribute [local go_sem] Oper.semAt_some
set_option linter.unusedSimpArgs false
theorem newD_lt {B k : Nat} {w : World} (h : NewD B w k) : k < w.heap.size := h.2
theorem dp_condR (t : ByteArray → ByteArray) : ∀ (n : Nat) (x : CondT), Dp n x → Dp n (condR t n x)
 | 0, _, h => h.elim
 | n + 1, x, h => by
   intro y hy
   obtain ⟨z, hz, rfl⟩ := List.mem_map.1 (show y ∈ x.conds.map (condR t n) from hy)
   exact dp_condR t n z (h z hz)
theorem flat_condR (t : ByteArray → ByteArray) : ∀ (n d : Nat) (l : List CondT), (flatC n d (l.map (condR t n))).length = (flatC n d l).length
 | 0, _, _ => rfl
 | n + 1, d, l => by
   rw [← flatC_sum, ← flatC_sum, List.map_map]
   congr 1
   apply List.map_congr_left
   intro x _
   show 1 + (flatC n (d + 1) (x.conds.map (condR t n))).length = _
   rw [flat_condR t n]
structure Fit (n : Nat) (p : ProdT) : Prop where
 c : p.conds.length ≤ 1000
 a : p.acts.length ≤ 1000
 s : ∀ x ∈ p.conds, SmC n x
 v : (varsP n p).length ≤ 100000
 f : (flatC n 0 p.conds).length ≤ 1000000000
 nn : n ≤ 1000000000
 d : ∀ x ∈ p.conds, Dp n x
def textC (n : Nat) (p : ProdT) : ByteArray := showX n (plainP n p)
def sameC (n : Nat) (p q : ProdT) : Bool := decide (¬ (textC n p).toList = []) && decide ((textC n p).toList = (textC n q).toList)
set_option maxRecDepth 100000 in
set_option maxHeartbeats 4000000 in
theorem ctext_is {D : Nat → Prop} (n : Nat) (p : ProdT) (A1 : Option Addr) (c1 : Nat) (A2 : Option Addr) (c2 : Nat) (w : World) (hD : ∀ k, D k → k < w.heap.size) (h1 : RowR (repCondT n) D w A1 c1 p.conds) (h2 : RowR repActT D w A2 c2 p.acts) (hf : Fit n p) :
 Calls Tryz.prog 40 #[.agg #[.string p.name, .slice A1 p.conds.length c1, .slice A2 p.acts.length c2]] w fun e w' => e = .returned (.string (textC n p)) ∧ Below w.heap.size w w' := by
 have HPL := Lib.hid (show ∀ W, Below w.heap.size w W → Calls Tryz.prog 38 #[.agg #[.string p.name, .slice A1 p.conds.length c1, .slice A2 p.acts.length c2]] W (FreshP n (plainP n p) W) from fun W hW => cplain_is n p A1 c1 A2 c2 W (fun k hk => Nat.lt_of_lt_of_le (hD k hk) hW.size) (h1.new_ hW) (h2.new_ hW) hf.c hf.a hf.s hf.v)
 obtain ⟨q, hq⟩ : ∃ q, q = plainP n p := ⟨_, rfl⟩
 have HSZ := Lib.hid (show (shapeP n q).2 = 0 → (prodX n q).size ≤ MAXS from fun h => by
  have := prodX_le (n := n) (p := q) (by rw [hq]; intro x hx; obtain ⟨z, hz, rfl⟩ := List.mem_map.1 (show x ∈ p.conds.map _ from hx); exact dp_condR _ n z (hf.d z hz)) h
  unfold MAXS
  omega)
 have HFL := Lib.hid (show (flatC n 0 q.conds).length ≤ 1000000000 by rw [hq]; show (flatC n 0 (p.conds.map _)).length ≤ _; rw [flat_condR]; exact hf.f)
 have HNN := Lib.hid hf.nn
 have HTX := Lib.hid (show textC n p = showX n q by rw [hq]; rfl)
 rw [← hq] at HPL
 have hc1 := h1.cap
 have hc2 := h2.cap
 clear h1 h2 hD hf hq
 go_enter Tryz.func40, Tryz.ntmps40
 go_upto_region 1 with fail
 obtain ⟨w1, hw1⟩ : ∃ w1, w1 = (w.alloc (.cells #[.string p.name, .slice A1 p.conds.length c1, .slice A2 p.acts.length c2] 25)) := ⟨_, rfl⟩
 rw [← hw1]
 have HB := Lib.hid (show Below w.heap.size w w1 by rw [hw1]; exact (by repeat (first | exact Below.refl _ _ | refine Below.drew ?_ | refine Below.al ?_ _ | refine Below.sc ?_ _)))
 have Kb := Lib.hid (show Blk w1 (w.heap.size) 25 #[.string p.name, .slice A1 p.conds.length c1, .slice A2 p.acts.length c2] by rw [hw1]; exact (Blk.new w 25 #[.string p.name, .slice A1 p.conds.length c1, .slice A2 p.acts.length c2]))
 clear hw1
 obtain ⟨b0, b1, b2⟩ := Kb.out.c3
 have bz := Kb.out.lt
 go_wp2_with fail
 with_reducible refine (HPL.out _ (by (repeat (first | exact Below.refl _ _ | exact HB.out | refine Below.drew ?_ | refine Below.al ?_ _ | refine Below.sc ?_ _)))).mono ?_
 rintro e w2 ⟨E1, d1, E2, d2, rfl, r1, r2, hb⟩
 have hbs := Below.trans (show Below w1.heap.size w1 _ from (by (repeat (first | exact Below.refl _ _ | refine Below.drew ?_ | refine Below.al ?_ _ | refine Below.sc ?_ _)))) (hb.mono (by simp <;> omega))
 have Kb := Lib.hid (Kb.out.new_ hbs)
 have HB := Lib.hid (HB.out.trans (hbs.mono HB.out.size))
 have hsz2 := hbs.size
 clear b0 b1 b2 bz hb hbs
 obtain ⟨b0, b1, b2⟩ := Kb.out.c3
 have bz := Kb.out.lt
 have HR1 := Lib.hid r1
 have HR2 := Lib.hid r2
 clear r1 r2
 go_wp2_with fail
 with_reducible refine (sprod_is n q E1 E2 d1 d2 _ HR1.out HR2.out (fun _ hk => newD_lt hk) HFL.out HNN.out HSZ.out).mono ?_
 rintro e w3 ⟨rfl, hb⟩
 have hbs := Below.trans (show Below w2.heap.size w2 _ from (by (repeat (first | exact Below.refl _ _ | refine Below.drew ?_ | refine Below.al ?_ _ | refine Below.sc ?_ _)))) (hb.mono (by simp <;> omega))
 have Kb := Lib.hid (Kb.out.new_ hbs)
 have HB := Lib.hid (HB.out.trans (hbs.mono HB.out.size))
 have hsz3 := hbs.size
 clear b0 b1 b2 bz hb hbs
 obtain ⟨b0, b1, b2⟩ := Kb.out.c3
 have bz := Kb.out.lt
 go_wp2_with fail
 go_ret
 exact ⟨by rw [HTX.out] <;> rfl, HB.out⟩
set_option maxRecDepth 100000 in
set_option maxHeartbeats 4000000 in
theorem csame_is {D : Nat → Prop} (n : Nat) (p q : ProdT) (A1 : Option Addr) (c1 : Nat) (A2 : Option Addr) (c2 : Nat) (B1 : Option Addr) (d1 : Nat) (B2 : Option Addr) (d2 : Nat) (w : World) (hD : ∀ k, D k → k < w.heap.size)
 (h1 : RowR (repCondT n) D w A1 c1 p.conds) (h2 : RowR repActT D w A2 c2 p.acts) (hf : Fit n p) (k1 : RowR (repCondT n) D w B1 d1 q.conds) (k2 : RowR repActT D w B2 d2 q.acts) (kf : Fit n q) :
 Calls Tryz.prog 42 #[.agg #[.string p.name, .slice A1 p.conds.length c1, .slice A2 p.acts.length c2], .agg #[.string q.name, .slice B1 q.conds.length d1, .slice B2 q.acts.length d2]] w fun e w' => e = .returned (.bool (sameC n p q)) ∧ Below w.heap.size w w' := by
 obtain ⟨s, hs⟩ : ∃ s, s = textC n p := ⟨_, rfl⟩
 obtain ⟨t, ht⟩ : ∃ t, t = textC n q := ⟨_, rfl⟩
 have HTP := Lib.hid (show ∀ W, Below w.heap.size w W → Calls Tryz.prog 40 #[.agg #[.string p.name, .slice A1 p.conds.length c1, .slice A2 p.acts.length c2]] W fun e w' => e = .returned (.string s) ∧ Below W.heap.size W w' from fun W hW => by rw [hs]; exact ctext_is n p A1 c1 A2 c2 W (fun k hk => Nat.lt_of_lt_of_le (hD k hk) hW.size) (h1.new_ hW) (h2.new_ hW) hf)
 have HTQ := Lib.hid (show ∀ W, Below w.heap.size w W → Calls Tryz.prog 40 #[.agg #[.string q.name, .slice B1 q.conds.length d1, .slice B2 q.acts.length d2]] W fun e w' => e = .returned (.string t) ∧ Below W.heap.size W w' from fun W hW => by rw [ht]; exact ctext_is n q B1 d1 B2 d2 W (fun k hk => Nat.lt_of_lt_of_le (hD k hk) hW.size) (k1.new_ hW) (k2.new_ hW) kf)
 have HV := Lib.hid (show sameC n p q = (decide (¬ s.toList = []) && decide (s.toList = t.toList)) by rw [hs, ht]; rfl)
 have hc1 := h1.cap
 have hc2 := h2.cap
 have hc3 := k1.cap
 have hc4 := k2.cap
 clear h1 h2 k1 k2 hf kf hD hs ht
 by_cases he : s.toList = []
 · skip
   have ea : (s.toList == []) = true := by simp [he]
   have eb : s.toList.isEmpty = true := by simp [he]
   have ec : decide (s.toList = []) = true := by simp [he]
   have HR := Lib.hid (show sameC n p q = false by rw [HV.out, he]; rfl)
   clear he
   go_enter Tryz.func42, Tryz.ntmps42
   go_upto_region 1 with fail
   obtain ⟨w1, hw1⟩ : ∃ w1, w1 = ((w.alloc (.cells #[.string p.name, .slice A1 p.conds.length c1, .slice A2 p.acts.length c2] 25)).alloc (.cells #[.string q.name, .slice B1 q.conds.length d1, .slice B2 q.acts.length d2] 25)) := ⟨_, rfl⟩
   rw [← hw1]
   have HB := Lib.hid (show Below w.heap.size w w1 by rw [hw1]; exact (by repeat (first | exact Below.refl _ _ | refine Below.drew ?_ | refine Below.al ?_ _ | refine Below.sc ?_ _)))
   have Ka := Lib.hid (show Blk w1 (w.heap.size) 25 #[.string p.name, .slice A1 p.conds.length c1, .slice A2 p.acts.length c2] by rw [hw1]; exact ((Blk.new w 25 #[.string p.name, .slice A1 p.conds.length c1, .slice A2 p.acts.length c2]).alloc (.cells #[.string q.name, .slice B1 q.conds.length d1, .slice B2 q.acts.length d2] 25)))
   have Kb := Lib.hid (show Blk w1 (w.heap.size + 1) 25 #[.string q.name, .slice B1 q.conds.length d1, .slice B2 q.acts.length d2] by rw [hw1]; have hh := (Blk.new (w.alloc (.cells #[.string p.name, .slice A1 p.conds.length c1, .slice A2 p.acts.length c2] 25)) 25 #[.string q.name, .slice B1 q.conds.length d1, .slice B2 q.acts.length d2]); simp only [World.size_alloc] at hh; exact hh)
   clear hw1
   obtain ⟨a0, a1, a2⟩ := Ka.out.c3
   have az := Ka.out.lt
   obtain ⟨b0, b1, b2⟩ := Kb.out.c3
   have bz := Kb.out.lt
   go_wp2_with fail
   with_reducible refine (HTP.out _ (by (repeat (first | exact Below.refl _ _ | exact HB.out | refine Below.drew ?_ | refine Below.al ?_ _ | refine Below.sc ?_ _)))).mono ?_
   rintro e w2 ⟨rfl, hb⟩
   have hbs := Below.trans (show Below w1.heap.size w1 _ from (by (repeat (first | exact Below.refl _ _ | refine Below.drew ?_ | refine Below.al ?_ _ | refine Below.sc ?_ _)))) (hb.mono (by simp <;> omega))
   have Ka := Lib.hid (Ka.out.new_ hbs)
   have Kb := Lib.hid (Kb.out.new_ hbs)
   have HB := Lib.hid (HB.out.trans (hbs.mono HB.out.size))
   have hsz2 := hbs.size
   clear a0 a1 a2 az b0 b1 b2 bz hb hbs
   obtain ⟨a0, a1, a2⟩ := Ka.out.c3
   have az := Ka.out.lt
   obtain ⟨b0, b1, b2⟩ := Kb.out.c3
   have bz := Kb.out.lt
   go_wp2_with fail
   go_ret
   exact ⟨by rw [HR.out] <;> rfl, HB.out⟩
 · skip
   have ea : (s.toList == []) = false := by simp [he]
   have eb : s.toList.isEmpty = false := by simp [he]
   have ec : decide (s.toList = []) = false := by simp [he]
   by_cases hq : s.toList = t.toList
   · skip
     have qa : (s.toList == t.toList) = true := by simp [hq]
     have qb : decide (s.toList = t.toList) = true := by simp [hq]
     have HR := Lib.hid (show sameC n p q = true by rw [HV.out, decide_eq_true he, decide_eq_true hq]; rfl)
     clear he hq
     go_enter Tryz.func42, Tryz.ntmps42
     go_upto_region 1 with fail
     obtain ⟨w1, hw1⟩ : ∃ w1, w1 = ((w.alloc (.cells #[.string p.name, .slice A1 p.conds.length c1, .slice A2 p.acts.length c2] 25)).alloc (.cells #[.string q.name, .slice B1 q.conds.length d1, .slice B2 q.acts.length d2] 25)) := ⟨_, rfl⟩
     rw [← hw1]
     have HB := Lib.hid (show Below w.heap.size w w1 by rw [hw1]; exact (by repeat (first | exact Below.refl _ _ | refine Below.drew ?_ | refine Below.al ?_ _ | refine Below.sc ?_ _)))
     have Ka := Lib.hid (show Blk w1 (w.heap.size) 25 #[.string p.name, .slice A1 p.conds.length c1, .slice A2 p.acts.length c2] by rw [hw1]; exact ((Blk.new w 25 #[.string p.name, .slice A1 p.conds.length c1, .slice A2 p.acts.length c2]).alloc (.cells #[.string q.name, .slice B1 q.conds.length d1, .slice B2 q.acts.length d2] 25)))
     have Kb := Lib.hid (show Blk w1 (w.heap.size + 1) 25 #[.string q.name, .slice B1 q.conds.length d1, .slice B2 q.acts.length d2] by rw [hw1]; have hh := (Blk.new (w.alloc (.cells #[.string p.name, .slice A1 p.conds.length c1, .slice A2 p.acts.length c2] 25)) 25 #[.string q.name, .slice B1 q.conds.length d1, .slice B2 q.acts.length d2]); simp only [World.size_alloc] at hh; exact hh)
     clear hw1
     obtain ⟨a0, a1, a2⟩ := Ka.out.c3
     have az := Ka.out.lt
     obtain ⟨b0, b1, b2⟩ := Kb.out.c3
     have bz := Kb.out.lt
     go_wp2_with fail
     with_reducible refine (HTP.out _ (by (repeat (first | exact Below.refl _ _ | exact HB.out | refine Below.drew ?_ | refine Below.al ?_ _ | refine Below.sc ?_ _)))).mono ?_
     rintro e w2 ⟨rfl, hb⟩
     have hbs := Below.trans (show Below w1.heap.size w1 _ from (by (repeat (first | exact Below.refl _ _ | refine Below.drew ?_ | refine Below.al ?_ _ | refine Below.sc ?_ _)))) (hb.mono (by simp <;> omega))
     have Ka := Lib.hid (Ka.out.new_ hbs)
     have Kb := Lib.hid (Kb.out.new_ hbs)
     have HB := Lib.hid (HB.out.trans (hbs.mono HB.out.size))
     have hsz2 := hbs.size
     clear a0 a1 a2 az b0 b1 b2 bz hb hbs
     obtain ⟨a0, a1, a2⟩ := Ka.out.c3
     have az := Ka.out.lt
     obtain ⟨b0, b1, b2⟩ := Kb.out.c3
     have bz := Kb.out.lt
     go_wp2_with fail
     with_reducible refine (HTQ.out _ (by (repeat (first | exact Below.refl _ _ | exact HB.out | refine Below.drew ?_ | refine Below.al ?_ _ | refine Below.sc ?_ _)))).mono ?_
     rintro e w3 ⟨rfl, hb⟩
     have hbs := Below.trans (show Below w2.heap.size w2 _ from (by (repeat (first | exact Below.refl _ _ | refine Below.drew ?_ | refine Below.al ?_ _ | refine Below.sc ?_ _)))) (hb.mono (by simp <;> omega))
     have Ka := Lib.hid (Ka.out.new_ hbs)
     have Kb := Lib.hid (Kb.out.new_ hbs)
     have HB := Lib.hid (HB.out.trans (hbs.mono HB.out.size))
     have hsz3 := hbs.size
     clear a0 a1 a2 az b0 b1 b2 bz hb hbs
     obtain ⟨a0, a1, a2⟩ := Ka.out.c3
     have az := Ka.out.lt
     obtain ⟨b0, b1, b2⟩ := Kb.out.c3
     have bz := Kb.out.lt
     go_wp2_with fail
     go_ret
     exact ⟨by rw [HR.out] <;> rfl, HB.out⟩
   · skip
     have qa : (s.toList == t.toList) = false := by simp [hq]
     have qb : decide (s.toList = t.toList) = false := by simp [hq]
     have HR := Lib.hid (show sameC n p q = false by rw [HV.out]; simp [he, hq])
     clear he hq
     go_enter Tryz.func42, Tryz.ntmps42
     go_upto_region 1 with fail
     obtain ⟨w1, hw1⟩ : ∃ w1, w1 = ((w.alloc (.cells #[.string p.name, .slice A1 p.conds.length c1, .slice A2 p.acts.length c2] 25)).alloc (.cells #[.string q.name, .slice B1 q.conds.length d1, .slice B2 q.acts.length d2] 25)) := ⟨_, rfl⟩
     rw [← hw1]
     have HB := Lib.hid (show Below w.heap.size w w1 by rw [hw1]; exact (by repeat (first | exact Below.refl _ _ | refine Below.drew ?_ | refine Below.al ?_ _ | refine Below.sc ?_ _)))
     have Ka := Lib.hid (show Blk w1 (w.heap.size) 25 #[.string p.name, .slice A1 p.conds.length c1, .slice A2 p.acts.length c2] by rw [hw1]; exact ((Blk.new w 25 #[.string p.name, .slice A1 p.conds.length c1, .slice A2 p.acts.length c2]).alloc (.cells #[.string q.name, .slice B1 q.conds.length d1, .slice B2 q.acts.length d2] 25)))
     have Kb := Lib.hid (show Blk w1 (w.heap.size + 1) 25 #[.string q.name, .slice B1 q.conds.length d1, .slice B2 q.acts.length d2] by rw [hw1]; have hh := (Blk.new (w.alloc (.cells #[.string p.name, .slice A1 p.conds.length c1, .slice A2 p.acts.length c2] 25)) 25 #[.string q.name, .slice B1 q.conds.length d1, .slice B2 q.acts.length d2]); simp only [World.size_alloc] at hh; exact hh)
     clear hw1
     obtain ⟨a0, a1, a2⟩ := Ka.out.c3
     have az := Ka.out.lt
     obtain ⟨b0, b1, b2⟩ := Kb.out.c3
     have bz := Kb.out.lt
     go_wp2_with fail
     with_reducible refine (HTP.out _ (by (repeat (first | exact Below.refl _ _ | exact HB.out | refine Below.drew ?_ | refine Below.al ?_ _ | refine Below.sc ?_ _)))).mono ?_
     rintro e w2 ⟨rfl, hb⟩
     have hbs := Below.trans (show Below w1.heap.size w1 _ from (by (repeat (first | exact Below.refl _ _ | refine Below.drew ?_ | refine Below.al ?_ _ | refine Below.sc ?_ _)))) (hb.mono (by simp <;> omega))
     have Ka := Lib.hid (Ka.out.new_ hbs)
     have Kb := Lib.hid (Kb.out.new_ hbs)
     have HB := Lib.hid (HB.out.trans (hbs.mono HB.out.size))
     have hsz2 := hbs.size
     clear a0 a1 a2 az b0 b1 b2 bz hb hbs
     obtain ⟨a0, a1, a2⟩ := Ka.out.c3
     have az := Ka.out.lt
     obtain ⟨b0, b1, b2⟩ := Kb.out.c3
     have bz := Kb.out.lt
     go_wp2_with fail
     with_reducible refine (HTQ.out _ (by (repeat (first | exact Below.refl _ _ | exact HB.out | refine Below.drew ?_ | refine Below.al ?_ _ | refine Below.sc ?_ _)))).mono ?_
     rintro e w3 ⟨rfl, hb⟩
     have hbs := Below.trans (show Below w2.heap.size w2 _ from (by (repeat (first | exact Below.refl _ _ | refine Below.drew ?_ | refine Below.al ?_ _ | refine Below.sc ?_ _)))) (hb.mono (by simp <;> omega))
     have Ka := Lib.hid (Ka.out.new_ hbs)
     have Kb := Lib.hid (Kb.out.new_ hbs)
     have HB := Lib.hid (HB.out.trans (hbs.mono HB.out.size))
     have hsz3 := hbs.size
     clear a0 a1 a2 az b0 b1 b2 bz hb hbs
     obtain ⟨a0, a1, a2⟩ := Ka.out.c3
     have az := Ka.out.lt
     obtain ⟨b0, b1, b2⟩ := Kb.out.c3
     have bz := Kb.out.lt
     go_wp2_with fail
     go_ret
     exact ⟨by rw [HR.out] <;> rfl, HB.out⟩
end Go.Proofs.YtffemfglngikbaaGreat
