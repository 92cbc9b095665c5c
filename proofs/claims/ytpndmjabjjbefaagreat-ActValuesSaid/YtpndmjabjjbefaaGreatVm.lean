/-
  For every input ActValues answers true, and leaves its arguments and all that was there as they were. No conditions.
-/
import Derived.Test.YtpndmjabjjbefaaGreatVk
import Derived.Test.YtpndmjabjjbefaaGreatVl
import Derived.Test.YtpndmjabjjbefaaGreatVc
import Derived.Test.YtpndmjabjjbefaaGreatVb
import Derived.Maps.RangeWalk
namespace Go.Proofs.YtpndmjabjjbefaaGreat
open Go.RowKit Go.Shelf
attribute [local go_sem] Oper.semAt_some
def wkT : TermT := ⟨1, ⟨⟨#[120]⟩, ⟨0, ⟨#[]⟩, 0⟩⟩, ⟨⟨#[]⟩, ⟨2, ⟨#[]⟩, 1⟩⟩⟩
def wkB : BindT := ⟨⟨#[120]⟩, ⟨2, ⟨#[]⟩, 4⟩⟩
def wkL : BindT := ⟨⟨#[115]⟩, ⟨1, ⟨#[83]⟩, 1⟩⟩
def wkA : ActT := ⟨⟨#[115]⟩, ⟨⟨#[]⟩, ⟨3, ⟨#[97]⟩, 0⟩⟩, ⟨0, ⟨⟨#[111]⟩, ⟨0, ⟨#[]⟩, 0⟩⟩, ⟨⟨#[]⟩, ⟨0, ⟨#[]⟩, 0⟩⟩⟩, 1, ⟨⟨#[]⟩, ⟨0, ⟨#[]⟩, 0⟩⟩⟩
def wkC : ActT := ⟨⟨#[111]⟩, ⟨⟨#[]⟩, ⟨3, ⟨#[98]⟩, 0⟩⟩, ⟨0, ⟨⟨#[]⟩, ⟨2, ⟨#[]⟩, 1⟩⟩, ⟨⟨#[]⟩, ⟨0, ⟨#[]⟩, 0⟩⟩⟩, 1, ⟨⟨#[]⟩, ⟨0, ⟨#[]⟩, 0⟩⟩⟩
def wkP : ProdT := ⟨⟨#[97]⟩, [oneCond], [wkA, wkC]⟩
theorem wk_value : valueV wkT [wkB] = (⟨2, ⟨#[]⟩, 5⟩, true) := by kernel_rfl
theorem condsK_one (n : Nat) (k k2 : Kn) (c : CondT) (at_ : Int) (h : c.kind = 1) (h2 : oneK k c = (true, k2)) : condsK (n + 1) k [c] at_ = (true, at_ + 1, k2) := by
 rw [condsK, if_neg (by omega), if_pos h, h2]
 simp only [if_pos h]
 rw [condsK]
theorem checkP_one {n : Nat} {p : ProdT} {c : CondT} {k2 : Kn} (h0 : (shapeP (n + 1) p).2 = 0) (hc : p.conds = [c]) (hk : c.kind = 1) (h2 : oneK ([], []) c = (true, k2)) (h3 : p.acts.findIdx? (actV k2) = none) : checkP (n + 1) p = (-1, 0, k2.2) := by
 unfold checkP
 rw [if_neg (by rw [h0]; simp), hc, if_neg (by simp [hk]), condsK_one n _ k2 c 0 hk h2]
 simp only [h3]
theorem wk_check : checkP 1 wkP = (-1, 0, [⟨#[115]⟩]) := checkP_one (n := 0) (c := oneCond) (k2 := ([⟨#[115]⟩], [⟨#[115]⟩])) (by kernel_rfl) rfl rfl (by kernel_rfl) (by kernel_rfl)
def wkQ : List PrefT := [⟨⟨1, ⟨#[83]⟩, 1⟩, ⟨3, ⟨#[97]⟩, 0⟩, ⟨1, ⟨#[79]⟩, 1⟩, ⟨0, ⟨#[]⟩, 0⟩, 1, false, 0, 0⟩, ⟨⟨1, ⟨#[79]⟩, 1⟩, ⟨3, ⟨#[98]⟩, 0⟩, ⟨2, ⟨#[]⟩, 1⟩, ⟨0, ⟨#[]⟩, 0⟩, 1, false, 0, 0⟩]
def wkM : List BindT := [wkL, ⟨⟨#[111]⟩, ⟨1, ⟨#[79]⟩, 1⟩⟩]
def wkN : List Sym := (doV 20 [wkL] wkP.acts []).2
theorem wk_do : doR 1 wkP [wkL] 20 [] = ((wkQ, wkM, 0), wkN) := by
 unfold doR
 rw [wk_check, if_neg (by simp)]
 kernel_rfl
def WkTo (D : Nat → Prop) (Y : World) (e : Ending) (W' : World) : Prop := ∃ g c g' c', e = .returned (.tuple #[.slice (some ⟨g, 0, none⟩) 2 c, .slice (some ⟨g', 0, none⟩) 2 c', .int .i64 0]) ∧ g < W'.heap.size ∧ (2 ≤ c ∧ c ≤ maxLen ∧ 2 ≤ c' ∧ c' ≤ maxLen) ∧
    (W'.cell? ⟨g, 6, none⟩ = some (.int .i64 1) ∧ W'.cell? ⟨g, 7, none⟩ = some (.string ⟨#[79]⟩) ∧ W'.cell? ⟨g, 8, none⟩ = some (.int .i64 1)) ∧
    (W'.cell? ⟨g, 16, none⟩ = some (.int .i64 1) ∧ W'.cell? ⟨g, 17, none⟩ = some (.string ⟨#[79]⟩) ∧ W'.cell? ⟨g, 18, none⟩ = some (.int .i64 1)) ∧ Fr (fun j => ¬ D j) Y W'
theorem wkTo_of {D : Nat → Prop} {Y W' : World} {T : TB} {e : Ending} (h : DoTo D Y T ((wkQ, wkM, 0), wkN) e W') : WkTo D Y e W' := by
 obtain ⟨A, c, A', c', D', rfl, hq, hm, _, _, _, _, hF⟩ := h
 rcases ownsRow_form hq with ⟨_, h0, _⟩ | ⟨g, cap, hv, g1, g2, hr, _, hc⟩
 · cases h0
 rcases ownsRow_form hm with ⟨_, h0, _⟩ | ⟨g', cap', hv', g1', g2', _, _, _⟩
 · cases h0
 injection hv with v1 _ v3
 injection hv' with u1 _ u3
 subst v1; subst v3; subst u1; subst u3
 exact ⟨g, c, g', c', rfl, hr.lt, ⟨g1, g2, g1', g2'⟩, ⟨hc 6 _ rfl, hc 7 _ rfl, hc 8 _ rfl⟩, ⟨hc 16 _ rfl, hc 17 _ rfl, hc 18 _ rfl⟩, hF⟩
set_option maxRecDepth 100000 in
set_option maxHeartbeats 8000000 in
theorem wakes15_is (w : World) : Calls Tryz.prog 10 #[] w fun e w' => e = .returned (.bool true) ∧ Below w.heap.size w w' := by
 have HB := Lib.hid (Below.refl w.heap.size w)
 go_enter Tryz.func10, Tryz.ntmps10
 go_wp2_with fail
 with_reducible refine (wN9_is 1 _).mono ?_
 rintro e w2 ⟨rfl, hb⟩
 have hbs := Below.trans (show Below w.heap.size w _ from (by (repeat (first | exact Below.refl _ _ | (refine Below.drew ?_) | (refine Below.alloc ?_ (by first | omega | (simp; done) | (simp; omega)) _) | (refine Below.setCell ?_ (by first | omega | (simp; done) | (simp; omega)) _))))) (hb.mono (by simp <;> omega))
 have HB := Lib.hid (HB.out.trans (hbs.mono HB.out.size))
 have hsz2 := hbs.size
 clear  hb hbs
 go_wp2_with fail
 with_reducible refine (wN9_is 4 _).mono ?_
 rintro e w3 ⟨rfl, hb⟩
 have hbs := Below.trans (show Below w2.heap.size w2 _ from (by (repeat (first | exact Below.refl _ _ | (refine Below.drew ?_) | (refine Below.alloc ?_ (by first | omega | (simp; done) | (simp; omega)) _) | (refine Below.setCell ?_ (by first | omega | (simp; done) | (simp; omega)) _))))) (hb.mono (by simp <;> omega))
 have HB := Lib.hid (HB.out.trans (hbs.mono HB.out.size))
 have hsz3 := hbs.size
 clear  hb hbs
 have HV := Lib.hid (show ∀ (Y : World) (A : Option Addr), RowR repBindT (fun _ => True) Y A 1 [wkB] → Calls Tryz.prog 11 #[.agg #[.int .i64 1, .string ⟨#[120]⟩, .int .i64 0, .string ⟨#[]⟩, .int .i64 0, .string ⟨#[]⟩, .int .i64 2, .string ⟨#[]⟩, .int .i64 1], .slice A 1 1] Y (SymTo Y (⟨2, ⟨#[]⟩, 5⟩, true)) from fun Y A h => by have := value_is wkT [wkB] Y h; rw [wk_value] at this; exact this)
 go_wp2_with fail
 have hrb := row_one (r := repBindT) (D := fun _ => True) (a := wkB) (cs := [.string ⟨#[120]⟩, .int .i64 2, .string ⟨#[]⟩, .int .i64 4]) (Blk.new w3 36 #[.string ⟨#[120]⟩, .int .i64 2, .string ⟨#[]⟩, .int .i64 4]) trivial rfl
 with_reducible refine (HV.out _ _ hrb).mono ?_
 rintro e w4 ⟨rfl, hb⟩
 have hbs := Below.trans (show Below w3.heap.size w3 _ from (by (repeat (first | exact Below.refl _ _ | (refine Below.drew ?_) | (refine Below.alloc ?_ (by first | omega | (simp; done) | (simp; omega)) _) | (refine Below.setCell ?_ (by first | omega | (simp; done) | (simp; omega)) _))))) (hb.mono (by simp <;> omega))
 have HB := Lib.hid (HB.out.trans (hbs.mono HB.out.size))
 have hsz4 := hbs.size
 clear  hb hbs
 go_wp2_with fail
 with_reducible refine (one_is6 _).mono ?_
 rintro e w5 ⟨Ac, Aa, rfl, hrc, _, hb⟩
 have hbs := Below.trans (show Below w4.heap.size w4 _ from (by (repeat (first | exact Below.refl _ _ | (refine Below.drew ?_) | (refine Below.alloc ?_ (by first | omega | (simp; done) | (simp; omega)) _) | (refine Below.setCell ?_ (by first | omega | (simp; done) | (simp; omega)) _))))) (hb.mono (by simp <;> omega))
 have Kv := Lib.hid (show Blk w5 (w4.heap.size) 23 #[.int .i64 2, .string ⟨#[]⟩, .int .i64 5] from (Blk.new _ _ _).new_ hb)
 have HB := Lib.hid (HB.out.trans (hbs.mono HB.out.size))
 have hsz5 := hbs.size
 clear  hb hbs
 have v0 : w5.cell? ⟨w4.heap.size, 0, none⟩ = some (.int .i64 2) := (Kv.out.cell 0).trans rfl
 have v1 : w5.cell? ⟨w4.heap.size, 1, none⟩ = some (.string ⟨#[]⟩) := (Kv.out.cell 1).trans rfl
 have v2 : w5.cell? ⟨w4.heap.size, 2, none⟩ = some (.int .i64 5) := (Kv.out.cell 2).trans rfl
 have vz := Kv.out.lt
 have HRC := Lib.hid (hrc.weaken (D' := fun _ => True) (fun _ _ => trivial))
 have hrcd := hrc
 clear hrc
 have hs0 := HB.out.size
 have HRD := Lib.hid (show RowR (repCondT 1) (· < w5.heap.size) w5 Ac 1 [oneCond] from hrcd.weaken (fun k hk => hk.2))
 clear hrcd
 go_wp2_with fail
 with_reducible refine (wW9_is ⟨#[97]⟩ _).mono ?_
 rintro e w6 ⟨rfl, hb⟩
 have hbs := Below.trans (show Below w5.heap.size w5 _ from (by (repeat (first | exact Below.refl _ _ | (refine Below.drew ?_) | (refine Below.alloc ?_ (by first | omega | (simp; done) | (simp; omega)) _) | (refine Below.setCell ?_ (by first | omega | (simp; done) | (simp; omega)) _))))) (hb.mono (by simp <;> omega))
 have Kv := Lib.hid (Kv.out.new_ hbs)
 have HRD := Lib.hid (HRD.out.new_ hbs)
 have Kp := Lib.hid (show Blk w6 (w5.heap.size) 42 #[.string ⟨#[97]⟩, .slice Ac 1 1, .slice Aa 1 1] from (Blk.new _ _ _).new_ hb)
 have HB := Lib.hid (HB.out.trans (hbs.mono HB.out.size))
 have hsz6 := hbs.size
 clear v0 v1 v2 vz hb hbs
 have v0 : w6.cell? ⟨w4.heap.size, 0, none⟩ = some (.int .i64 2) := (Kv.out.cell 0).trans rfl
 have v1 : w6.cell? ⟨w4.heap.size, 1, none⟩ = some (.string ⟨#[]⟩) := (Kv.out.cell 1).trans rfl
 have v2 : w6.cell? ⟨w4.heap.size, 2, none⟩ = some (.int .i64 5) := (Kv.out.cell 2).trans rfl
 have vz := Kv.out.lt
 have p0 : w6.cell? ⟨w5.heap.size, 0, none⟩ = some (.string ⟨#[97]⟩) := (Kp.out.cell 0).trans rfl
 have pf0 := Kp.out.frozen 0
 have p1 : w6.cell? ⟨w5.heap.size, 1, none⟩ = some (.slice Ac 1 1) := (Kp.out.cell 1).trans rfl
 have pf1 := Kp.out.frozen 1
 have p2 : w6.cell? ⟨w5.heap.size, 2, none⟩ = some (.slice Aa 1 1) := (Kp.out.cell 2).trans rfl
 have pf2 := Kp.out.frozen 2
 have pz := Kp.out.lt
 go_wp2_with fail
 with_reducible refine (wW9_is ⟨#[98]⟩ _).mono ?_
 rintro e w7 ⟨rfl, hb⟩
 have hbs := Below.trans (show Below w6.heap.size w6 _ from (by (repeat (first | exact Below.refl _ _ | (refine Below.drew ?_) | (refine Below.alloc ?_ (by first | omega | (simp; done) | (simp; omega)) _) | (refine Below.setCell ?_ (by first | omega | (simp; done) | (simp; omega)) _))))) (hb.mono (by simp <;> omega))
 have Kv := Lib.hid (Kv.out.new_ hbs)
 have Kp := Lib.hid (Kp.out.new_ hbs)
 have HRD := Lib.hid (HRD.out.new_ hbs)
 have HB := Lib.hid (HB.out.trans (hbs.mono HB.out.size))
 have hsz7 := hbs.size
 clear v0 v1 v2 vz p0 pf0 p1 pf1 p2 pf2 pz hb hbs
 have v0 : w7.cell? ⟨w4.heap.size, 0, none⟩ = some (.int .i64 2) := (Kv.out.cell 0).trans rfl
 have v1 : w7.cell? ⟨w4.heap.size, 1, none⟩ = some (.string ⟨#[]⟩) := (Kv.out.cell 1).trans rfl
 have v2 : w7.cell? ⟨w4.heap.size, 2, none⟩ = some (.int .i64 5) := (Kv.out.cell 2).trans rfl
 have vz := Kv.out.lt
 have p0 : w7.cell? ⟨w5.heap.size, 0, none⟩ = some (.string ⟨#[97]⟩) := (Kp.out.cell 0).trans rfl
 have pf0 := Kp.out.frozen 0
 have p1 : w7.cell? ⟨w5.heap.size, 1, none⟩ = some (.slice Ac 1 1) := (Kp.out.cell 1).trans rfl
 have pf1 := Kp.out.frozen 1
 have p2 : w7.cell? ⟨w5.heap.size, 2, none⟩ = some (.slice Aa 1 1) := (Kp.out.cell 2).trans rfl
 have pf2 := Kp.out.frozen 2
 have pz := Kp.out.lt
 go_wp2_with fail
 with_reducible refine (wN9_is 1 _).mono ?_
 rintro e w8 ⟨rfl, hb⟩
 have hbs := Below.trans (show Below w7.heap.size w7 _ from (by (repeat (first | exact Below.refl _ _ | (refine Below.drew ?_) | (refine Below.alloc ?_ (by first | omega | (simp; done) | (simp; omega)) _) | (refine Below.setCell ?_ (by first | omega | (simp; done) | (simp; omega)) _))))) (hb.mono (by simp <;> omega))
 have Kv := Lib.hid (Kv.out.new_ hbs)
 have Kp := Lib.hid (Kp.out.new_ hbs)
 have HRD := Lib.hid (HRD.out.new_ hbs)
 have HB := Lib.hid (HB.out.trans (hbs.mono HB.out.size))
 have hsz8 := hbs.size
 clear v0 v1 v2 vz p0 pf0 p1 pf1 p2 pf2 pz hb hbs
 have v0 : w8.cell? ⟨w4.heap.size, 0, none⟩ = some (.int .i64 2) := (Kv.out.cell 0).trans rfl
 have v1 : w8.cell? ⟨w4.heap.size, 1, none⟩ = some (.string ⟨#[]⟩) := (Kv.out.cell 1).trans rfl
 have v2 : w8.cell? ⟨w4.heap.size, 2, none⟩ = some (.int .i64 5) := (Kv.out.cell 2).trans rfl
 have vz := Kv.out.lt
 have p0 : w8.cell? ⟨w5.heap.size, 0, none⟩ = some (.string ⟨#[97]⟩) := (Kp.out.cell 0).trans rfl
 have pf0 := Kp.out.frozen 0
 have p1 : w8.cell? ⟨w5.heap.size, 1, none⟩ = some (.slice Ac 1 1) := (Kp.out.cell 1).trans rfl
 have pf1 := Kp.out.frozen 1
 have p2 : w8.cell? ⟨w5.heap.size, 2, none⟩ = some (.slice Aa 1 1) := (Kp.out.cell 2).trans rfl
 have pf2 := Kp.out.frozen 2
 have pz := Kp.out.lt
 go_wp2_with fail
 obtain ⟨X, hX⟩ : ∃ X, X = w8.setCell ⟨w5.heap.size, 2, none⟩ (.slice (some ⟨w8.heap.size, 0, none⟩) 2 2) := ⟨_, rfl⟩
 rw [← hX]
 have hFX : Fr (· = w5.heap.size) w8 X := by rw [hX]; exact (Fr.refl (· = w5.heap.size) w8).setCell (p := ⟨w5.heap.size, 2, none⟩) (.inl rfl) _
 have hsX : X.heap.size = w8.heap.size := by rw [hX]; simp
 have KpX : Blk X w5.heap.size 42 #[.string ⟨#[97]⟩, .slice Ac 1 1, .slice (some ⟨w8.heap.size, 0, none⟩) 2 2] := by rw [hX]; simpa using (Kp.out.set_ 2 (.slice (some ⟨w8.heap.size, 0, none⟩) 2 2))
 have KvX := Kv.out.fr hFX (Kv.out.ne_ Kp.out (by decide))
 obtain ⟨Z, hZ⟩ : ∃ Z, Z = X.alloc (.cells #[.string ⟨#[115]⟩, .string ⟨#[]⟩, .int .i64 3, .string ⟨#[97]⟩, .int .i64 0, .int .i64 0, .string ⟨#[111]⟩, .int .i64 0, .string ⟨#[]⟩, .int .i64 0, .string ⟨#[]⟩, .int .i64 0, .string ⟨#[]⟩, .int .i64 0, .int .i64 1, .string ⟨#[]⟩, .int .i64 0, .string ⟨#[]⟩, .int .i64 0, .string ⟨#[111]⟩, .string ⟨#[]⟩, .int .i64 3, .string ⟨#[98]⟩, .int .i64 0, .int .i64 0, .string ⟨#[]⟩, .int .i64 2, .string ⟨#[]⟩, .int .i64 1, .string ⟨#[]⟩, .int .i64 0, .string ⟨#[]⟩, .int .i64 0, .int .i64 1, .string ⟨#[]⟩, .int .i64 0, .string ⟨#[]⟩, .int .i64 0] 65) := ⟨_, rfl⟩
 rw [← hZ]
 have hbZX : Below X.heap.size X Z := by rw [hZ]; exact (Below.refl _ _).alloc (Nat.le_refl _) _
 have ga : Blk Z w8.heap.size 65 #[.string ⟨#[115]⟩, .string ⟨#[]⟩, .int .i64 3, .string ⟨#[97]⟩, .int .i64 0, .int .i64 0, .string ⟨#[111]⟩, .int .i64 0, .string ⟨#[]⟩, .int .i64 0, .string ⟨#[]⟩, .int .i64 0, .string ⟨#[]⟩, .int .i64 0, .int .i64 1, .string ⟨#[]⟩, .int .i64 0, .string ⟨#[]⟩, .int .i64 0, .string ⟨#[111]⟩, .string ⟨#[]⟩, .int .i64 3, .string ⟨#[98]⟩, .int .i64 0, .int .i64 0, .string ⟨#[]⟩, .int .i64 2, .string ⟨#[]⟩, .int .i64 1, .string ⟨#[]⟩, .int .i64 0, .string ⟨#[]⟩, .int .i64 0, .int .i64 1, .string ⟨#[]⟩, .int .i64 0, .string ⟨#[]⟩, .int .i64 0] := by rw [hZ, ← hsX]; exact Blk.new _ _ _
 have hzw := HB.out.size
 have hpw : w.heap.size ≤ w5.heap.size := hs0
 have HBZ := Lib.hid ((HB.out.trans (hFX.below hzw (fun k hk hn => by omega))).trans (hbZX.mono (by omega)))
 have hzX := hbZX.size
 have hlX := ga.lt
 have HRA := Lib.hid (show RowR repActT (· < Z.heap.size) Z (some ⟨w8.heap.size, 0, none⟩) 2 [wkA, wkC] from row_two (cs := [.string ⟨#[115]⟩, .string ⟨#[]⟩, .int .i64 3, .string ⟨#[97]⟩, .int .i64 0, .int .i64 0, .string ⟨#[111]⟩, .int .i64 0, .string ⟨#[]⟩, .int .i64 0, .string ⟨#[]⟩, .int .i64 0, .string ⟨#[]⟩, .int .i64 0, .int .i64 1, .string ⟨#[]⟩, .int .i64 0, .string ⟨#[]⟩, .int .i64 0]) (ds := [.string ⟨#[111]⟩, .string ⟨#[]⟩, .int .i64 3, .string ⟨#[98]⟩, .int .i64 0, .int .i64 0, .string ⟨#[]⟩, .int .i64 2, .string ⟨#[]⟩, .int .i64 1, .string ⟨#[]⟩, .int .i64 0, .string ⟨#[]⟩, .int .i64 0, .int .i64 1, .string ⟨#[]⟩, .int .i64 0, .string ⟨#[]⟩, .int .i64 0]) ga hlX rfl rfl)
 have hpz := KpX.lt
 have HRC := Lib.hid (show RowR (repCondT 1) (· < Z.heap.size) Z Ac 1 [oneCond] from ((HRD.out.fr hFX (fun k hk hn => by omega)).new_ hbZX).weaken (fun k hk => by omega))
 have Kp := Lib.hid (KpX.new_ hbZX)
 have Kv := Lib.hid (KvX.new_ hbZX)
 have ps8 : w5.heap.size < Z.heap.size := by omega
 have HBZ0 := Lib.hid (show w.heap.size ≤ Z.heap.size by omega)
 clear hX hFX hZ hbZX KpX KvX ga HB
 have HB := Lib.hid HBZ.out
 clear HBZ
 clear v0 v1 v2 vz p0 pf0 p1 pf1 p2 pf2 pz HRD
 have v0 : Z.cell? ⟨w4.heap.size, 0, none⟩ = some (.int .i64 2) := (Kv.out.cell 0).trans rfl
 have v1 : Z.cell? ⟨w4.heap.size, 1, none⟩ = some (.string ⟨#[]⟩) := (Kv.out.cell 1).trans rfl
 have v2 : Z.cell? ⟨w4.heap.size, 2, none⟩ = some (.int .i64 5) := (Kv.out.cell 2).trans rfl
 have vz := Kv.out.lt
 have p0 : Z.cell? ⟨w5.heap.size, 0, none⟩ = some (.string ⟨#[97]⟩) := (Kp.out.cell 0).trans rfl
 have p1 : Z.cell? ⟨w5.heap.size, 1, none⟩ = some (.slice Ac 1 1) := (Kp.out.cell 1).trans rfl
 have p2 : Z.cell? ⟨w5.heap.size, 2, none⟩ = some (.slice (some ⟨w8.heap.size, 0, none⟩) 2 2) := (Kp.out.cell 2).trans rfl
 have pz := Kp.out.lt
 with_reducible refine (gt_new 20 Z (by decide) (by decide)).mono ?_
 rintro e w21 ⟨T, rfl, hroom, hgt, hb⟩
 have hbs := Below.trans (show Below Z.heap.size Z _ from (by (repeat (first | exact Below.refl _ _ | (refine Below.drew ?_) | (refine Below.alloc ?_ (by first | omega | (simp; done) | (simp; omega)) _) | (refine Below.setCell ?_ (by first | omega | (simp; done) | (simp; omega)) _))))) (hb.mono (by simp <;> omega))
 have Kv := Lib.hid (Kv.out.new_ hbs)
 have Kp := Lib.hid (Kp.out.new_ hbs)
 have HRC := Lib.hid (HRC.out.new_ hbs)
 have HRA := Lib.hid (HRA.out.new_ hbs)
 have HB := Lib.hid (HB.out.trans (hbs.mono HB.out.size))
 have hsz21 := hbs.size
 clear v0 v1 v2 vz p0 p1 p2 pz hb hbs
 have v0 : w21.cell? ⟨w4.heap.size, 0, none⟩ = some (.int .i64 2) := (Kv.out.cell 0).trans rfl
 have v1 : w21.cell? ⟨w4.heap.size, 1, none⟩ = some (.string ⟨#[]⟩) := (Kv.out.cell 1).trans rfl
 have v2 : w21.cell? ⟨w4.heap.size, 2, none⟩ = some (.int .i64 5) := (Kv.out.cell 2).trans rfl
 have vz := Kv.out.lt
 have p0 : w21.cell? ⟨w5.heap.size, 0, none⟩ = some (.string ⟨#[97]⟩) := (Kp.out.cell 0).trans rfl
 have p1 : w21.cell? ⟨w5.heap.size, 1, none⟩ = some (.slice Ac 1 1) := (Kp.out.cell 1).trans rfl
 have p2 : w21.cell? ⟨w5.heap.size, 2, none⟩ = some (.slice (some ⟨w8.heap.size, 0, none⟩) 2 2) := (Kp.out.cell 2).trans rfl
 have pz := Kp.out.lt
 have HT := Lib.hid hgt
 have HROOM := Lib.hid hroom
 clear hgt hroom
 go_upto_region 7 with fail
 have HDO := Lib.hid (show ∀ (D : Nat → Prop) (Y : World) (Al : Option Addr), GT D Y T [] → RowR (repCondT 1) D Y Ac 1 [oneCond] → RowR repActT D Y (some ⟨w8.heap.size, 0, none⟩) 2 [wkA, wkC] → RowR repBindT D Y Al 1 [wkL] →
  Calls Tryz.prog 25 #[.agg #[.string ⟨#[97]⟩, .slice Ac 1 1, .slice (some ⟨w8.heap.size, 0, none⟩) 2 2], .slice Al 1 1, .pointer (some ⟨T.b, 0, none⟩)] Y (WkTo D Y) from fun D Y Al g1 g2 g3 g4 => by
  have := do_is (D := D) 1 wkP [wkL] Ac (some ⟨w8.heap.size, 0, none⟩) Al 1 2 1 Y T [] g1 g2 g3 g4 (by decide) (by decide) (by decide)
  rw [HROOM.out, wk_do] at this
  exact this.mono (fun _ _ h => wkTo_of h))
 refine wp_region_E (fun w9 => Below w21.heap.size w21 w9) [(0, 1), (4, 0), (1, 2), (2, 0), (3, 2), (5, 2), (6, 0), (7, 0), (8, 0), (9, 0), (10, 0), (11, 0), (12, 0)] (by kernel_rfl) (by kernel_rfl) (fun KK hKK => ?_)
 simp only [beside, List.filterMap_cons, List.filterMap_nil, List.getElem?_toArray, List.getElem?_cons_zero, List.getElem?_cons_succ, Option.map_some]
 repeat (first | (refine wpX_w ?_ (Or.inl ⟨by rfl, fun w9 => ?_⟩) ?_; rotate_left 1; go_simp; with_reducible rfl; go_frame) | (refine wpX_l ?_ ((Below.refl _ _).drew) (Or.inl ⟨by rfl, fun w9 hw9 => ?_⟩) ?_; rotate_left 1; have q0 := (hw9.cell (p := ⟨w5.heap.size, 0, none⟩) pz).trans p0; have q1 := (hw9.cell (p := ⟨w5.heap.size, 1, none⟩) pz).trans p1; have q2 := (hw9.cell (p := ⟨w5.heap.size, 2, none⟩) pz).trans p2; go_simp; with_reducible rfl; go_frame) | (refine wpX_w undef (Or.inr ⟨by rfl, rfl⟩) ?_; go_frame) | (refine wpX_l undef ((Below.refl _ _).drew) (Or.inr ⟨by rfl, rfl⟩) ?_; go_frame))
 refine wpX_es (fun K9 hK9 => ?_)
 go_simp
 refine (wI9_is _ _ _).mono ?_
 rintro e w22 ⟨rfl, hb22⟩
 have HB22 := Lib.hid ((Below.refl w21.heap.size w21).drew.trans (hb22.mono (by simp)))
 clear hb22
 refine hK9 _ _ HB22.out ?_
 clear hK9 K9
 repeat (first | (refine wpX_w ?_ (Or.inl ⟨by rfl, fun w9 => ?_⟩) ?_; rotate_left 1; go_simp; with_reducible rfl; go_frame) | (refine wpX_l ?_ (HB22.out) (Or.inl ⟨by rfl, fun w9 hw9 => ?_⟩) ?_; rotate_left 1; have q0 := (hw9.cell (p := ⟨w5.heap.size, 0, none⟩) pz).trans p0; have q1 := (hw9.cell (p := ⟨w5.heap.size, 1, none⟩) pz).trans p1; have q2 := (hw9.cell (p := ⟨w5.heap.size, 2, none⟩) pz).trans p2; go_simp; with_reducible rfl; go_frame) | (refine wpX_w undef (Or.inr ⟨by rfl, rfl⟩) ?_; go_frame) | (refine wpX_l undef (HB22.out) (Or.inr ⟨by rfl, rfl⟩) ?_; go_frame))
 refine wpX_es (fun K9 hK9 => ?_)
 go_simp
 have HB23 := Lib.hid (show Below w21.heap.size w21 (w22.alloc (.cells #[.string ⟨#[115]⟩, .int .i64 1, .string ⟨#[83]⟩, .int .i64 1] 36)) from HB22.out.alloc HB22.out.size _)
 refine hK9 _ _ HB23.out ?_
 clear hK9 K9
 refine wpX_e (by kernel_rfl) (fun K9 hK9 => ?_)
 go_simp
 have HPL := Lib.hid (HT.out.plus HB23.out)
 have hb22 : Below w22.heap.size w22 (w22.alloc (.cells #[.string ⟨#[115]⟩, .int .i64 1, .string ⟨#[83]⟩, .int .i64 1] 36)) := (Below.refl _ _).alloc (Nat.le_refl _) _
 refine (HDO.out (Plus (· < Z.heap.size) w21 (w22.alloc (.cells #[.string ⟨#[115]⟩, .int .i64 1, .string ⟨#[83]⟩, .int .i64 1] 36))) (w22.alloc (.cells #[.string ⟨#[115]⟩, .int .i64 1, .string ⟨#[83]⟩, .int .i64 1] 36)) (some ⟨w22.heap.size, 0, none⟩) HPL.out ((HRC.out.new_ HB23.out).weaken (fun k hk => .inl hk)) ((HRA.out.new_ HB23.out).weaken (fun k hk => .inl hk)) (row_one (cs := [.string ⟨#[115]⟩, .int .i64 1, .string ⟨#[83]⟩, .int .i64 1]) (Blk.new _ _ _) (.inr ⟨HB22.out.size, by simp⟩) rfl)).mono ?_
 rintro e w24 ⟨g, c, g', c', rfl, hgl, ⟨hc1, hc2, hc3, hc4⟩, ⟨g6, g7, g8⟩, ⟨g16, g17, g18⟩, hF⟩
 have HB24 := Lib.hid (show Below w.heap.size w w24 from (HB.out.trans (HB23.out.mono HB.out.size)).trans (hF.below (by have := HB23.out.size; have := HB.out.size; omega) (fun k hk hn => hn (.inl (by have := HBZ0.out; omega)))))
 clear hF hb22
 refine hK9 _ _ ?_
 clear hK9 K9
 repeat (first | (refine wpX_w ?_ (Or.inl ⟨by rfl, fun w9 => ?_⟩) ?_; rotate_left 1; go_simp; with_reducible rfl; go_frame) | (refine wpX_l ?_ (HB23.out) (Or.inl ⟨by rfl, fun w9 hw9 => ?_⟩) ?_; rotate_left 1; have q0 := (hw9.cell (p := ⟨w5.heap.size, 0, none⟩) pz).trans p0; have q1 := (hw9.cell (p := ⟨w5.heap.size, 1, none⟩) pz).trans p1; have q2 := (hw9.cell (p := ⟨w5.heap.size, 2, none⟩) pz).trans p2; go_simp; with_reducible rfl; go_frame) | (refine wpX_w undef (Or.inr ⟨by rfl, rfl⟩) ?_; go_frame) | (refine wpX_l undef (HB23.out) (Or.inr ⟨by rfl, rfl⟩) ?_; go_frame))
 refine wpX_nil ?_
 simp only [OnlyN_normal]
 refine hKK _ _ ?_
 clear hKK KK
 go_upto_region 8 with fail
 refine wp_region_E (fun w9 => Below w24.heap.size w24 w9) [(0, 0), (1, 0), (2, 0), (3, 0), (4, 0), (5, 0), (6, 0), (7, 0), (8, 0), (9, 0), (10, 0), (11, 0), (12, 0), (13, 0), (14, 0), (15, 0), (16, 1), (17, 2), (18, 0), (19, 0), (20, 0), (21, 0), (22, 0), (23, 0), (24, 1), (25, 0), (26, 0), (27, 0), (28, 1), (29, 0), (30, 0), (31, 0)] (by kernel_rfl) (by kernel_rfl) (fun KK hKK => ?_)
 simp only [beside, List.filterMap_cons, List.filterMap_nil, List.getElem?_toArray, List.getElem?_cons_zero, List.getElem?_cons_succ, Option.map_some]
 repeat (first | (refine wpX_w ?_ (Or.inl ⟨by rfl, fun w9 => ?_⟩) ?_; rotate_left 1; go_simp; with_reducible rfl; go_frame) | (refine wpX_l ?_ ((Below.refl _ _).drew) (Or.inl ⟨by rfl, fun w9 hw9 => ?_⟩) ?_; rotate_left 1; have q6 := (hw9.cell (p := ⟨g, 6, none⟩) hgl).trans g6; have q7 := (hw9.cell (p := ⟨g, 7, none⟩) hgl).trans g7; have q8 := (hw9.cell (p := ⟨g, 8, none⟩) hgl).trans g8; have q16 := (hw9.cell (p := ⟨g, 16, none⟩) hgl).trans g16; have q17 := (hw9.cell (p := ⟨g, 17, none⟩) hgl).trans g17; have q18 := (hw9.cell (p := ⟨g, 18, none⟩) hgl).trans g18; go_simp; with_reducible rfl; go_frame) | (refine wpX_w undef (Or.inr ⟨by rfl, rfl⟩) ?_; go_frame) | (refine wpX_l undef ((Below.refl _ _).drew) (Or.inr ⟨by rfl, rfl⟩) ?_; go_frame))
 refine wpX_es (fun K9 hK9 => ?_)
 go_simp
 refine (wI9_is _ _ _).mono ?_
 rintro e w25 ⟨rfl, hb25⟩
 have HB25 := Lib.hid ((Below.refl w24.heap.size w24).drew.trans (hb25.mono (by simp)))
 clear hb25
 refine hK9 _ _ HB25.out ?_
 clear hK9 K9
 repeat (first | (refine wpX_w ?_ (Or.inl ⟨by rfl, fun w9 => ?_⟩) ?_; rotate_left 1; go_simp; with_reducible rfl; go_frame) | (refine wpX_l ?_ (HB25.out) (Or.inl ⟨by rfl, fun w9 hw9 => ?_⟩) ?_; rotate_left 1; have q6 := (hw9.cell (p := ⟨g, 6, none⟩) hgl).trans g6; have q7 := (hw9.cell (p := ⟨g, 7, none⟩) hgl).trans g7; have q8 := (hw9.cell (p := ⟨g, 8, none⟩) hgl).trans g8; have q16 := (hw9.cell (p := ⟨g, 16, none⟩) hgl).trans g16; have q17 := (hw9.cell (p := ⟨g, 17, none⟩) hgl).trans g17; have q18 := (hw9.cell (p := ⟨g, 18, none⟩) hgl).trans g18; go_simp; with_reducible rfl; go_frame) | (refine wpX_w undef (Or.inr ⟨by rfl, rfl⟩) ?_; go_frame) | (refine wpX_l undef (HB25.out) (Or.inr ⟨by rfl, rfl⟩) ?_; go_frame))
 refine wpX_nil ?_
 simp only [OnlyN_normal]
 refine hKK _ _ ?_
 clear hKK KK
 go_wp2_with fail
 go_ret
 exact ⟨rfl, HB24.out.trans (HB25.out.mono HB24.out.size)⟩
end Go.Proofs.YtpndmjabjjbefaaGreat
namespace Go.Proofs.YtpndmjabjjbefaaGreat
open Go.RowKit Go.Shelf
theorem sym_of {a : Sym} {k : Int} (h : a.kind = k) : ∃ x y, a = ⟨k, x, y⟩ := by
 obtain ⟨k', x, y⟩ := a
 simp only at h
 subst h
 exact ⟨x, y, rfl⟩
def onlyV (s : Sym) (ok : Bool) : Sym × Bool := if ok = true then (s, true) else (zS, false)
set_option maxHeartbeats 1000000 in
theorem only_is (s : Sym) (ok : Bool) (w : World) : Calls Tryz.prog 40 #[.agg #[.int .i64 s.kind, .string s.text, .int .i64 s.n], .bool ok] w (SymTo w (onlyV s ok)) := by
 cases ok
 · skip
   go_enter Tryz.func40, Tryz.ntmps40
   go_upto_region 1 with fail
   obtain ⟨w1, hw1⟩ : ∃ w1, w1 = ((w.alloc (.cells #[.int .i64 s.kind, .string s.text, .int .i64 s.n] 23)).alloc (.cells #[.int .i64 0, .string ⟨#[]⟩, .int .i64 0] 23)) := ⟨_, rfl⟩
   rw [← hw1]
   have HB := Lib.hid (show Below w.heap.size w w1 by rw [hw1]; exact (by repeat (first | exact Below.refl _ _ | (refine Below.drew ?_) | (refine Below.alloc ?_ (by first | omega | (simp; done) | (simp; omega)) _) | (refine Below.setCell ?_ (by first | omega | (simp; done) | (simp; omega)) _))))
   have Ks := Lib.hid (show Blk w1 (w.heap.size) 23 #[.int .i64 s.kind, .string s.text, .int .i64 s.n] by rw [hw1]; exact ((Blk.new w 23 #[.int .i64 s.kind, .string s.text, .int .i64 s.n]).alloc (.cells #[.int .i64 0, .string ⟨#[]⟩, .int .i64 0] 23)))
   have Kr := Lib.hid (show Blk w1 (w.heap.size + 1) 23 #[.int .i64 0, .string ⟨#[]⟩, .int .i64 0] by rw [hw1]; have hh := (Blk.new (w.alloc (.cells #[.int .i64 s.kind, .string s.text, .int .i64 s.n] 23)) 23 #[.int .i64 0, .string ⟨#[]⟩, .int .i64 0]); simp only [World.size_alloc] at hh; exact hh)
   clear hw1
   have s0 : w1.cell? ⟨w.heap.size, 0, none⟩ = some (.int .i64 s.kind) := (Ks.out.cell 0).trans rfl
   have s1 : w1.cell? ⟨w.heap.size, 1, none⟩ = some (.string s.text) := (Ks.out.cell 1).trans rfl
   have s2 : w1.cell? ⟨w.heap.size, 2, none⟩ = some (.int .i64 s.n) := (Ks.out.cell 2).trans rfl
   have sz := Ks.out.lt
   have r0 : w1.cell? ⟨w.heap.size + 1, 0, none⟩ = some (.int .i64 0) := (Kr.out.cell 0).trans rfl
   have rf0 := Kr.out.frozen 0
   have r1 : w1.cell? ⟨w.heap.size + 1, 1, none⟩ = some (.string ⟨#[]⟩) := (Kr.out.cell 1).trans rfl
   have rf1 := Kr.out.frozen 1
   have r2 : w1.cell? ⟨w.heap.size + 1, 2, none⟩ = some (.int .i64 0) := (Kr.out.cell 2).trans rfl
   have rf2 := Kr.out.frozen 2
   have rz := Kr.out.lt
   go_wp2_with fail
   unfold SymTo
   exact bodyPost_ret (v := .tuple #[.agg #[.int .i64 0, .string ⟨#[]⟩, .int .i64 0], .bool false]) (by simp [results, Tryz.results40, go_sem, *]) rfl ⟨rfl, by (repeat (first | exact Below.refl _ _ | exact HB.out | (refine Below.drew ?_) | (refine Below.alloc ?_ (by first | omega | (simp; done) | (simp; omega)) _) | (refine Below.setCell ?_ (by first | omega | (simp; done) | (simp; omega)) _)))⟩
 · skip
   go_enter Tryz.func40, Tryz.ntmps40
   go_upto_region 1 with fail
   obtain ⟨w1, hw1⟩ : ∃ w1, w1 = ((w.alloc (.cells #[.int .i64 s.kind, .string s.text, .int .i64 s.n] 23)).alloc (.cells #[.int .i64 0, .string ⟨#[]⟩, .int .i64 0] 23)) := ⟨_, rfl⟩
   rw [← hw1]
   have HB := Lib.hid (show Below w.heap.size w w1 by rw [hw1]; exact (by repeat (first | exact Below.refl _ _ | (refine Below.drew ?_) | (refine Below.alloc ?_ (by first | omega | (simp; done) | (simp; omega)) _) | (refine Below.setCell ?_ (by first | omega | (simp; done) | (simp; omega)) _))))
   have Ks := Lib.hid (show Blk w1 (w.heap.size) 23 #[.int .i64 s.kind, .string s.text, .int .i64 s.n] by rw [hw1]; exact ((Blk.new w 23 #[.int .i64 s.kind, .string s.text, .int .i64 s.n]).alloc (.cells #[.int .i64 0, .string ⟨#[]⟩, .int .i64 0] 23)))
   have Kr := Lib.hid (show Blk w1 (w.heap.size + 1) 23 #[.int .i64 0, .string ⟨#[]⟩, .int .i64 0] by rw [hw1]; have hh := (Blk.new (w.alloc (.cells #[.int .i64 s.kind, .string s.text, .int .i64 s.n] 23)) 23 #[.int .i64 0, .string ⟨#[]⟩, .int .i64 0]); simp only [World.size_alloc] at hh; exact hh)
   clear hw1
   have s0 : w1.cell? ⟨w.heap.size, 0, none⟩ = some (.int .i64 s.kind) := (Ks.out.cell 0).trans rfl
   have s1 : w1.cell? ⟨w.heap.size, 1, none⟩ = some (.string s.text) := (Ks.out.cell 1).trans rfl
   have s2 : w1.cell? ⟨w.heap.size, 2, none⟩ = some (.int .i64 s.n) := (Ks.out.cell 2).trans rfl
   have sz := Ks.out.lt
   have r0 : w1.cell? ⟨w.heap.size + 1, 0, none⟩ = some (.int .i64 0) := (Kr.out.cell 0).trans rfl
   have rf0 := Kr.out.frozen 0
   have r1 : w1.cell? ⟨w.heap.size + 1, 1, none⟩ = some (.string ⟨#[]⟩) := (Kr.out.cell 1).trans rfl
   have rf1 := Kr.out.frozen 1
   have r2 : w1.cell? ⟨w.heap.size + 1, 2, none⟩ = some (.int .i64 0) := (Kr.out.cell 2).trans rfl
   have rf2 := Kr.out.frozen 2
   have rz := Kr.out.lt
   go_wp2_with fail
   unfold SymTo
   exact bodyPost_ret (v := .tuple #[.agg #[.int .i64 s.kind, .string s.text, .int .i64 s.n], .bool true]) (by simp [results, Tryz.results40, go_sem, *]) rfl ⟨rfl, by (repeat (first | exact Below.refl _ _ | exact HB.out | (refine Below.drew ?_) | (refine Below.alloc ?_ (by first | omega | (simp; done) | (simp; omega)) _) | (refine Below.setCell ?_ (by first | omega | (simp; done) | (simp; omega)) _)))⟩
def bigB (n : Int) : Bool := decide (2147483647 < n) || decide (n < -2147483647)
set_option maxHeartbeats 1000000 in
theorem big_is (n : Int) (w : World) : Calls Tryz.prog 42 #[.int .i64 n] w fun e w' => e = .returned (.bool (bigB n)) ∧ w = w' := by
 have HV := Lib.hid (show bigB n = (decide (2147483647 < n) || decide (n < -2147483647)) from rfl)
 go_enter Tryz.func42, Tryz.ntmps42
 go_wp2_with fail
 all_goals
  go_ret
  refine ⟨?_, rfl⟩
  rw [HV.out]
  refine ret_bool ?_
  simp_all
theorem onlyV_num (n : Int) : onlyV ⟨2, ⟨#[]⟩, n⟩ (!bigB n) = numR n := by
 unfold onlyV numR bigB
 by_cases h1 : n < -2147483647
 · simp [h1]
 · by_cases h2 : 2147483647 < n
   · simp [h2]
   · simp [h1, h2]
set_option maxRecDepth 100000 in
set_option maxHeartbeats 8000000 in
theorem rvalue_is {D : Nat → Prop} {A : Option Addr} {c : Nat} (t : TermT) (l : List BindT) (w : World) (h : RowR repBindT D w A c l) :
 Calls Tryz.prog 12 #[.agg #[.int .i64 t.op, .string t.a.var, .int .i64 t.a.sym.kind, .string t.a.sym.text, .int .i64 t.a.sym.n, .string t.b.var, .int .i64 t.b.sym.kind, .string t.b.sym.text, .int .i64 t.b.sym.n], .slice A l.length c] w (SymTo w (valueV t l)) := by
 have H0 := Lib.hid h
 clear h
 obtain ⟨⟨a, oa⟩, ha⟩ : ∃ r, r = atomV t.a l := ⟨_, rfl⟩
 obtain ⟨⟨b, ob⟩, hb0⟩ : ∃ r, r = atomV t.b l := ⟨_, rfl⟩
 obtain ⟨R, hR⟩ : ∃ R, R = valueV t l := ⟨_, rfl⟩
 rw [← hR]
 unfold valueV at hR
 rw [← ha, ← hb0] at hR
 dsimp only at hR
 have HV := Lib.hid hR
 have HA := Lib.hid ha
 have HBB := Lib.hid hb0
 clear ha hb0 hR
 go_enter Tryz.func12, Tryz.ntmps12
 go_upto_region 1 with fail
 obtain ⟨w1, hw1⟩ : ∃ w1, w1 = ((w.alloc (.cells #[.int .i64 t.op, .string t.a.var, .int .i64 t.a.sym.kind, .string t.a.sym.text, .int .i64 t.a.sym.n, .string t.b.var, .int .i64 t.b.sym.kind, .string t.b.sym.text, .int .i64 t.b.sym.n] 27)).alloc (.cells #[.int .i64 0, .string ⟨#[]⟩, .int .i64 0] 23)) := ⟨_, rfl⟩
 rw [← hw1]
 have HB := Lib.hid (show Below w.heap.size w w1 by rw [hw1]; exact (by repeat (first | exact Below.refl _ _ | (refine Below.drew ?_) | (refine Below.alloc ?_ (by first | omega | (simp; done) | (simp; omega)) _) | (refine Below.setCell ?_ (by first | omega | (simp; done) | (simp; omega)) _))))
 have Kt := Lib.hid (show Blk w1 (w.heap.size) 27 #[.int .i64 t.op, .string t.a.var, .int .i64 t.a.sym.kind, .string t.a.sym.text, .int .i64 t.a.sym.n, .string t.b.var, .int .i64 t.b.sym.kind, .string t.b.sym.text, .int .i64 t.b.sym.n] by rw [hw1]; exact ((Blk.new w 27 #[.int .i64 t.op, .string t.a.var, .int .i64 t.a.sym.kind, .string t.a.sym.text, .int .i64 t.a.sym.n, .string t.b.var, .int .i64 t.b.sym.kind, .string t.b.sym.text, .int .i64 t.b.sym.n]).alloc (.cells #[.int .i64 0, .string ⟨#[]⟩, .int .i64 0] 23)))
 have Kr := Lib.hid (show Blk w1 (w.heap.size + 1) 23 #[.int .i64 0, .string ⟨#[]⟩, .int .i64 0] by rw [hw1]; have hh := (Blk.new (w.alloc (.cells #[.int .i64 t.op, .string t.a.var, .int .i64 t.a.sym.kind, .string t.a.sym.text, .int .i64 t.a.sym.n, .string t.b.var, .int .i64 t.b.sym.kind, .string t.b.sym.text, .int .i64 t.b.sym.n] 27)) 23 #[.int .i64 0, .string ⟨#[]⟩, .int .i64 0]); simp only [World.size_alloc] at hh; exact hh)
 clear hw1
 have t0 : w1.cell? ⟨w.heap.size, 0, none⟩ = some (.int .i64 t.op) := (Kt.out.cell 0).trans rfl
 have t1 : w1.cell? ⟨w.heap.size, 1, none⟩ = some (.string t.a.var) := (Kt.out.cell 1).trans rfl
 have t2 : w1.cell? ⟨w.heap.size, 2, none⟩ = some (.int .i64 t.a.sym.kind) := (Kt.out.cell 2).trans rfl
 have t3 : w1.cell? ⟨w.heap.size, 3, none⟩ = some (.string t.a.sym.text) := (Kt.out.cell 3).trans rfl
 have t4 : w1.cell? ⟨w.heap.size, 4, none⟩ = some (.int .i64 t.a.sym.n) := (Kt.out.cell 4).trans rfl
 have t5 : w1.cell? ⟨w.heap.size, 5, none⟩ = some (.string t.b.var) := (Kt.out.cell 5).trans rfl
 have t6 : w1.cell? ⟨w.heap.size, 6, none⟩ = some (.int .i64 t.b.sym.kind) := (Kt.out.cell 6).trans rfl
 have t7 : w1.cell? ⟨w.heap.size, 7, none⟩ = some (.string t.b.sym.text) := (Kt.out.cell 7).trans rfl
 have t8 : w1.cell? ⟨w.heap.size, 8, none⟩ = some (.int .i64 t.b.sym.n) := (Kt.out.cell 8).trans rfl
 have tz := Kt.out.lt
 have r0 : w1.cell? ⟨w.heap.size + 1, 0, none⟩ = some (.int .i64 0) := (Kr.out.cell 0).trans rfl
 have rf0 := Kr.out.frozen 0
 have r1 : w1.cell? ⟨w.heap.size + 1, 1, none⟩ = some (.string ⟨#[]⟩) := (Kr.out.cell 1).trans rfl
 have rf1 := Kr.out.frozen 1
 have r2 : w1.cell? ⟨w.heap.size + 1, 2, none⟩ = some (.int .i64 0) := (Kr.out.cell 2).trans rfl
 have rf2 := Kr.out.frozen 2
 have rz := Kr.out.lt
 go_wp2_with fail
 have hc := ratomV_is t.a l w1 (H0.out.new_ HB.out)
 rw [← HA.out] at hc
 with_reducible refine (hc).mono ?_
 rintro e w2 ⟨rfl, hb⟩
 have hbs := Below.trans (show Below w1.heap.size w1 _ from (by (repeat (first | exact Below.refl _ _ | (refine Below.drew ?_) | (refine Below.alloc ?_ (by first | omega | (simp; done) | (simp; omega)) _) | (refine Below.setCell ?_ (by first | omega | (simp; done) | (simp; omega)) _))))) (hb.mono (by simp <;> omega))
 have Kt := Lib.hid (Kt.out.new_ hbs)
 have Kr := Lib.hid (Kr.out.new_ hbs)
 have HB := Lib.hid (HB.out.trans (hbs.mono HB.out.size))
 have hsz2 := hbs.size
 clear t0 t1 t2 t3 t4 t5 t6 t7 t8 tz r0 rf0 r1 rf1 r2 rf2 rz hb hbs
 have t0 : w2.cell? ⟨w.heap.size, 0, none⟩ = some (.int .i64 t.op) := (Kt.out.cell 0).trans rfl
 have t1 : w2.cell? ⟨w.heap.size, 1, none⟩ = some (.string t.a.var) := (Kt.out.cell 1).trans rfl
 have t2 : w2.cell? ⟨w.heap.size, 2, none⟩ = some (.int .i64 t.a.sym.kind) := (Kt.out.cell 2).trans rfl
 have t3 : w2.cell? ⟨w.heap.size, 3, none⟩ = some (.string t.a.sym.text) := (Kt.out.cell 3).trans rfl
 have t4 : w2.cell? ⟨w.heap.size, 4, none⟩ = some (.int .i64 t.a.sym.n) := (Kt.out.cell 4).trans rfl
 have t5 : w2.cell? ⟨w.heap.size, 5, none⟩ = some (.string t.b.var) := (Kt.out.cell 5).trans rfl
 have t6 : w2.cell? ⟨w.heap.size, 6, none⟩ = some (.int .i64 t.b.sym.kind) := (Kt.out.cell 6).trans rfl
 have t7 : w2.cell? ⟨w.heap.size, 7, none⟩ = some (.string t.b.sym.text) := (Kt.out.cell 7).trans rfl
 have t8 : w2.cell? ⟨w.heap.size, 8, none⟩ = some (.int .i64 t.b.sym.n) := (Kt.out.cell 8).trans rfl
 have tz := Kt.out.lt
 have r0 : w2.cell? ⟨w.heap.size + 1, 0, none⟩ = some (.int .i64 0) := (Kr.out.cell 0).trans rfl
 have rf0 := Kr.out.frozen 0
 have r1 : w2.cell? ⟨w.heap.size + 1, 1, none⟩ = some (.string ⟨#[]⟩) := (Kr.out.cell 1).trans rfl
 have rf1 := Kr.out.frozen 1
 have r2 : w2.cell? ⟨w.heap.size + 1, 2, none⟩ = some (.int .i64 0) := (Kr.out.cell 2).trans rfl
 have rf2 := Kr.out.frozen 2
 have rz := Kr.out.lt
 by_cases hop : t.op = 0
 · skip
   have qoa : (t.op == 0) = true := by simp [hop]
   have qob : decide (t.op = 0) = true := by simp [hop]
   have HF := Lib.hid (show R = onlyV a oa by rw [HV.out]; cases oa <;> simp [hop, onlyV])
   clear hop
   go_wp2_with fail
   with_reducible refine (only_is a oa _).mono ?_
   rintro e w3 ⟨rfl, hb⟩
   have hbs := Below.trans (show Below w2.heap.size w2 _ from (by (repeat (first | exact Below.refl _ _ | (refine Below.drew ?_) | (refine Below.alloc ?_ (by first | omega | (simp; done) | (simp; omega)) _) | (refine Below.setCell ?_ (by first | omega | (simp; done) | (simp; omega)) _))))) (hb.mono (by simp <;> omega))
   have Kt := Lib.hid (Kt.out.new_ hbs)
   have Kr := Lib.hid (Kr.out.new_ hbs)
   have Ka := Lib.hid (show Blk w3 (w2.heap.size) 23 #[.int .i64 a.kind, .string a.text, .int .i64 a.n] from (Blk.new _ _ _).new_ hb)
   have HB := Lib.hid (HB.out.trans (hbs.mono HB.out.size))
   have hsz3 := hbs.size
   clear t0 t1 t2 t3 t4 t5 t6 t7 t8 tz r0 rf0 r1 rf1 r2 rf2 rz hb hbs
   have t0 : w3.cell? ⟨w.heap.size, 0, none⟩ = some (.int .i64 t.op) := (Kt.out.cell 0).trans rfl
   have t1 : w3.cell? ⟨w.heap.size, 1, none⟩ = some (.string t.a.var) := (Kt.out.cell 1).trans rfl
   have t2 : w3.cell? ⟨w.heap.size, 2, none⟩ = some (.int .i64 t.a.sym.kind) := (Kt.out.cell 2).trans rfl
   have t3 : w3.cell? ⟨w.heap.size, 3, none⟩ = some (.string t.a.sym.text) := (Kt.out.cell 3).trans rfl
   have t4 : w3.cell? ⟨w.heap.size, 4, none⟩ = some (.int .i64 t.a.sym.n) := (Kt.out.cell 4).trans rfl
   have t5 : w3.cell? ⟨w.heap.size, 5, none⟩ = some (.string t.b.var) := (Kt.out.cell 5).trans rfl
   have t6 : w3.cell? ⟨w.heap.size, 6, none⟩ = some (.int .i64 t.b.sym.kind) := (Kt.out.cell 6).trans rfl
   have t7 : w3.cell? ⟨w.heap.size, 7, none⟩ = some (.string t.b.sym.text) := (Kt.out.cell 7).trans rfl
   have t8 : w3.cell? ⟨w.heap.size, 8, none⟩ = some (.int .i64 t.b.sym.n) := (Kt.out.cell 8).trans rfl
   have tz := Kt.out.lt
   have r0 : w3.cell? ⟨w.heap.size + 1, 0, none⟩ = some (.int .i64 0) := (Kr.out.cell 0).trans rfl
   have rf0 := Kr.out.frozen 0
   have r1 : w3.cell? ⟨w.heap.size + 1, 1, none⟩ = some (.string ⟨#[]⟩) := (Kr.out.cell 1).trans rfl
   have rf1 := Kr.out.frozen 1
   have r2 : w3.cell? ⟨w.heap.size + 1, 2, none⟩ = some (.int .i64 0) := (Kr.out.cell 2).trans rfl
   have rf2 := Kr.out.frozen 2
   have rz := Kr.out.lt
   have a0 : w3.cell? ⟨w2.heap.size, 0, none⟩ = some (.int .i64 a.kind) := (Ka.out.cell 0).trans rfl
   have a1 : w3.cell? ⟨w2.heap.size, 1, none⟩ = some (.string a.text) := (Ka.out.cell 1).trans rfl
   have a2 : w3.cell? ⟨w2.heap.size, 2, none⟩ = some (.int .i64 a.n) := (Ka.out.cell 2).trans rfl
   have az := Ka.out.lt
   obtain ⟨⟨ax, ox⟩, hx⟩ : ∃ r, r = onlyV a oa := ⟨_, rfl⟩
   rw [← hx] at HF ⊢
   clear hx
   dsimp only
   go_wp2_with fail
   unfold SymTo
   rw [HF.out]
   exact bodyPost_ret (v := .tuple #[.agg #[.int .i64 ax.kind, .string ax.text, .int .i64 ax.n], .bool ox]) (by simp [results, Tryz.results12, go_sem, *]) rfl ⟨rfl, by (repeat (first | exact Below.refl _ _ | exact HB.out | (refine Below.drew ?_) | (refine Below.alloc ?_ (by first | omega | (simp; done) | (simp; omega)) _) | (refine Below.setCell ?_ (by first | omega | (simp; done) | (simp; omega)) _)))⟩
 · skip
   have qoa : (t.op == 0) = false := by simp [hop]
   have qob : decide (t.op = 0) = false := by simp [hop]
   have hc := fun W (hb : Below w.heap.size w W) => ratomV_is t.b l W (H0.out.new_ hb)
   simp only [← HBB.out] at hc
   have HC := Lib.hid hc
   clear hc
   go_wp2_with fail
   with_reducible refine (HC.out _ (by (repeat (first | exact Below.refl _ _ | exact HB.out | (refine Below.drew ?_) | (refine Below.alloc ?_ (by first | omega | (simp; done) | (simp; omega)) _) | (refine Below.setCell ?_ (by first | omega | (simp; done) | (simp; omega)) _))))).mono ?_
   rintro e w3 ⟨rfl, hb⟩
   have hbs := Below.trans (show Below w2.heap.size w2 _ from (by (repeat (first | exact Below.refl _ _ | (refine Below.drew ?_) | (refine Below.alloc ?_ (by first | omega | (simp; done) | (simp; omega)) _) | (refine Below.setCell ?_ (by first | omega | (simp; done) | (simp; omega)) _))))) (hb.mono (by simp <;> omega))
   have Kt := Lib.hid (Kt.out.new_ hbs)
   have Kr := Lib.hid (Kr.out.new_ hbs)
   have Ka := Lib.hid (show Blk w3 (w2.heap.size) 23 #[.int .i64 a.kind, .string a.text, .int .i64 a.n] from (Blk.new _ _ _).new_ hb)
   have HB := Lib.hid (HB.out.trans (hbs.mono HB.out.size))
   have hsz3 := hbs.size
   clear t0 t1 t2 t3 t4 t5 t6 t7 t8 tz r0 rf0 r1 rf1 r2 rf2 rz hb hbs
   have t0 : w3.cell? ⟨w.heap.size, 0, none⟩ = some (.int .i64 t.op) := (Kt.out.cell 0).trans rfl
   have t1 : w3.cell? ⟨w.heap.size, 1, none⟩ = some (.string t.a.var) := (Kt.out.cell 1).trans rfl
   have t2 : w3.cell? ⟨w.heap.size, 2, none⟩ = some (.int .i64 t.a.sym.kind) := (Kt.out.cell 2).trans rfl
   have t3 : w3.cell? ⟨w.heap.size, 3, none⟩ = some (.string t.a.sym.text) := (Kt.out.cell 3).trans rfl
   have t4 : w3.cell? ⟨w.heap.size, 4, none⟩ = some (.int .i64 t.a.sym.n) := (Kt.out.cell 4).trans rfl
   have t5 : w3.cell? ⟨w.heap.size, 5, none⟩ = some (.string t.b.var) := (Kt.out.cell 5).trans rfl
   have t6 : w3.cell? ⟨w.heap.size, 6, none⟩ = some (.int .i64 t.b.sym.kind) := (Kt.out.cell 6).trans rfl
   have t7 : w3.cell? ⟨w.heap.size, 7, none⟩ = some (.string t.b.sym.text) := (Kt.out.cell 7).trans rfl
   have t8 : w3.cell? ⟨w.heap.size, 8, none⟩ = some (.int .i64 t.b.sym.n) := (Kt.out.cell 8).trans rfl
   have tz := Kt.out.lt
   have r0 : w3.cell? ⟨w.heap.size + 1, 0, none⟩ = some (.int .i64 0) := (Kr.out.cell 0).trans rfl
   have rf0 := Kr.out.frozen 0
   have r1 : w3.cell? ⟨w.heap.size + 1, 1, none⟩ = some (.string ⟨#[]⟩) := (Kr.out.cell 1).trans rfl
   have rf1 := Kr.out.frozen 1
   have r2 : w3.cell? ⟨w.heap.size + 1, 2, none⟩ = some (.int .i64 0) := (Kr.out.cell 2).trans rfl
   have rf2 := Kr.out.frozen 2
   have rz := Kr.out.lt
   have a0 : w3.cell? ⟨w2.heap.size, 0, none⟩ = some (.int .i64 a.kind) := (Ka.out.cell 0).trans rfl
   have a1 : w3.cell? ⟨w2.heap.size, 1, none⟩ = some (.string a.text) := (Ka.out.cell 1).trans rfl
   have a2 : w3.cell? ⟨w2.heap.size, 2, none⟩ = some (.int .i64 a.n) := (Ka.out.cell 2).trans rfl
   have az := Ka.out.lt
   cases oa
   · skip
     have HF := Lib.hid (show R = (zS, false) by rw [HV.out]; simp)
     go_wp2_with fail
     unfold SymTo
     rw [HF.out]
     exact bodyPost_ret (v := .tuple #[.agg #[.int .i64 0, .string ⟨#[]⟩, .int .i64 0], .bool false]) (by simp [results, Tryz.results12, go_sem, *]) rfl ⟨rfl, by (repeat (first | exact Below.refl _ _ | exact HB.out | (refine Below.drew ?_) | (refine Below.alloc ?_ (by first | omega | (simp; done) | (simp; omega)) _) | (refine Below.setCell ?_ (by first | omega | (simp; done) | (simp; omega)) _)))⟩
   · skip
     cases ob
     · skip
       have HF := Lib.hid (show R = (zS, false) by rw [HV.out]; simp [hop])
       go_wp2_with fail
       unfold SymTo
       rw [HF.out]
       exact bodyPost_ret (v := .tuple #[.agg #[.int .i64 0, .string ⟨#[]⟩, .int .i64 0], .bool false]) (by simp [results, Tryz.results12, go_sem, *]) rfl ⟨rfl, by (repeat (first | exact Below.refl _ _ | exact HB.out | (refine Below.drew ?_) | (refine Below.alloc ?_ (by first | omega | (simp; done) | (simp; omega)) _) | (refine Below.setCell ?_ (by first | omega | (simp; done) | (simp; omega)) _)))⟩
     · skip
       by_cases hka : a.kind = 2
       · skip
         obtain ⟨ta, na, rfl⟩ : ∃ x y, a = ⟨2, x, y⟩ := sym_of hka
         clear hka
         by_cases hkb : b.kind = 2
         · skip
           obtain ⟨tb, nb, rfl⟩ : ∃ x y, b = ⟨2, x, y⟩ := sym_of hkb
           clear hkb
           cases hva : validB ⟨2, ta, na⟩
           · skip
             have hc := fun W => rvalid_is ⟨2, ta, na⟩ W
             simp only [hva] at hc
             have HC := Lib.hid hc
             clear hc
             go_wp2_with fail
             with_reducible refine (HC.out _).mono ?_
             rintro e w4 ⟨rfl, hb⟩
             have hbs := Below.trans (show Below w3.heap.size w3 _ from (by (repeat (first | exact Below.refl _ _ | (refine Below.drew ?_) | (refine Below.alloc ?_ (by first | omega | (simp; done) | (simp; omega)) _) | (refine Below.setCell ?_ (by first | omega | (simp; done) | (simp; omega)) _))))) (hb.mono (by simp <;> omega))
             have Kt := Lib.hid (Kt.out.new_ hbs)
             have Kr := Lib.hid (Kr.out.new_ hbs)
             have Ka := Lib.hid (Ka.out.new_ hbs)
             have Kb := Lib.hid (show Blk w4 (w3.heap.size) 23 #[.int .i64 2, .string tb, .int .i64 nb] from (Blk.new _ _ _).new_ hb)
             have HB := Lib.hid (HB.out.trans (hbs.mono HB.out.size))
             have hsz4 := hbs.size
             clear t0 t1 t2 t3 t4 t5 t6 t7 t8 tz r0 rf0 r1 rf1 r2 rf2 rz a0 a1 a2 az hb hbs
             have t0 : w4.cell? ⟨w.heap.size, 0, none⟩ = some (.int .i64 t.op) := (Kt.out.cell 0).trans rfl
             have t1 : w4.cell? ⟨w.heap.size, 1, none⟩ = some (.string t.a.var) := (Kt.out.cell 1).trans rfl
             have t2 : w4.cell? ⟨w.heap.size, 2, none⟩ = some (.int .i64 t.a.sym.kind) := (Kt.out.cell 2).trans rfl
             have t3 : w4.cell? ⟨w.heap.size, 3, none⟩ = some (.string t.a.sym.text) := (Kt.out.cell 3).trans rfl
             have t4 : w4.cell? ⟨w.heap.size, 4, none⟩ = some (.int .i64 t.a.sym.n) := (Kt.out.cell 4).trans rfl
             have t5 : w4.cell? ⟨w.heap.size, 5, none⟩ = some (.string t.b.var) := (Kt.out.cell 5).trans rfl
             have t6 : w4.cell? ⟨w.heap.size, 6, none⟩ = some (.int .i64 t.b.sym.kind) := (Kt.out.cell 6).trans rfl
             have t7 : w4.cell? ⟨w.heap.size, 7, none⟩ = some (.string t.b.sym.text) := (Kt.out.cell 7).trans rfl
             have t8 : w4.cell? ⟨w.heap.size, 8, none⟩ = some (.int .i64 t.b.sym.n) := (Kt.out.cell 8).trans rfl
             have tz := Kt.out.lt
             have r0 : w4.cell? ⟨w.heap.size + 1, 0, none⟩ = some (.int .i64 0) := (Kr.out.cell 0).trans rfl
             have rf0 := Kr.out.frozen 0
             have r1 : w4.cell? ⟨w.heap.size + 1, 1, none⟩ = some (.string ⟨#[]⟩) := (Kr.out.cell 1).trans rfl
             have rf1 := Kr.out.frozen 1
             have r2 : w4.cell? ⟨w.heap.size + 1, 2, none⟩ = some (.int .i64 0) := (Kr.out.cell 2).trans rfl
             have rf2 := Kr.out.frozen 2
             have rz := Kr.out.lt
             have a0 : w4.cell? ⟨w2.heap.size, 0, none⟩ = some (.int .i64 2) := (Ka.out.cell 0).trans rfl
             have a1 : w4.cell? ⟨w2.heap.size, 1, none⟩ = some (.string ta) := (Ka.out.cell 1).trans rfl
             have a2 : w4.cell? ⟨w2.heap.size, 2, none⟩ = some (.int .i64 na) := (Ka.out.cell 2).trans rfl
             have az := Ka.out.lt
             have b0 : w4.cell? ⟨w3.heap.size, 0, none⟩ = some (.int .i64 2) := (Kb.out.cell 0).trans rfl
             have b1 : w4.cell? ⟨w3.heap.size, 1, none⟩ = some (.string tb) := (Kb.out.cell 1).trans rfl
             have b2 : w4.cell? ⟨w3.heap.size, 2, none⟩ = some (.int .i64 nb) := (Kb.out.cell 2).trans rfl
             have bz := Kb.out.lt
             have HF := Lib.hid (show R = (zS, false) by rw [HV.out]; simp [hop, numB2, hva])
             go_wp2_with fail
             unfold SymTo
             rw [HF.out]
             exact bodyPost_ret (v := .tuple #[.agg #[.int .i64 0, .string ⟨#[]⟩, .int .i64 0], .bool false]) (by simp [results, Tryz.results12, go_sem, *]) rfl ⟨rfl, by (repeat (first | exact Below.refl _ _ | exact HB.out | (refine Below.drew ?_) | (refine Below.alloc ?_ (by first | omega | (simp; done) | (simp; omega)) _) | (refine Below.setCell ?_ (by first | omega | (simp; done) | (simp; omega)) _)))⟩
           · skip
             have hc := fun W => rvalid_is ⟨2, ta, na⟩ W
             simp only [hva] at hc
             have HC := Lib.hid hc
             clear hc
             go_wp2_with fail
             with_reducible refine (HC.out _).mono ?_
             rintro e w4 ⟨rfl, hb⟩
             have hbs := Below.trans (show Below w3.heap.size w3 _ from (by (repeat (first | exact Below.refl _ _ | (refine Below.drew ?_) | (refine Below.alloc ?_ (by first | omega | (simp; done) | (simp; omega)) _) | (refine Below.setCell ?_ (by first | omega | (simp; done) | (simp; omega)) _))))) (hb.mono (by simp <;> omega))
             have Kt := Lib.hid (Kt.out.new_ hbs)
             have Kr := Lib.hid (Kr.out.new_ hbs)
             have Ka := Lib.hid (Ka.out.new_ hbs)
             have Kb := Lib.hid (show Blk w4 (w3.heap.size) 23 #[.int .i64 2, .string tb, .int .i64 nb] from (Blk.new _ _ _).new_ hb)
             have HB := Lib.hid (HB.out.trans (hbs.mono HB.out.size))
             have hsz4 := hbs.size
             clear t0 t1 t2 t3 t4 t5 t6 t7 t8 tz r0 rf0 r1 rf1 r2 rf2 rz a0 a1 a2 az hb hbs
             have t0 : w4.cell? ⟨w.heap.size, 0, none⟩ = some (.int .i64 t.op) := (Kt.out.cell 0).trans rfl
             have t1 : w4.cell? ⟨w.heap.size, 1, none⟩ = some (.string t.a.var) := (Kt.out.cell 1).trans rfl
             have t2 : w4.cell? ⟨w.heap.size, 2, none⟩ = some (.int .i64 t.a.sym.kind) := (Kt.out.cell 2).trans rfl
             have t3 : w4.cell? ⟨w.heap.size, 3, none⟩ = some (.string t.a.sym.text) := (Kt.out.cell 3).trans rfl
             have t4 : w4.cell? ⟨w.heap.size, 4, none⟩ = some (.int .i64 t.a.sym.n) := (Kt.out.cell 4).trans rfl
             have t5 : w4.cell? ⟨w.heap.size, 5, none⟩ = some (.string t.b.var) := (Kt.out.cell 5).trans rfl
             have t6 : w4.cell? ⟨w.heap.size, 6, none⟩ = some (.int .i64 t.b.sym.kind) := (Kt.out.cell 6).trans rfl
             have t7 : w4.cell? ⟨w.heap.size, 7, none⟩ = some (.string t.b.sym.text) := (Kt.out.cell 7).trans rfl
             have t8 : w4.cell? ⟨w.heap.size, 8, none⟩ = some (.int .i64 t.b.sym.n) := (Kt.out.cell 8).trans rfl
             have tz := Kt.out.lt
             have r0 : w4.cell? ⟨w.heap.size + 1, 0, none⟩ = some (.int .i64 0) := (Kr.out.cell 0).trans rfl
             have rf0 := Kr.out.frozen 0
             have r1 : w4.cell? ⟨w.heap.size + 1, 1, none⟩ = some (.string ⟨#[]⟩) := (Kr.out.cell 1).trans rfl
             have rf1 := Kr.out.frozen 1
             have r2 : w4.cell? ⟨w.heap.size + 1, 2, none⟩ = some (.int .i64 0) := (Kr.out.cell 2).trans rfl
             have rf2 := Kr.out.frozen 2
             have rz := Kr.out.lt
             have a0 : w4.cell? ⟨w2.heap.size, 0, none⟩ = some (.int .i64 2) := (Ka.out.cell 0).trans rfl
             have a1 : w4.cell? ⟨w2.heap.size, 1, none⟩ = some (.string ta) := (Ka.out.cell 1).trans rfl
             have a2 : w4.cell? ⟨w2.heap.size, 2, none⟩ = some (.int .i64 na) := (Ka.out.cell 2).trans rfl
             have az := Ka.out.lt
             have b0 : w4.cell? ⟨w3.heap.size, 0, none⟩ = some (.int .i64 2) := (Kb.out.cell 0).trans rfl
             have b1 : w4.cell? ⟨w3.heap.size, 1, none⟩ = some (.string tb) := (Kb.out.cell 1).trans rfl
             have b2 : w4.cell? ⟨w3.heap.size, 2, none⟩ = some (.int .i64 nb) := (Kb.out.cell 2).trans rfl
             have bz := Kb.out.lt
             cases hvb : validB ⟨2, tb, nb⟩
             · skip
               have hc := fun W => rvalid_is ⟨2, tb, nb⟩ W
               simp only [hvb] at hc
               have HC := Lib.hid hc
               clear hc
               go_wp2_with fail
               with_reducible refine (HC.out _).mono ?_
               rintro e w5 ⟨rfl, hb⟩
               have hbs := Below.trans (show Below w4.heap.size w4 _ from (by (repeat (first | exact Below.refl _ _ | (refine Below.drew ?_) | (refine Below.alloc ?_ (by first | omega | (simp; done) | (simp; omega)) _) | (refine Below.setCell ?_ (by first | omega | (simp; done) | (simp; omega)) _))))) (hb.mono (by simp <;> omega))
               have Kt := Lib.hid (Kt.out.new_ hbs)
               have Kr := Lib.hid (Kr.out.new_ hbs)
               have Ka := Lib.hid (Ka.out.new_ hbs)
               have Kb := Lib.hid (Kb.out.new_ hbs)
               have HB := Lib.hid (HB.out.trans (hbs.mono HB.out.size))
               have hsz5 := hbs.size
               clear t0 t1 t2 t3 t4 t5 t6 t7 t8 tz r0 rf0 r1 rf1 r2 rf2 rz a0 a1 a2 az b0 b1 b2 bz hb hbs
               have t0 : w5.cell? ⟨w.heap.size, 0, none⟩ = some (.int .i64 t.op) := (Kt.out.cell 0).trans rfl
               have t1 : w5.cell? ⟨w.heap.size, 1, none⟩ = some (.string t.a.var) := (Kt.out.cell 1).trans rfl
               have t2 : w5.cell? ⟨w.heap.size, 2, none⟩ = some (.int .i64 t.a.sym.kind) := (Kt.out.cell 2).trans rfl
               have t3 : w5.cell? ⟨w.heap.size, 3, none⟩ = some (.string t.a.sym.text) := (Kt.out.cell 3).trans rfl
               have t4 : w5.cell? ⟨w.heap.size, 4, none⟩ = some (.int .i64 t.a.sym.n) := (Kt.out.cell 4).trans rfl
               have t5 : w5.cell? ⟨w.heap.size, 5, none⟩ = some (.string t.b.var) := (Kt.out.cell 5).trans rfl
               have t6 : w5.cell? ⟨w.heap.size, 6, none⟩ = some (.int .i64 t.b.sym.kind) := (Kt.out.cell 6).trans rfl
               have t7 : w5.cell? ⟨w.heap.size, 7, none⟩ = some (.string t.b.sym.text) := (Kt.out.cell 7).trans rfl
               have t8 : w5.cell? ⟨w.heap.size, 8, none⟩ = some (.int .i64 t.b.sym.n) := (Kt.out.cell 8).trans rfl
               have tz := Kt.out.lt
               have r0 : w5.cell? ⟨w.heap.size + 1, 0, none⟩ = some (.int .i64 0) := (Kr.out.cell 0).trans rfl
               have rf0 := Kr.out.frozen 0
               have r1 : w5.cell? ⟨w.heap.size + 1, 1, none⟩ = some (.string ⟨#[]⟩) := (Kr.out.cell 1).trans rfl
               have rf1 := Kr.out.frozen 1
               have r2 : w5.cell? ⟨w.heap.size + 1, 2, none⟩ = some (.int .i64 0) := (Kr.out.cell 2).trans rfl
               have rf2 := Kr.out.frozen 2
               have rz := Kr.out.lt
               have a0 : w5.cell? ⟨w2.heap.size, 0, none⟩ = some (.int .i64 2) := (Ka.out.cell 0).trans rfl
               have a1 : w5.cell? ⟨w2.heap.size, 1, none⟩ = some (.string ta) := (Ka.out.cell 1).trans rfl
               have a2 : w5.cell? ⟨w2.heap.size, 2, none⟩ = some (.int .i64 na) := (Ka.out.cell 2).trans rfl
               have az := Ka.out.lt
               have b0 : w5.cell? ⟨w3.heap.size, 0, none⟩ = some (.int .i64 2) := (Kb.out.cell 0).trans rfl
               have b1 : w5.cell? ⟨w3.heap.size, 1, none⟩ = some (.string tb) := (Kb.out.cell 1).trans rfl
               have b2 : w5.cell? ⟨w3.heap.size, 2, none⟩ = some (.int .i64 nb) := (Kb.out.cell 2).trans rfl
               have bz := Kb.out.lt
               have HF := Lib.hid (show R = (zS, false) by rw [HV.out]; simp [hop, numB2, hvb])
               go_wp2_with fail
               unfold SymTo
               rw [HF.out]
               exact bodyPost_ret (v := .tuple #[.agg #[.int .i64 0, .string ⟨#[]⟩, .int .i64 0], .bool false]) (by simp [results, Tryz.results12, go_sem, *]) rfl ⟨rfl, by (repeat (first | exact Below.refl _ _ | exact HB.out | (refine Below.drew ?_) | (refine Below.alloc ?_ (by first | omega | (simp; done) | (simp; omega)) _) | (refine Below.setCell ?_ (by first | omega | (simp; done) | (simp; omega)) _)))⟩
             · skip
               have hc := fun W => rvalid_is ⟨2, tb, nb⟩ W
               simp only [hvb] at hc
               have HC := Lib.hid hc
               clear hc
               go_wp2_with fail
               with_reducible refine (HC.out _).mono ?_
               rintro e w5 ⟨rfl, hb⟩
               have hbs := Below.trans (show Below w4.heap.size w4 _ from (by (repeat (first | exact Below.refl _ _ | (refine Below.drew ?_) | (refine Below.alloc ?_ (by first | omega | (simp; done) | (simp; omega)) _) | (refine Below.setCell ?_ (by first | omega | (simp; done) | (simp; omega)) _))))) (hb.mono (by simp <;> omega))
               have Kt := Lib.hid (Kt.out.new_ hbs)
               have Kr := Lib.hid (Kr.out.new_ hbs)
               have Ka := Lib.hid (Ka.out.new_ hbs)
               have Kb := Lib.hid (Kb.out.new_ hbs)
               have HB := Lib.hid (HB.out.trans (hbs.mono HB.out.size))
               have hsz5 := hbs.size
               clear t0 t1 t2 t3 t4 t5 t6 t7 t8 tz r0 rf0 r1 rf1 r2 rf2 rz a0 a1 a2 az b0 b1 b2 bz hb hbs
               have t0 : w5.cell? ⟨w.heap.size, 0, none⟩ = some (.int .i64 t.op) := (Kt.out.cell 0).trans rfl
               have t1 : w5.cell? ⟨w.heap.size, 1, none⟩ = some (.string t.a.var) := (Kt.out.cell 1).trans rfl
               have t2 : w5.cell? ⟨w.heap.size, 2, none⟩ = some (.int .i64 t.a.sym.kind) := (Kt.out.cell 2).trans rfl
               have t3 : w5.cell? ⟨w.heap.size, 3, none⟩ = some (.string t.a.sym.text) := (Kt.out.cell 3).trans rfl
               have t4 : w5.cell? ⟨w.heap.size, 4, none⟩ = some (.int .i64 t.a.sym.n) := (Kt.out.cell 4).trans rfl
               have t5 : w5.cell? ⟨w.heap.size, 5, none⟩ = some (.string t.b.var) := (Kt.out.cell 5).trans rfl
               have t6 : w5.cell? ⟨w.heap.size, 6, none⟩ = some (.int .i64 t.b.sym.kind) := (Kt.out.cell 6).trans rfl
               have t7 : w5.cell? ⟨w.heap.size, 7, none⟩ = some (.string t.b.sym.text) := (Kt.out.cell 7).trans rfl
               have t8 : w5.cell? ⟨w.heap.size, 8, none⟩ = some (.int .i64 t.b.sym.n) := (Kt.out.cell 8).trans rfl
               have tz := Kt.out.lt
               have r0 : w5.cell? ⟨w.heap.size + 1, 0, none⟩ = some (.int .i64 0) := (Kr.out.cell 0).trans rfl
               have rf0 := Kr.out.frozen 0
               have r1 : w5.cell? ⟨w.heap.size + 1, 1, none⟩ = some (.string ⟨#[]⟩) := (Kr.out.cell 1).trans rfl
               have rf1 := Kr.out.frozen 1
               have r2 : w5.cell? ⟨w.heap.size + 1, 2, none⟩ = some (.int .i64 0) := (Kr.out.cell 2).trans rfl
               have rf2 := Kr.out.frozen 2
               have rz := Kr.out.lt
               have a0 : w5.cell? ⟨w2.heap.size, 0, none⟩ = some (.int .i64 2) := (Ka.out.cell 0).trans rfl
               have a1 : w5.cell? ⟨w2.heap.size, 1, none⟩ = some (.string ta) := (Ka.out.cell 1).trans rfl
               have a2 : w5.cell? ⟨w2.heap.size, 2, none⟩ = some (.int .i64 na) := (Ka.out.cell 2).trans rfl
               have az := Ka.out.lt
               have b0 : w5.cell? ⟨w3.heap.size, 0, none⟩ = some (.int .i64 2) := (Kb.out.cell 0).trans rfl
               have b1 : w5.cell? ⟨w3.heap.size, 1, none⟩ = some (.string tb) := (Kb.out.cell 1).trans rfl
               have b2 : w5.cell? ⟨w3.heap.size, 2, none⟩ = some (.int .i64 nb) := (Kb.out.cell 2).trans rfl
               have bz := Kb.out.lt
               have hna : numB2 ⟨2, ta, na⟩ = true := by simp [numB2, hva]
               have hnb : numB2 ⟨2, tb, nb⟩ = true := by simp [numB2, hvb]
               obtain ⟨n1, n2⟩ := numB2_le hna
               obtain ⟨n3, n4⟩ := numB2_le hnb
               dsimp only at n1 n2 n3 n4
               obtain ⟨n5, n6⟩ := mul_le62 n1 n2 n3 n4
               have v7 := wrap62 n5 n6
               by_cases h1 : t.op = 1
               · skip
                 have j1a : (t.op == 1) = true := by simp [h1]
                 have j1b : decide (t.op = 1) = true := by simp [h1]
                 have HF := Lib.hid (show R = numR (na + nb) by rw [HV.out]; simp [hna, hnb, h1])
                 clear hop hna hnb h1
                 go_wp2_with fail
                 with_reducible refine (big_is (na + nb) _).mono ?_
                 rintro e w0 ⟨rfl, rfl⟩
                 go_wp2_with fail
                 with_reducible refine (only_is ⟨2, ⟨#[]⟩, na + nb⟩ (!bigB (na + nb)) _).mono ?_
                 rintro e w6 ⟨rfl, hb⟩
                 have hbs := Below.trans (show Below w5.heap.size w5 _ from (by (repeat (first | exact Below.refl _ _ | (refine Below.drew ?_) | (refine Below.alloc ?_ (by first | omega | (simp; done) | (simp; omega)) _) | (refine Below.setCell ?_ (by first | omega | (simp; done) | (simp; omega)) _))))) (hb.mono (by simp <;> omega))
                 have Kt := Lib.hid (Kt.out.new_ hbs)
                 have Kr := Lib.hid (Kr.out.new_ hbs)
                 have Ka := Lib.hid (Ka.out.new_ hbs)
                 have Kb := Lib.hid (Kb.out.new_ hbs)
                 have HB := Lib.hid (HB.out.trans (hbs.mono HB.out.size))
                 have hsz6 := hbs.size
                 clear t0 t1 t2 t3 t4 t5 t6 t7 t8 tz r0 rf0 r1 rf1 r2 rf2 rz a0 a1 a2 az b0 b1 b2 bz hb hbs
                 have t0 : w6.cell? ⟨w.heap.size, 0, none⟩ = some (.int .i64 t.op) := (Kt.out.cell 0).trans rfl
                 have t1 : w6.cell? ⟨w.heap.size, 1, none⟩ = some (.string t.a.var) := (Kt.out.cell 1).trans rfl
                 have t2 : w6.cell? ⟨w.heap.size, 2, none⟩ = some (.int .i64 t.a.sym.kind) := (Kt.out.cell 2).trans rfl
                 have t3 : w6.cell? ⟨w.heap.size, 3, none⟩ = some (.string t.a.sym.text) := (Kt.out.cell 3).trans rfl
                 have t4 : w6.cell? ⟨w.heap.size, 4, none⟩ = some (.int .i64 t.a.sym.n) := (Kt.out.cell 4).trans rfl
                 have t5 : w6.cell? ⟨w.heap.size, 5, none⟩ = some (.string t.b.var) := (Kt.out.cell 5).trans rfl
                 have t6 : w6.cell? ⟨w.heap.size, 6, none⟩ = some (.int .i64 t.b.sym.kind) := (Kt.out.cell 6).trans rfl
                 have t7 : w6.cell? ⟨w.heap.size, 7, none⟩ = some (.string t.b.sym.text) := (Kt.out.cell 7).trans rfl
                 have t8 : w6.cell? ⟨w.heap.size, 8, none⟩ = some (.int .i64 t.b.sym.n) := (Kt.out.cell 8).trans rfl
                 have tz := Kt.out.lt
                 have r0 : w6.cell? ⟨w.heap.size + 1, 0, none⟩ = some (.int .i64 0) := (Kr.out.cell 0).trans rfl
                 have rf0 := Kr.out.frozen 0
                 have r1 : w6.cell? ⟨w.heap.size + 1, 1, none⟩ = some (.string ⟨#[]⟩) := (Kr.out.cell 1).trans rfl
                 have rf1 := Kr.out.frozen 1
                 have r2 : w6.cell? ⟨w.heap.size + 1, 2, none⟩ = some (.int .i64 0) := (Kr.out.cell 2).trans rfl
                 have rf2 := Kr.out.frozen 2
                 have rz := Kr.out.lt
                 have a0 : w6.cell? ⟨w2.heap.size, 0, none⟩ = some (.int .i64 2) := (Ka.out.cell 0).trans rfl
                 have a1 : w6.cell? ⟨w2.heap.size, 1, none⟩ = some (.string ta) := (Ka.out.cell 1).trans rfl
                 have a2 : w6.cell? ⟨w2.heap.size, 2, none⟩ = some (.int .i64 na) := (Ka.out.cell 2).trans rfl
                 have az := Ka.out.lt
                 have b0 : w6.cell? ⟨w3.heap.size, 0, none⟩ = some (.int .i64 2) := (Kb.out.cell 0).trans rfl
                 have b1 : w6.cell? ⟨w3.heap.size, 1, none⟩ = some (.string tb) := (Kb.out.cell 1).trans rfl
                 have b2 : w6.cell? ⟨w3.heap.size, 2, none⟩ = some (.int .i64 nb) := (Kb.out.cell 2).trans rfl
                 have bz := Kb.out.lt
                 rw [onlyV_num]
                 obtain ⟨⟨ax, ox⟩, hx⟩ : ∃ r, r = numR (na + nb) := ⟨_, rfl⟩
                 rw [← hx] at HF ⊢
                 clear hx
                 dsimp only
                 go_wp2_with fail
                 unfold SymTo
                 rw [HF.out]
                 exact bodyPost_ret (v := .tuple #[.agg #[.int .i64 ax.kind, .string ax.text, .int .i64 ax.n], .bool ox]) (by simp [results, Tryz.results12, go_sem, *]) rfl ⟨rfl, by (repeat (first | exact Below.refl _ _ | exact HB.out | (refine Below.drew ?_) | (refine Below.alloc ?_ (by first | omega | (simp; done) | (simp; omega)) _) | (refine Below.setCell ?_ (by first | omega | (simp; done) | (simp; omega)) _)))⟩
               · skip
                 by_cases h2 : t.op = 2
                 · skip
                   have j1a : (t.op == 1) = false := by simp [h2]
                   have j1b : decide (t.op = 1) = false := by simp [h2]
                   have j2a : (t.op == 2) = true := by simp [h2]
                   have j2b : decide (t.op = 2) = true := by simp [h2]
                   have HF := Lib.hid (show R = numR (na - nb) by rw [HV.out]; simp [hna, hnb, h2])
                   clear hop hna hnb h1 h2
                   go_wp2_with fail
                   with_reducible refine (big_is (na - nb) _).mono ?_
                   rintro e w0 ⟨rfl, rfl⟩
                   go_wp2_with fail
                   with_reducible refine (only_is ⟨2, ⟨#[]⟩, na - nb⟩ (!bigB (na - nb)) _).mono ?_
                   rintro e w6 ⟨rfl, hb⟩
                   have hbs := Below.trans (show Below w5.heap.size w5 _ from (by (repeat (first | exact Below.refl _ _ | (refine Below.drew ?_) | (refine Below.alloc ?_ (by first | omega | (simp; done) | (simp; omega)) _) | (refine Below.setCell ?_ (by first | omega | (simp; done) | (simp; omega)) _))))) (hb.mono (by simp <;> omega))
                   have Kt := Lib.hid (Kt.out.new_ hbs)
                   have Kr := Lib.hid (Kr.out.new_ hbs)
                   have Ka := Lib.hid (Ka.out.new_ hbs)
                   have Kb := Lib.hid (Kb.out.new_ hbs)
                   have HB := Lib.hid (HB.out.trans (hbs.mono HB.out.size))
                   have hsz6 := hbs.size
                   clear t0 t1 t2 t3 t4 t5 t6 t7 t8 tz r0 rf0 r1 rf1 r2 rf2 rz a0 a1 a2 az b0 b1 b2 bz hb hbs
                   have t0 : w6.cell? ⟨w.heap.size, 0, none⟩ = some (.int .i64 t.op) := (Kt.out.cell 0).trans rfl
                   have t1 : w6.cell? ⟨w.heap.size, 1, none⟩ = some (.string t.a.var) := (Kt.out.cell 1).trans rfl
                   have t2 : w6.cell? ⟨w.heap.size, 2, none⟩ = some (.int .i64 t.a.sym.kind) := (Kt.out.cell 2).trans rfl
                   have t3 : w6.cell? ⟨w.heap.size, 3, none⟩ = some (.string t.a.sym.text) := (Kt.out.cell 3).trans rfl
                   have t4 : w6.cell? ⟨w.heap.size, 4, none⟩ = some (.int .i64 t.a.sym.n) := (Kt.out.cell 4).trans rfl
                   have t5 : w6.cell? ⟨w.heap.size, 5, none⟩ = some (.string t.b.var) := (Kt.out.cell 5).trans rfl
                   have t6 : w6.cell? ⟨w.heap.size, 6, none⟩ = some (.int .i64 t.b.sym.kind) := (Kt.out.cell 6).trans rfl
                   have t7 : w6.cell? ⟨w.heap.size, 7, none⟩ = some (.string t.b.sym.text) := (Kt.out.cell 7).trans rfl
                   have t8 : w6.cell? ⟨w.heap.size, 8, none⟩ = some (.int .i64 t.b.sym.n) := (Kt.out.cell 8).trans rfl
                   have tz := Kt.out.lt
                   have r0 : w6.cell? ⟨w.heap.size + 1, 0, none⟩ = some (.int .i64 0) := (Kr.out.cell 0).trans rfl
                   have rf0 := Kr.out.frozen 0
                   have r1 : w6.cell? ⟨w.heap.size + 1, 1, none⟩ = some (.string ⟨#[]⟩) := (Kr.out.cell 1).trans rfl
                   have rf1 := Kr.out.frozen 1
                   have r2 : w6.cell? ⟨w.heap.size + 1, 2, none⟩ = some (.int .i64 0) := (Kr.out.cell 2).trans rfl
                   have rf2 := Kr.out.frozen 2
                   have rz := Kr.out.lt
                   have a0 : w6.cell? ⟨w2.heap.size, 0, none⟩ = some (.int .i64 2) := (Ka.out.cell 0).trans rfl
                   have a1 : w6.cell? ⟨w2.heap.size, 1, none⟩ = some (.string ta) := (Ka.out.cell 1).trans rfl
                   have a2 : w6.cell? ⟨w2.heap.size, 2, none⟩ = some (.int .i64 na) := (Ka.out.cell 2).trans rfl
                   have az := Ka.out.lt
                   have b0 : w6.cell? ⟨w3.heap.size, 0, none⟩ = some (.int .i64 2) := (Kb.out.cell 0).trans rfl
                   have b1 : w6.cell? ⟨w3.heap.size, 1, none⟩ = some (.string tb) := (Kb.out.cell 1).trans rfl
                   have b2 : w6.cell? ⟨w3.heap.size, 2, none⟩ = some (.int .i64 nb) := (Kb.out.cell 2).trans rfl
                   have bz := Kb.out.lt
                   rw [onlyV_num]
                   obtain ⟨⟨ax, ox⟩, hx⟩ : ∃ r, r = numR (na - nb) := ⟨_, rfl⟩
                   rw [← hx] at HF ⊢
                   clear hx
                   dsimp only
                   go_wp2_with fail
                   unfold SymTo
                   rw [HF.out]
                   exact bodyPost_ret (v := .tuple #[.agg #[.int .i64 ax.kind, .string ax.text, .int .i64 ax.n], .bool ox]) (by simp [results, Tryz.results12, go_sem, *]) rfl ⟨rfl, by (repeat (first | exact Below.refl _ _ | exact HB.out | (refine Below.drew ?_) | (refine Below.alloc ?_ (by first | omega | (simp; done) | (simp; omega)) _) | (refine Below.setCell ?_ (by first | omega | (simp; done) | (simp; omega)) _)))⟩
                 · skip
                   by_cases h3 : t.op = 3
                   · skip
                     have j1a : (t.op == 1) = false := by simp [h3]
                     have j1b : decide (t.op = 1) = false := by simp [h3]
                     have j2a : (t.op == 2) = false := by simp [h3]
                     have j2b : decide (t.op = 2) = false := by simp [h3]
                     have j3a : (t.op == 3) = true := by simp [h3]
                     have j3b : decide (t.op = 3) = true := by simp [h3]
                     have HF := Lib.hid (show R = numR (na * nb) by rw [HV.out]; simp [hna, hnb, h3])
                     clear hop hna hnb h1 h2 h3
                     go_wp2_with fail
                     with_reducible refine (big_is (na * nb) _).mono ?_
                     rintro e w0 ⟨rfl, rfl⟩
                     go_wp2_with fail
                     with_reducible refine (only_is ⟨2, ⟨#[]⟩, na * nb⟩ (!bigB (na * nb)) _).mono ?_
                     rintro e w6 ⟨rfl, hb⟩
                     have hbs := Below.trans (show Below w5.heap.size w5 _ from (by (repeat (first | exact Below.refl _ _ | (refine Below.drew ?_) | (refine Below.alloc ?_ (by first | omega | (simp; done) | (simp; omega)) _) | (refine Below.setCell ?_ (by first | omega | (simp; done) | (simp; omega)) _))))) (hb.mono (by simp <;> omega))
                     have Kt := Lib.hid (Kt.out.new_ hbs)
                     have Kr := Lib.hid (Kr.out.new_ hbs)
                     have Ka := Lib.hid (Ka.out.new_ hbs)
                     have Kb := Lib.hid (Kb.out.new_ hbs)
                     have HB := Lib.hid (HB.out.trans (hbs.mono HB.out.size))
                     have hsz6 := hbs.size
                     clear t0 t1 t2 t3 t4 t5 t6 t7 t8 tz r0 rf0 r1 rf1 r2 rf2 rz a0 a1 a2 az b0 b1 b2 bz hb hbs
                     have t0 : w6.cell? ⟨w.heap.size, 0, none⟩ = some (.int .i64 t.op) := (Kt.out.cell 0).trans rfl
                     have t1 : w6.cell? ⟨w.heap.size, 1, none⟩ = some (.string t.a.var) := (Kt.out.cell 1).trans rfl
                     have t2 : w6.cell? ⟨w.heap.size, 2, none⟩ = some (.int .i64 t.a.sym.kind) := (Kt.out.cell 2).trans rfl
                     have t3 : w6.cell? ⟨w.heap.size, 3, none⟩ = some (.string t.a.sym.text) := (Kt.out.cell 3).trans rfl
                     have t4 : w6.cell? ⟨w.heap.size, 4, none⟩ = some (.int .i64 t.a.sym.n) := (Kt.out.cell 4).trans rfl
                     have t5 : w6.cell? ⟨w.heap.size, 5, none⟩ = some (.string t.b.var) := (Kt.out.cell 5).trans rfl
                     have t6 : w6.cell? ⟨w.heap.size, 6, none⟩ = some (.int .i64 t.b.sym.kind) := (Kt.out.cell 6).trans rfl
                     have t7 : w6.cell? ⟨w.heap.size, 7, none⟩ = some (.string t.b.sym.text) := (Kt.out.cell 7).trans rfl
                     have t8 : w6.cell? ⟨w.heap.size, 8, none⟩ = some (.int .i64 t.b.sym.n) := (Kt.out.cell 8).trans rfl
                     have tz := Kt.out.lt
                     have r0 : w6.cell? ⟨w.heap.size + 1, 0, none⟩ = some (.int .i64 0) := (Kr.out.cell 0).trans rfl
                     have rf0 := Kr.out.frozen 0
                     have r1 : w6.cell? ⟨w.heap.size + 1, 1, none⟩ = some (.string ⟨#[]⟩) := (Kr.out.cell 1).trans rfl
                     have rf1 := Kr.out.frozen 1
                     have r2 : w6.cell? ⟨w.heap.size + 1, 2, none⟩ = some (.int .i64 0) := (Kr.out.cell 2).trans rfl
                     have rf2 := Kr.out.frozen 2
                     have rz := Kr.out.lt
                     have a0 : w6.cell? ⟨w2.heap.size, 0, none⟩ = some (.int .i64 2) := (Ka.out.cell 0).trans rfl
                     have a1 : w6.cell? ⟨w2.heap.size, 1, none⟩ = some (.string ta) := (Ka.out.cell 1).trans rfl
                     have a2 : w6.cell? ⟨w2.heap.size, 2, none⟩ = some (.int .i64 na) := (Ka.out.cell 2).trans rfl
                     have az := Ka.out.lt
                     have b0 : w6.cell? ⟨w3.heap.size, 0, none⟩ = some (.int .i64 2) := (Kb.out.cell 0).trans rfl
                     have b1 : w6.cell? ⟨w3.heap.size, 1, none⟩ = some (.string tb) := (Kb.out.cell 1).trans rfl
                     have b2 : w6.cell? ⟨w3.heap.size, 2, none⟩ = some (.int .i64 nb) := (Kb.out.cell 2).trans rfl
                     have bz := Kb.out.lt
                     rw [onlyV_num]
                     obtain ⟨⟨ax, ox⟩, hx⟩ : ∃ r, r = numR (na * nb) := ⟨_, rfl⟩
                     rw [← hx] at HF ⊢
                     clear hx
                     dsimp only
                     go_wp2_with fail
                     unfold SymTo
                     rw [HF.out]
                     exact bodyPost_ret (v := .tuple #[.agg #[.int .i64 ax.kind, .string ax.text, .int .i64 ax.n], .bool ox]) (by simp [results, Tryz.results12, go_sem, *]) rfl ⟨rfl, by (repeat (first | exact Below.refl _ _ | exact HB.out | (refine Below.drew ?_) | (refine Below.alloc ?_ (by first | omega | (simp; done) | (simp; omega)) _) | (refine Below.setCell ?_ (by first | omega | (simp; done) | (simp; omega)) _)))⟩
                   · skip
                     have j1a : (t.op == 1) = false := by simp [h1]
                     have j1b : decide (t.op = 1) = false := by simp [h1]
                     have j2a : (t.op == 2) = false := by simp [h2]
                     have j2b : decide (t.op = 2) = false := by simp [h2]
                     have j3a : (t.op == 3) = false := by simp [h3]
                     have j3b : decide (t.op = 3) = false := by simp [h3]
                     have HF := Lib.hid (show R = (zS, false) by rw [HV.out]; simp [hop, hna, hnb, h1, h2, h3])
                     go_wp2_with fail
                     unfold SymTo
                     rw [HF.out]
                     exact bodyPost_ret (v := .tuple #[.agg #[.int .i64 0, .string ⟨#[]⟩, .int .i64 0], .bool false]) (by simp [results, Tryz.results12, go_sem, *]) rfl ⟨rfl, by (repeat (first | exact Below.refl _ _ | exact HB.out | (refine Below.drew ?_) | (refine Below.alloc ?_ (by first | omega | (simp; done) | (simp; omega)) _) | (refine Below.setCell ?_ (by first | omega | (simp; done) | (simp; omega)) _)))⟩
         · skip
           have qba : (b.kind == 2) = false := by simp [hkb]
           have qbb : decide (b.kind = 2) = false := by simp [hkb]
           have HF := Lib.hid (show R = (zS, false) by rw [HV.out]; simp [hop, numB2, hkb])
           go_wp2_with fail
           unfold SymTo
           rw [HF.out]
           exact bodyPost_ret (v := .tuple #[.agg #[.int .i64 0, .string ⟨#[]⟩, .int .i64 0], .bool false]) (by simp [results, Tryz.results12, go_sem, *]) rfl ⟨rfl, by (repeat (first | exact Below.refl _ _ | exact HB.out | (refine Below.drew ?_) | (refine Below.alloc ?_ (by first | omega | (simp; done) | (simp; omega)) _) | (refine Below.setCell ?_ (by first | omega | (simp; done) | (simp; omega)) _)))⟩
       · skip
         have qaa : (a.kind == 2) = false := by simp [hka]
         have qab : decide (a.kind = 2) = false := by simp [hka]
         have HF := Lib.hid (show R = (zS, false) by rw [HV.out]; simp [hop, numB2, hka])
         go_wp2_with fail
         unfold SymTo
         rw [HF.out]
         exact bodyPost_ret (v := .tuple #[.agg #[.int .i64 0, .string ⟨#[]⟩, .int .i64 0], .bool false]) (by simp [results, Tryz.results12, go_sem, *]) rfl ⟨rfl, by (repeat (first | exact Below.refl _ _ | exact HB.out | (refine Below.drew ?_) | (refine Below.alloc ?_ (by first | omega | (simp; done) | (simp; omega)) _) | (refine Below.setCell ?_ (by first | omega | (simp; done) | (simp; omega)) _)))⟩
end Go.Proofs.YtpndmjabjjbefaaGreat
namespace Go.Proofs.YtpndmjabjjbefaaGreat
open Go.RowKit Go.Shelf
def bindB (b : BindT) : Bool := decide (b.var.size ≤ 100) && decide (b.sym.text.size ≤ 100)
def bindsB (l : List BindT) : Bool := decide (l.length ≤ 40) && l.all bindB
set_option maxRecDepth 100000 in
set_option maxHeartbeats 2000000 in
theorem binds_is {D : Nat → Prop} {A : Option Addr} {c : Nat} (l : List BindT) (w : World) (h : RowR repBindT D w A c l) : Calls Tryz.prog 9 #[.slice A l.length c] w fun e w' => e = .returned (.bool (bindsB l)) ∧ w = w' := by
 have H := Lib.hid h
 have hlc := h.cap
 clear h
 go_enter Tryz.func9, Tryz.ntmps9
 by_cases h40 : l.length ≤ 40
 · have t1 : decide ((40 : Int) < (l.length : Int)) = false := by simp; omega
   have H40 := Lib.hid h40
   clear h40
   go_wp2_with fail
   go_loopw [3] (fun s wr => ∃ i : Nat, s = .int .i64 i ∧ i ≤ l.length ∧ (∀ k, (h : k < l.length) → k < i → bindB l[k] = true) ∧ wr = w) (fun s wr => l.length - (intOf s).toNat)
   case atStart => exact ⟨0, rfl, Nat.zero_le _, fun k _ h => absurd h (by omega), rfl⟩
   case round =>
    obtain ⟨i, rfl, hi, hall, rfl⟩ := hrel
    have HALL := Lib.hid hall
    clear hall t1
    by_cases hlt : i < l.length
    · obtain ⟨x, hx⟩ : ∃ x, x = l[i] := ⟨_, rfl⟩
      obtain ⟨g, off, rfl, _, hgs, q0, q1, q2, q3⟩ := at_BindT H.out hlt
      rw [← hx] at q0 q1 q2 q3
      have b1 : (0 : Int) ≤ (i : Int) := by omega
      have b2 : (i : Int) < (l.length : Int) := by omega
      have HX := Lib.hid hx
      clear hx
      have hno : bindB x = false → bindsB l = false := fun h => by
       unfold bindsB
       have : l.all bindB = false := by
        rw [List.all_eq_false]
        exact ⟨x, by rw [HX.out]; exact List.getElem_mem hlt, by simp [h]⟩
       rw [this, Bool.and_false]
      have HNO := Lib.hid hno
      clear hno
      by_cases h1 : x.var.size ≤ 100
      · by_cases h2 : x.sym.text.size ≤ 100
        · have t1 : decide ((100 : Int) < (x.var.size : Int)) = false := by simp; omega
          have t2 : decide ((100 : Int) < (x.sym.text.size : Int)) = false := by simp; omega
          have HBX := Lib.hid (show bindB x = true by simp [bindB, h1, h2])
          clear h1 h2
          go_wp2_with fail
          go_roundw
          case rel =>
           refine ⟨i + 1, by go_num, by omega, fun k h hk => ?_, by trivial⟩
           rcases Nat.lt_or_ge k i with h3 | h3
           · exact HALL.out k h h3
           · obtain rfl : k = i := by omega
             rw [← HX.out]
             exact HBX.out
          case measure => simp [intOf] <;> omega
        · have t1 : decide ((100 : Int) < (x.var.size : Int)) = false := by simp; omega
          have t2 : decide ((100 : Int) < (x.sym.text.size : Int)) = true := by simp; omega
          have HBX := Lib.hid (show bindB x = false by simp [bindB, h2])
          clear h1 h2
          go_wp2_with fail
          go_ret
          exact ⟨by rw [HNO.out HBX.out]; rfl, rfl⟩
      · have t1 : decide ((100 : Int) < (x.var.size : Int)) = true := by simp; omega
        have HBX := Lib.hid (show bindB x = false by simp [bindB, h1])
        clear h1
        go_wp2_with fail
        go_ret
        exact ⟨by rw [HNO.out HBX.out]; rfl, rfl⟩
    · have hie : i = l.length := by omega
      subst hie
      go_wp2_with fail
      go_ret
      refine ⟨?_, rfl⟩
      have : bindsB l = true := by
       have h1 : l.all bindB = true := by
        rw [List.all_eq_true]
        intro x hx
        obtain ⟨k, hk, rfl⟩ := List.getElem_of_mem hx
        exact HALL.out k hk hk
       simp [bindsB, H40.out, h1]
      rw [this]; rfl
 · have t1 : decide ((40 : Int) < (l.length : Int)) = true := by simp; omega
   have HR := Lib.hid (show bindsB l = false by simp [bindsB, h40])
   clear h40
   go_wp2_with fail
   go_ret
   exact ⟨by rw [HR.out]; rfl, rfl⟩
end Go.Proofs.YtpndmjabjjbefaaGreat
namespace Go.Proofs.YtpndmjabjjbefaaGreat
open Go.RowKit Go.Shelf
set_option maxRecDepth 100000 in
set_option maxHeartbeats 4000000 in
theorem values_walk (t : TermT) (A : Option Addr) (c : Nat) (l : List BindT) (w : World) (h : RowR repBindT (· < w.heap.size) w A c l) :
 Calls Tryz.prog 3 #[.agg #[.int .i64 t.op, .string t.a.var, .int .i64 t.a.sym.kind, .string t.a.sym.text, .int .i64 t.a.sym.n, .string t.b.var, .int .i64 t.b.sym.kind, .string t.b.sym.text, .int .i64 t.b.sym.n], .slice A l.length c] w fun e w' => e = .returned (.bool true) ∧ Below w.heap.size w w' := by
 have H := Lib.hid h
 clear h
 go_enter Tryz.func3, Tryz.ntmps3
 go_upto_region 1 with fail
 obtain ⟨w1, hw1⟩ : ∃ w1, w1 = (w.alloc (.cells #[.int .i64 t.op, .string t.a.var, .int .i64 t.a.sym.kind, .string t.a.sym.text, .int .i64 t.a.sym.n, .string t.b.var, .int .i64 t.b.sym.kind, .string t.b.sym.text, .int .i64 t.b.sym.n] 27)) := ⟨_, rfl⟩
 rw [← hw1]
 have HB := Lib.hid (show Below w.heap.size w w1 by rw [hw1]; exact (by repeat (first | exact Below.refl _ _ | (refine Below.drew ?_) | (refine Below.alloc ?_ (by first | omega | (simp; done) | (simp; omega)) _) | (refine Below.setCell ?_ (by first | omega | (simp; done) | (simp; omega)) _))))
 have Kt := Lib.hid (show Blk w1 (w.heap.size) 27 #[.int .i64 t.op, .string t.a.var, .int .i64 t.a.sym.kind, .string t.a.sym.text, .int .i64 t.a.sym.n, .string t.b.var, .int .i64 t.b.sym.kind, .string t.b.sym.text, .int .i64 t.b.sym.n] by rw [hw1]; exact (Blk.new w 27 #[.int .i64 t.op, .string t.a.var, .int .i64 t.a.sym.kind, .string t.a.sym.text, .int .i64 t.a.sym.n, .string t.b.var, .int .i64 t.b.sym.kind, .string t.b.sym.text, .int .i64 t.b.sym.n]))
 clear hw1
 have t0 : w1.cell? ⟨w.heap.size, 0, none⟩ = some (.int .i64 t.op) := (Kt.out.cell 0).trans rfl
 have t1 : w1.cell? ⟨w.heap.size, 1, none⟩ = some (.string t.a.var) := (Kt.out.cell 1).trans rfl
 have t2 : w1.cell? ⟨w.heap.size, 2, none⟩ = some (.int .i64 t.a.sym.kind) := (Kt.out.cell 2).trans rfl
 have t3 : w1.cell? ⟨w.heap.size, 3, none⟩ = some (.string t.a.sym.text) := (Kt.out.cell 3).trans rfl
 have t4 : w1.cell? ⟨w.heap.size, 4, none⟩ = some (.int .i64 t.a.sym.n) := (Kt.out.cell 4).trans rfl
 have t5 : w1.cell? ⟨w.heap.size, 5, none⟩ = some (.string t.b.var) := (Kt.out.cell 5).trans rfl
 have t6 : w1.cell? ⟨w.heap.size, 6, none⟩ = some (.int .i64 t.b.sym.kind) := (Kt.out.cell 6).trans rfl
 have t7 : w1.cell? ⟨w.heap.size, 7, none⟩ = some (.string t.b.sym.text) := (Kt.out.cell 7).trans rfl
 have t8 : w1.cell? ⟨w.heap.size, 8, none⟩ = some (.int .i64 t.b.sym.n) := (Kt.out.cell 8).trans rfl
 have tz := Kt.out.lt
 have hb0 := fun W (hb : Below w.heap.size w W) => binds_is l W (H.out.new_ hb)
 cases hbl : bindsB l
 · skip
   rw [hbl] at hb0
   have HBI := Lib.hid hb0
   clear hb0 hbl
   go_wp2_with fail
   with_reducible refine (HBI.out _ (by (repeat (first | exact Below.refl _ _ | exact HB.out | (refine Below.drew ?_) | (refine Below.alloc ?_ (by first | omega | (simp; done) | (simp; omega)) _) | (refine Below.setCell ?_ (by first | omega | (simp; done) | (simp; omega)) _))))).mono ?_
   rintro e w0 ⟨rfl, rfl⟩
   go_wp2_with fail
   with_reducible refine (wakes15_is _).mono ?_
   rintro e w2 ⟨rfl, hb⟩
   have hbs := Below.trans (show Below w1.heap.size w1 _ from (by (repeat (first | exact Below.refl _ _ | (refine Below.drew ?_) | (refine Below.alloc ?_ (by first | omega | (simp; done) | (simp; omega)) _) | (refine Below.setCell ?_ (by first | omega | (simp; done) | (simp; omega)) _))))) (hb.mono (by simp <;> omega))
   have Kt := Lib.hid (Kt.out.new_ hbs)
   have HB := Lib.hid (HB.out.trans (hbs.mono HB.out.size))
   have hsz2 := hbs.size
   clear t0 t1 t2 t3 t4 t5 t6 t7 t8 tz hb hbs
   have t0 : w2.cell? ⟨w.heap.size, 0, none⟩ = some (.int .i64 t.op) := (Kt.out.cell 0).trans rfl
   have t1 : w2.cell? ⟨w.heap.size, 1, none⟩ = some (.string t.a.var) := (Kt.out.cell 1).trans rfl
   have t2 : w2.cell? ⟨w.heap.size, 2, none⟩ = some (.int .i64 t.a.sym.kind) := (Kt.out.cell 2).trans rfl
   have t3 : w2.cell? ⟨w.heap.size, 3, none⟩ = some (.string t.a.sym.text) := (Kt.out.cell 3).trans rfl
   have t4 : w2.cell? ⟨w.heap.size, 4, none⟩ = some (.int .i64 t.a.sym.n) := (Kt.out.cell 4).trans rfl
   have t5 : w2.cell? ⟨w.heap.size, 5, none⟩ = some (.string t.b.var) := (Kt.out.cell 5).trans rfl
   have t6 : w2.cell? ⟨w.heap.size, 6, none⟩ = some (.int .i64 t.b.sym.kind) := (Kt.out.cell 6).trans rfl
   have t7 : w2.cell? ⟨w.heap.size, 7, none⟩ = some (.string t.b.sym.text) := (Kt.out.cell 7).trans rfl
   have t8 : w2.cell? ⟨w.heap.size, 8, none⟩ = some (.int .i64 t.b.sym.n) := (Kt.out.cell 8).trans rfl
   have tz := Kt.out.lt
   go_wp2_with fail
   go_ret
   exact ⟨rfl, by (repeat (first | exact Below.refl _ _ | exact HB.out | (refine Below.drew ?_) | (refine Below.alloc ?_ (by first | omega | (simp; done) | (simp; omega)) _) | (refine Below.setCell ?_ (by first | omega | (simp; done) | (simp; omega)) _)))⟩
 · skip
   rw [hbl] at hb0
   have HBI := Lib.hid hb0
   clear hb0 hbl
   obtain ⟨⟨s, ok⟩, hs⟩ : ∃ r, r = valueV t l := ⟨_, rfl⟩
   have hc1 := fun W (hb : Below w.heap.size w W) => value_is t l W (H.out.new_ hb)
   have hc2 := fun W (hb : Below w.heap.size w W) => rvalue_is t l W (H.out.new_ hb)
   simp only [← hs] at hc1 hc2
   have HC1 := Lib.hid hc1
   have HC2 := Lib.hid hc2
   clear hc1 hc2 hs
   go_wp2_with fail
   with_reducible refine (HBI.out _ (by (repeat (first | exact Below.refl _ _ | exact HB.out | (refine Below.drew ?_) | (refine Below.alloc ?_ (by first | omega | (simp; done) | (simp; omega)) _) | (refine Below.setCell ?_ (by first | omega | (simp; done) | (simp; omega)) _))))).mono ?_
   rintro e w0 ⟨rfl, rfl⟩
   go_wp2_with fail
   with_reducible refine (HC1.out _ (by (repeat (first | exact Below.refl _ _ | exact HB.out | (refine Below.drew ?_) | (refine Below.alloc ?_ (by first | omega | (simp; done) | (simp; omega)) _) | (refine Below.setCell ?_ (by first | omega | (simp; done) | (simp; omega)) _))))).mono ?_
   rintro e w2 ⟨rfl, hb⟩
   have hbs := Below.trans (show Below w1.heap.size w1 _ from (by (repeat (first | exact Below.refl _ _ | (refine Below.drew ?_) | (refine Below.alloc ?_ (by first | omega | (simp; done) | (simp; omega)) _) | (refine Below.setCell ?_ (by first | omega | (simp; done) | (simp; omega)) _))))) (hb.mono (by simp <;> omega))
   have Kt := Lib.hid (Kt.out.new_ hbs)
   have HB := Lib.hid (HB.out.trans (hbs.mono HB.out.size))
   have hsz2 := hbs.size
   clear t0 t1 t2 t3 t4 t5 t6 t7 t8 tz hb hbs
   have t0 : w2.cell? ⟨w.heap.size, 0, none⟩ = some (.int .i64 t.op) := (Kt.out.cell 0).trans rfl
   have t1 : w2.cell? ⟨w.heap.size, 1, none⟩ = some (.string t.a.var) := (Kt.out.cell 1).trans rfl
   have t2 : w2.cell? ⟨w.heap.size, 2, none⟩ = some (.int .i64 t.a.sym.kind) := (Kt.out.cell 2).trans rfl
   have t3 : w2.cell? ⟨w.heap.size, 3, none⟩ = some (.string t.a.sym.text) := (Kt.out.cell 3).trans rfl
   have t4 : w2.cell? ⟨w.heap.size, 4, none⟩ = some (.int .i64 t.a.sym.n) := (Kt.out.cell 4).trans rfl
   have t5 : w2.cell? ⟨w.heap.size, 5, none⟩ = some (.string t.b.var) := (Kt.out.cell 5).trans rfl
   have t6 : w2.cell? ⟨w.heap.size, 6, none⟩ = some (.int .i64 t.b.sym.kind) := (Kt.out.cell 6).trans rfl
   have t7 : w2.cell? ⟨w.heap.size, 7, none⟩ = some (.string t.b.sym.text) := (Kt.out.cell 7).trans rfl
   have t8 : w2.cell? ⟨w.heap.size, 8, none⟩ = some (.int .i64 t.b.sym.n) := (Kt.out.cell 8).trans rfl
   have tz := Kt.out.lt
   go_wp2_with fail
   with_reducible refine (HC2.out _ (by (repeat (first | exact Below.refl _ _ | exact HB.out | (refine Below.drew ?_) | (refine Below.alloc ?_ (by first | omega | (simp; done) | (simp; omega)) _) | (refine Below.setCell ?_ (by first | omega | (simp; done) | (simp; omega)) _))))).mono ?_
   rintro e w3 ⟨rfl, hb⟩
   have hbs := Below.trans (show Below w2.heap.size w2 _ from (by (repeat (first | exact Below.refl _ _ | (refine Below.drew ?_) | (refine Below.alloc ?_ (by first | omega | (simp; done) | (simp; omega)) _) | (refine Below.setCell ?_ (by first | omega | (simp; done) | (simp; omega)) _))))) (hb.mono (by simp <;> omega))
   have Kt := Lib.hid (Kt.out.new_ hbs)
   have Ka := Lib.hid (show Blk w3 (w2.heap.size) 23 #[.int .i64 s.kind, .string s.text, .int .i64 s.n] from (Blk.new _ _ _).new_ hb)
   have HB := Lib.hid (HB.out.trans (hbs.mono HB.out.size))
   have hsz3 := hbs.size
   clear t0 t1 t2 t3 t4 t5 t6 t7 t8 tz hb hbs
   have t0 : w3.cell? ⟨w.heap.size, 0, none⟩ = some (.int .i64 t.op) := (Kt.out.cell 0).trans rfl
   have t1 : w3.cell? ⟨w.heap.size, 1, none⟩ = some (.string t.a.var) := (Kt.out.cell 1).trans rfl
   have t2 : w3.cell? ⟨w.heap.size, 2, none⟩ = some (.int .i64 t.a.sym.kind) := (Kt.out.cell 2).trans rfl
   have t3 : w3.cell? ⟨w.heap.size, 3, none⟩ = some (.string t.a.sym.text) := (Kt.out.cell 3).trans rfl
   have t4 : w3.cell? ⟨w.heap.size, 4, none⟩ = some (.int .i64 t.a.sym.n) := (Kt.out.cell 4).trans rfl
   have t5 : w3.cell? ⟨w.heap.size, 5, none⟩ = some (.string t.b.var) := (Kt.out.cell 5).trans rfl
   have t6 : w3.cell? ⟨w.heap.size, 6, none⟩ = some (.int .i64 t.b.sym.kind) := (Kt.out.cell 6).trans rfl
   have t7 : w3.cell? ⟨w.heap.size, 7, none⟩ = some (.string t.b.sym.text) := (Kt.out.cell 7).trans rfl
   have t8 : w3.cell? ⟨w.heap.size, 8, none⟩ = some (.int .i64 t.b.sym.n) := (Kt.out.cell 8).trans rfl
   have tz := Kt.out.lt
   have a0 : w3.cell? ⟨w2.heap.size, 0, none⟩ = some (.int .i64 s.kind) := (Ka.out.cell 0).trans rfl
   have a1 : w3.cell? ⟨w2.heap.size, 1, none⟩ = some (.string s.text) := (Ka.out.cell 1).trans rfl
   have a2 : w3.cell? ⟨w2.heap.size, 2, none⟩ = some (.int .i64 s.n) := (Ka.out.cell 2).trans rfl
   have az := Ka.out.lt
   have he := fun W => eql_sym s s W
   simp only [decide_true] at he
   go_wp2_with fail
   with_reducible refine (wakes15_is _).mono ?_
   rintro e w4 ⟨rfl, hb⟩
   have hbs := Below.trans (show Below w3.heap.size w3 _ from (by (repeat (first | exact Below.refl _ _ | (refine Below.drew ?_) | (refine Below.alloc ?_ (by first | omega | (simp; done) | (simp; omega)) _) | (refine Below.setCell ?_ (by first | omega | (simp; done) | (simp; omega)) _))))) (hb.mono (by simp <;> omega))
   have Kt := Lib.hid (Kt.out.new_ hbs)
   have Ka := Lib.hid (Ka.out.new_ hbs)
   have HB := Lib.hid (HB.out.trans (hbs.mono HB.out.size))
   have hsz4 := hbs.size
   clear t0 t1 t2 t3 t4 t5 t6 t7 t8 tz a0 a1 a2 az hb hbs
   have t0 : w4.cell? ⟨w.heap.size, 0, none⟩ = some (.int .i64 t.op) := (Kt.out.cell 0).trans rfl
   have t1 : w4.cell? ⟨w.heap.size, 1, none⟩ = some (.string t.a.var) := (Kt.out.cell 1).trans rfl
   have t2 : w4.cell? ⟨w.heap.size, 2, none⟩ = some (.int .i64 t.a.sym.kind) := (Kt.out.cell 2).trans rfl
   have t3 : w4.cell? ⟨w.heap.size, 3, none⟩ = some (.string t.a.sym.text) := (Kt.out.cell 3).trans rfl
   have t4 : w4.cell? ⟨w.heap.size, 4, none⟩ = some (.int .i64 t.a.sym.n) := (Kt.out.cell 4).trans rfl
   have t5 : w4.cell? ⟨w.heap.size, 5, none⟩ = some (.string t.b.var) := (Kt.out.cell 5).trans rfl
   have t6 : w4.cell? ⟨w.heap.size, 6, none⟩ = some (.int .i64 t.b.sym.kind) := (Kt.out.cell 6).trans rfl
   have t7 : w4.cell? ⟨w.heap.size, 7, none⟩ = some (.string t.b.sym.text) := (Kt.out.cell 7).trans rfl
   have t8 : w4.cell? ⟨w.heap.size, 8, none⟩ = some (.int .i64 t.b.sym.n) := (Kt.out.cell 8).trans rfl
   have tz := Kt.out.lt
   have a0 : w4.cell? ⟨w2.heap.size, 0, none⟩ = some (.int .i64 s.kind) := (Ka.out.cell 0).trans rfl
   have a1 : w4.cell? ⟨w2.heap.size, 1, none⟩ = some (.string s.text) := (Ka.out.cell 1).trans rfl
   have a2 : w4.cell? ⟨w2.heap.size, 2, none⟩ = some (.int .i64 s.n) := (Ka.out.cell 2).trans rfl
   have az := Ka.out.lt
   go_wp2_with fail
   go_ret
   exact ⟨rfl, by (repeat (first | exact Below.refl _ _ | exact HB.out | (refine Below.drew ?_) | (refine Below.alloc ?_ (by first | omega | (simp; done) | (simp; omega)) _) | (refine Below.setCell ?_ (by first | omega | (simp; done) | (simp; omega)) _)))⟩
end Go.Proofs.YtpndmjabjjbefaaGreat
namespace Go.Proofs.YtpndmjabjjbefaaGreat
open Go.RowKit Go.ChangeShapes Go.WideShapes Go.Deep
set_option maxRecDepth 100000 in
theorem open_TermT {H : Type} {enc : TypeId × Value → H} {w : World} {r : Reach} {b0 base : Nat} {spare : Nat → Bool} {held : Bool} {v : Value} {d : DataW H} {ps : List MemPlace}
 (hval : Value.okWide Tryz.prog w r b0 27 v) (h : DataW.Trod enc Tryz.prog w base spare held 27 v d ps) : ∃ x : TermT, v = .agg (TermT.cells x).toArray := by
 obtain ⟨cs, rfl, _⟩ := okWide_struct Tryz.underlying27 hval
 obtain ⟨fuel, hf⟩ := h
 obtain ⟨x, hx⟩ := opens_TermT.2 H enc w base spare held fuel _ _ hf
 have hx : _ = TermT.cells x := hx
 refine ⟨x, ?_⟩
 simp only [Value.cells] at hx
 rw [← hx]
end Go.Proofs.YtpndmjabjjbefaaGreat
namespace Go.Proofs.YtpndmjabjjbefaaGreat
open Go.ChangeShapes Go.WideShapes Go.ChangeAt Go.RowKit Go.Deep
theorem own_values : ownKnob Tryz.prog.godebug = none := by kernel_rfl
theorem laid_values : laidOutB Tryz.prog = true := by kernel_rfl
set_option maxRecDepth 100000 in
theorem values_lifted (os : Os) (started : os.Started) (H : Type) (enc : TypeId × Value → H) :
 ReturnsInHanded {} Tryz.checked os 3 .any (Rows.actValuesSpec.pre6 enc Tryz.prog Tryz.f3 Rows.actValuesRow.domain false) (Rows.actValuesSpec.post enc Tryz.prog Tryz.f3 false true false false) := by
 refine returnsInHanded_of_change (C := Tryz.checked) own_values started (by kernel_rfl) Tryz.func3
  (ChangeSpec.witness6 (enc := enc) (C := Tryz.checked) false ⟨#[], #[.agg #[.int .i64 0, .string ⟨#[]⟩, .int .i64 0, .string ⟨#[]⟩, .int .i64 0, .string ⟨#[]⟩, .int .i64 0, .string ⟨#[]⟩, .int .i64 0], .slice none 0 0], []⟩ 8 (by kernel_rfl) (by kernel_rfl) (by kernel_rfl) (by kernel_rfl)) ?_
 intro W base args ds gs before hval0 hW hcnd _
 have hval : ∀ (j : Nat) t v, Tryz.f3.params[j]? = some t → args[j]? = some v → Value.okWide Tryz.prog W .any base t v := hval0
 have hW' := hW
 obtain ⟨p, q, hA0, hV, rfl, hfz, hnd⟩ := hW
 have hA : DataW.TrodAll enc Tryz.prog W 0 (fun _ => true) true Tryz.f3.params.toList args.toList ds p := hA0
 rw [Tryz.params3] at hA hval
 obtain ⟨v0, v1, d0, d1, p0, p1, rfl, rfl, rfl, h0, h1⟩ := trodAll_two hA
 obtain ⟨rfl, rfl⟩ := trodVars_none hV
 obtain ⟨x0, rfl⟩ := open_TermT (hval 0 27 v0 rfl rfl) h0
 obtain ⟨A1, c1, l1, rfl, r1⟩ := open_rowR Tryz.underlying28 (by decide) opens_BindT (hval 1 28 v1 rfl rfl) h1
 clear hA0 hval0
 refine (values_walk x0 A1 c1 l1 W r1).mono fun e W' ⟨he, hb⟩ => ?_
 subst he
 exact ⟨_, rfl, post_true (tb := 4) laid_values rfl hW' (by kernel_rfl) Tryz.underlying4 (fun t ht => by
  have ht' : t ∈ [27, 28] := by
   have e : Tryz.f3.params.toList = [27, 28] := by rw [Tryz.params3]
   rwa [e] at ht
  simp only [List.mem_cons, List.not_mem_nil, or_false] at ht'
  rcases ht' with rfl | rfl <;> exact ⟨by kernel_rfl, of_decide_eq_true (by kernel_rfl)⟩) rfl rfl rfl hb⟩
theorem values_holds : Rows.ActValuesSaid :=
 OpenClaim.holds_of_wide 3 Tryz.f3 rfl rfl rfl rfl rfl rfl rfl ⟨rfl, rfl, rfl, rfl, rfl⟩ rfl rfl rfl rfl rfl (by kernel_rfl) Tryz.func3 (by kernel_rfl)
  (of_decide_eq_true (by kernel_rfl)) (by unfold Func.isWrapper; first | (rw [if_pos (by decide +kernel)]; kernel_rfl) | (rw [if_neg (by decide +kernel)]; exact ⟨rfl, rfl⟩))
  (fun os started H enc _ => values_lifted os started H enc)
end Go.Proofs.YtpndmjabjjbefaaGreat
