/-
  For every input ActLeft answers true, and leaves its arguments and all that was there as they were. No conditions.
-/
import Derived.Test.YtpndmjabjjbefaaGreatLe
import Derived.Test.YtpndmjabjjbefaaGreatLg
import Derived.Test.YtpndmjabjjbefaaGreatLa
import Derived.Test.YtpndmjabjjbefaaGreatLb
import Derived.Maps.RangeWalk
namespace Go.Proofs.YtpndmjabjjbefaaGreat
open Go.RowKit Go.Shelf
attribute [local go_sem] Oper.semAt_some
def wkT : TermT := ⟨1, ⟨⟨#[120]⟩, ⟨0, ⟨#[]⟩, 0⟩⟩, ⟨⟨#[]⟩, ⟨2, ⟨#[]⟩, 1⟩⟩⟩
def wkB : BindT := ⟨⟨#[120]⟩, ⟨2, ⟨#[]⟩, 4⟩⟩
def wkL : BindT := ⟨⟨#[115]⟩, ⟨1, ⟨#[83]⟩, 1⟩⟩
def wkA : ActT := ⟨⟨#[115]⟩, ⟨⟨#[]⟩, ⟨3, ⟨#[97]⟩, 0⟩⟩, ⟨0, ⟨⟨#[111]⟩, ⟨0, ⟨#[]⟩, 0⟩⟩, ⟨⟨#[]⟩, ⟨0, ⟨#[]⟩, 0⟩⟩⟩, 1, ⟨⟨#[]⟩, ⟨0, ⟨#[]⟩, 0⟩⟩⟩
def wkC : ActT := ⟨⟨#[111]⟩, ⟨⟨#[]⟩, ⟨3, ⟨#[98]⟩, 0⟩⟩, ⟨0, ⟨⟨#[]⟩, ⟨2, ⟨#[]⟩, 1⟩⟩, ⟨⟨#[]⟩, ⟨0, ⟨#[]⟩, 0⟩⟩⟩, 1, ⟨⟨#[]⟩, ⟨0, ⟨#[]⟩, 0⟩⟩⟩
def wkP : ProdT := ⟨⟨#[97]⟩, [oneCond], [wkA, wkC]⟩
theorem wk_value : valueV wkT [wkB] = (⟨2, ⟨#[]⟩, 5⟩, true) := by kernel_rfl
theorem condsK_one (n : Nat) (k k2 : Kn) (c : CondT) (at_ : Int) (h : c.kind = 1) (h2 : oneK k c = (true, k2)) : condsK (n + 1) k [c] at_ = (true, at_ + 1, k2) := by
 rw [condsK, if_neg (by omega), if_pos h, h2]
 simp only [if_pos h]
 rw [condsK]
theorem checkP_one {n : Nat} {p : ProdT} {c : CondT} {k2 : Kn} (h0 : (shapeP (n + 1) p).2 = 0) (hc : p.conds = [c]) (hk : c.kind = 1) (h2 : oneK ([], []) c = (true, k2)) (h3 : p.acts.findIdx? (actV k2) = none) : checkP (n + 1) p = (-1, 0, k2.2) := by
 unfold checkP
 rw [if_neg (by rw [h0]; simp), hc, if_neg (by simp [hk]), condsK_one n _ k2 c 0 hk h2]
 simp only [h3]
theorem wk_check : checkP 1 wkP = (-1, 0, [⟨#[115]⟩]) := checkP_one (n := 0) (c := oneCond) (k2 := ([⟨#[115]⟩], [⟨#[115]⟩])) (by kernel_rfl) rfl rfl (by kernel_rfl) (by kernel_rfl)
def wkQ : List PrefT := [⟨⟨1, ⟨#[83]⟩, 1⟩, ⟨3, ⟨#[97]⟩, 0⟩, ⟨1, ⟨#[79]⟩, 1⟩, ⟨0, ⟨#[]⟩, 0⟩, 1, false, 0, 0⟩, ⟨⟨1, ⟨#[79]⟩, 1⟩, ⟨3, ⟨#[98]⟩, 0⟩, ⟨2, ⟨#[]⟩, 1⟩, ⟨0, ⟨#[]⟩, 0⟩, 1, false, 0, 0⟩]
def wkM : List BindT := [wkL, ⟨⟨#[111]⟩, ⟨1, ⟨#[79]⟩, 1⟩⟩]
def wkN : List Sym := (doV 20 [wkL] wkP.acts []).2
theorem wk_do : doR 1 wkP [wkL] 20 [] = ((wkQ, wkM, 0), wkN) := by
 unfold doR
 rw [wk_check, if_neg (by simp)]
 kernel_rfl
def WkTo (D : Nat → Prop) (Y : World) (e : Ending) (W' : World) : Prop := ∃ g c g' c', e = .returned (.tuple #[.slice (some ⟨g, 0, none⟩) 2 c, .slice (some ⟨g', 0, none⟩) 2 c', .int .i64 0]) ∧ g < W'.heap.size ∧ (2 ≤ c ∧ c ≤ maxLen ∧ 2 ≤ c' ∧ c' ≤ maxLen) ∧
    (W'.cell? ⟨g, 6, none⟩ = some (.int .i64 1) ∧ W'.cell? ⟨g, 7, none⟩ = some (.string ⟨#[79]⟩) ∧ W'.cell? ⟨g, 8, none⟩ = some (.int .i64 1)) ∧
    (W'.cell? ⟨g, 16, none⟩ = some (.int .i64 1) ∧ W'.cell? ⟨g, 17, none⟩ = some (.string ⟨#[79]⟩) ∧ W'.cell? ⟨g, 18, none⟩ = some (.int .i64 1)) ∧ Fr (fun j => ¬ D j) Y W'
theorem wkTo_of {D : Nat → Prop} {Y W' : World} {T : TB} {e : Ending} (h : DoTo D Y T ((wkQ, wkM, 0), wkN) e W') : WkTo D Y e W' := by
 obtain ⟨A, c, A', c', D', rfl, hq, hm, _, _, _, _, hF⟩ := h
 rcases ownsRow_form hq with ⟨_, h0, _⟩ | ⟨g, cap, hv, g1, g2, hr, _, hc⟩
 · cases h0
 rcases ownsRow_form hm with ⟨_, h0, _⟩ | ⟨g', cap', hv', g1', g2', _, _, _⟩
 · cases h0
 injection hv with v1 _ v3
 injection hv' with u1 _ u3
 subst v1; subst v3; subst u1; subst u3
 exact ⟨g, c, g', c', rfl, hr.lt, ⟨g1, g2, g1', g2'⟩, ⟨hc 6 _ rfl, hc 7 _ rfl, hc 8 _ rfl⟩, ⟨hc 16 _ rfl, hc 17 _ rfl, hc 18 _ rfl⟩, hF⟩
set_option maxRecDepth 100000 in
set_option maxHeartbeats 8000000 in
theorem wakes15_is (w : World) : Calls Tryz.prog 10 #[] w fun e w' => e = .returned (.bool true) ∧ Below w.heap.size w w' := by
 have HB := Lib.hid (Below.refl w.heap.size w)
 go_enter Tryz.func10, Tryz.ntmps10
 go_wp2_with fail
 with_reducible refine (wN9_is 1 _).mono ?_
 rintro e w2 ⟨rfl, hb⟩
 have hbs := Below.trans (show Below w.heap.size w _ from (by (repeat (first | exact Below.refl _ _ | refine Below.drew ?_ | refine Below.al ?_ _ | refine Below.sc ?_ _)))) (hb.mono (by simp <;> omega))
 have HB := Lib.hid (HB.out.trans (hbs.mono HB.out.size))
 have hsz2 := hbs.size
 clear  hb hbs
 go_wp2_with fail
 with_reducible refine (wN9_is 4 _).mono ?_
 rintro e w3 ⟨rfl, hb⟩
 have hbs := Below.trans (show Below w2.heap.size w2 _ from (by (repeat (first | exact Below.refl _ _ | refine Below.drew ?_ | refine Below.al ?_ _ | refine Below.sc ?_ _)))) (hb.mono (by simp <;> omega))
 have HB := Lib.hid (HB.out.trans (hbs.mono HB.out.size))
 have hsz3 := hbs.size
 clear  hb hbs
 have HV := Lib.hid (show ∀ (Y : World) (A : Option Addr), RowR repBindT (fun _ => True) Y A 1 [wkB] → Calls Tryz.prog 11 #[.agg #[.int .i64 1, .string ⟨#[120]⟩, .int .i64 0, .string ⟨#[]⟩, .int .i64 0, .string ⟨#[]⟩, .int .i64 2, .string ⟨#[]⟩, .int .i64 1], .slice A 1 1] Y (SymTo Y (⟨2, ⟨#[]⟩, 5⟩, true)) from fun Y A h => by have := value_is wkT [wkB] Y h; rw [wk_value] at this; exact this)
 go_wp2_with fail
 have hrb := row_one (r := repBindT) (D := fun _ => True) (a := wkB) (cs := [.string ⟨#[120]⟩, .int .i64 2, .string ⟨#[]⟩, .int .i64 4]) (Blk.new w3 36 #[.string ⟨#[120]⟩, .int .i64 2, .string ⟨#[]⟩, .int .i64 4]) trivial rfl
 with_reducible refine (HV.out _ _ hrb).mono ?_
 rintro e w4 ⟨rfl, hb⟩
 have hbs := Below.trans (show Below w3.heap.size w3 _ from (by (repeat (first | exact Below.refl _ _ | refine Below.drew ?_ | refine Below.al ?_ _ | refine Below.sc ?_ _)))) (hb.mono (by simp <;> omega))
 have HB := Lib.hid (HB.out.trans (hbs.mono HB.out.size))
 have hsz4 := hbs.size
 clear  hb hbs
 go_wp2_with fail
 with_reducible refine (one_is6 _).mono ?_
 rintro e w5 ⟨Ac, Aa, rfl, hrc, _, hb⟩
 have hbs := Below.trans (show Below w4.heap.size w4 _ from (by (repeat (first | exact Below.refl _ _ | refine Below.drew ?_ | refine Below.al ?_ _ | refine Below.sc ?_ _)))) (hb.mono (by simp <;> omega))
 have Kv := Lib.hid (show Blk w5 (w4.heap.size) 23 #[.int .i64 2, .string ⟨#[]⟩, .int .i64 5] from (Blk.new _ _ _).new_ hb)
 have HB := Lib.hid (HB.out.trans (hbs.mono HB.out.size))
 have hsz5 := hbs.size
 clear  hb hbs
 obtain ⟨v0, v1, v2⟩ := Kv.out.c3
 have vz := Kv.out.lt
 have HRC := Lib.hid (hrc.weaken (D' := fun _ => True) (fun _ _ => trivial))
 have hrcd := hrc
 clear hrc
 have hs0 := HB.out.size
 have HRD := Lib.hid (show RowR (repCondT 1) (· < w5.heap.size) w5 Ac 1 [oneCond] from hrcd.weaken (fun k hk => hk.2))
 clear hrcd
 go_wp2_with fail
 with_reducible refine (wW9_is ⟨#[97]⟩ _).mono ?_
 rintro e w6 ⟨rfl, hb⟩
 have hbs := Below.trans (show Below w5.heap.size w5 _ from (by (repeat (first | exact Below.refl _ _ | refine Below.drew ?_ | refine Below.al ?_ _ | refine Below.sc ?_ _)))) (hb.mono (by simp <;> omega))
 have Kv := Lib.hid (Kv.out.new_ hbs)
 have HRD := Lib.hid (HRD.out.new_ hbs)
 have Kp := Lib.hid (show Blk w6 (w5.heap.size) 42 #[.string ⟨#[97]⟩, .slice Ac 1 1, .slice Aa 1 1] from (Blk.new _ _ _).new_ hb)
 have HB := Lib.hid (HB.out.trans (hbs.mono HB.out.size))
 have hsz6 := hbs.size
 clear v0 v1 v2 vz hb hbs
 obtain ⟨v0, v1, v2⟩ := Kv.out.c3
 have vz := Kv.out.lt
 obtain ⟨p0, p1, p2⟩ := Kp.out.c3
 have pf0 := Kp.out.frozen 0
 have pf1 := Kp.out.frozen 1
 have pf2 := Kp.out.frozen 2
 have pz := Kp.out.lt
 go_wp2_with fail
 with_reducible refine (wW9_is ⟨#[98]⟩ _).mono ?_
 rintro e w7 ⟨rfl, hb⟩
 have hbs := Below.trans (show Below w6.heap.size w6 _ from (by (repeat (first | exact Below.refl _ _ | refine Below.drew ?_ | refine Below.al ?_ _ | refine Below.sc ?_ _)))) (hb.mono (by simp <;> omega))
 have Kv := Lib.hid (Kv.out.new_ hbs)
 have Kp := Lib.hid (Kp.out.new_ hbs)
 have HRD := Lib.hid (HRD.out.new_ hbs)
 have HB := Lib.hid (HB.out.trans (hbs.mono HB.out.size))
 have hsz7 := hbs.size
 clear v0 v1 v2 vz p0 p1 p2 pf0 pf1 pf2 pz hb hbs
 obtain ⟨v0, v1, v2⟩ := Kv.out.c3
 have vz := Kv.out.lt
 obtain ⟨p0, p1, p2⟩ := Kp.out.c3
 have pf0 := Kp.out.frozen 0
 have pf1 := Kp.out.frozen 1
 have pf2 := Kp.out.frozen 2
 have pz := Kp.out.lt
 go_wp2_with fail
 with_reducible refine (wN9_is 1 _).mono ?_
 rintro e w8 ⟨rfl, hb⟩
 have hbs := Below.trans (show Below w7.heap.size w7 _ from (by (repeat (first | exact Below.refl _ _ | refine Below.drew ?_ | refine Below.al ?_ _ | refine Below.sc ?_ _)))) (hb.mono (by simp <;> omega))
 have Kv := Lib.hid (Kv.out.new_ hbs)
 have Kp := Lib.hid (Kp.out.new_ hbs)
 have HRD := Lib.hid (HRD.out.new_ hbs)
 have HB := Lib.hid (HB.out.trans (hbs.mono HB.out.size))
 have hsz8 := hbs.size
 clear v0 v1 v2 vz p0 p1 p2 pf0 pf1 pf2 pz hb hbs
 obtain ⟨v0, v1, v2⟩ := Kv.out.c3
 have vz := Kv.out.lt
 obtain ⟨p0, p1, p2⟩ := Kp.out.c3
 have pf0 := Kp.out.frozen 0
 have pf1 := Kp.out.frozen 1
 have pf2 := Kp.out.frozen 2
 have pz := Kp.out.lt
 go_wp2_with fail
 obtain ⟨X, hX⟩ : ∃ X, X = w8.setCell ⟨w5.heap.size, 2, none⟩ (.slice (some ⟨w8.heap.size, 0, none⟩) 2 2) := ⟨_, rfl⟩
 rw [← hX]
 have hFX : Fr (· = w5.heap.size) w8 X := by rw [hX]; exact (Fr.refl (· = w5.heap.size) w8).setCell (p := ⟨w5.heap.size, 2, none⟩) (.inl rfl) _
 have hsX : X.heap.size = w8.heap.size := by rw [hX]; simp
 have KpX : Blk X w5.heap.size 42 #[.string ⟨#[97]⟩, .slice Ac 1 1, .slice (some ⟨w8.heap.size, 0, none⟩) 2 2] := by rw [hX]; simpa using (Kp.out.set_ 2 (.slice (some ⟨w8.heap.size, 0, none⟩) 2 2))
 have KvX := Kv.out.fr hFX (Kv.out.ne_ Kp.out (by decide))
 obtain ⟨Z, hZ⟩ : ∃ Z, Z = X.alloc (.cells #[.string ⟨#[115]⟩, .string ⟨#[]⟩, .int .i64 3, .string ⟨#[97]⟩, .int .i64 0, .int .i64 0, .string ⟨#[111]⟩, .int .i64 0, .string ⟨#[]⟩, .int .i64 0, .string ⟨#[]⟩, .int .i64 0, .string ⟨#[]⟩, .int .i64 0, .int .i64 1, .string ⟨#[]⟩, .int .i64 0, .string ⟨#[]⟩, .int .i64 0, .string ⟨#[111]⟩, .string ⟨#[]⟩, .int .i64 3, .string ⟨#[98]⟩, .int .i64 0, .int .i64 0, .string ⟨#[]⟩, .int .i64 2, .string ⟨#[]⟩, .int .i64 1, .string ⟨#[]⟩, .int .i64 0, .string ⟨#[]⟩, .int .i64 0, .int .i64 1, .string ⟨#[]⟩, .int .i64 0, .string ⟨#[]⟩, .int .i64 0] 65) := ⟨_, rfl⟩
 rw [← hZ]
 have hbZX : Below X.heap.size X Z := by rw [hZ]; exact (Below.refl _ _).alloc (Nat.le_refl _) _
 have ga : Blk Z w8.heap.size 65 #[.string ⟨#[115]⟩, .string ⟨#[]⟩, .int .i64 3, .string ⟨#[97]⟩, .int .i64 0, .int .i64 0, .string ⟨#[111]⟩, .int .i64 0, .string ⟨#[]⟩, .int .i64 0, .string ⟨#[]⟩, .int .i64 0, .string ⟨#[]⟩, .int .i64 0, .int .i64 1, .string ⟨#[]⟩, .int .i64 0, .string ⟨#[]⟩, .int .i64 0, .string ⟨#[111]⟩, .string ⟨#[]⟩, .int .i64 3, .string ⟨#[98]⟩, .int .i64 0, .int .i64 0, .string ⟨#[]⟩, .int .i64 2, .string ⟨#[]⟩, .int .i64 1, .string ⟨#[]⟩, .int .i64 0, .string ⟨#[]⟩, .int .i64 0, .int .i64 1, .string ⟨#[]⟩, .int .i64 0, .string ⟨#[]⟩, .int .i64 0] := by rw [hZ, ← hsX]; exact Blk.new _ _ _
 have hzw := HB.out.size
 have hpw : w.heap.size ≤ w5.heap.size := hs0
 have HBZ := Lib.hid ((HB.out.trans (hFX.below hzw (fun k hk hn => by omega))).trans (hbZX.mono (by omega)))
 have hzX := hbZX.size
 have hlX := ga.lt
 have HRA := Lib.hid (show RowR repActT (· < Z.heap.size) Z (some ⟨w8.heap.size, 0, none⟩) 2 [wkA, wkC] from row_two (cs := [.string ⟨#[115]⟩, .string ⟨#[]⟩, .int .i64 3, .string ⟨#[97]⟩, .int .i64 0, .int .i64 0, .string ⟨#[111]⟩, .int .i64 0, .string ⟨#[]⟩, .int .i64 0, .string ⟨#[]⟩, .int .i64 0, .string ⟨#[]⟩, .int .i64 0, .int .i64 1, .string ⟨#[]⟩, .int .i64 0, .string ⟨#[]⟩, .int .i64 0]) (ds := [.string ⟨#[111]⟩, .string ⟨#[]⟩, .int .i64 3, .string ⟨#[98]⟩, .int .i64 0, .int .i64 0, .string ⟨#[]⟩, .int .i64 2, .string ⟨#[]⟩, .int .i64 1, .string ⟨#[]⟩, .int .i64 0, .string ⟨#[]⟩, .int .i64 0, .int .i64 1, .string ⟨#[]⟩, .int .i64 0, .string ⟨#[]⟩, .int .i64 0]) ga hlX rfl rfl)
 have hpz := KpX.lt
 have HRC := Lib.hid (show RowR (repCondT 1) (· < Z.heap.size) Z Ac 1 [oneCond] from ((HRD.out.fr hFX (fun k hk hn => by omega)).new_ hbZX).weaken (fun k hk => by omega))
 have Kp := Lib.hid (KpX.new_ hbZX)
 have Kv := Lib.hid (KvX.new_ hbZX)
 have ps8 : w5.heap.size < Z.heap.size := by omega
 have HBZ0 := Lib.hid (show w.heap.size ≤ Z.heap.size by omega)
 clear hX hFX hZ hbZX KpX KvX ga HB
 have HB := Lib.hid HBZ.out
 clear HBZ
 clear v0 v1 v2 vz p0 p1 p2 pf0 pf1 pf2 pz HRD
 obtain ⟨v0, v1, v2⟩ := Kv.out.c3
 have vz := Kv.out.lt
 obtain ⟨p0, p1, p2⟩ := Kp.out.c3
 have pz := Kp.out.lt
 with_reducible refine (gt_new 20 Z (by decide) (by decide)).mono ?_
 rintro e w21 ⟨T, rfl, hroom, hgt, hb⟩
 have hbs := Below.trans (show Below Z.heap.size Z _ from (by (repeat (first | exact Below.refl _ _ | refine Below.drew ?_ | refine Below.al ?_ _ | refine Below.sc ?_ _)))) (hb.mono (by simp <;> omega))
 have Kv := Lib.hid (Kv.out.new_ hbs)
 have Kp := Lib.hid (Kp.out.new_ hbs)
 have HRC := Lib.hid (HRC.out.new_ hbs)
 have HRA := Lib.hid (HRA.out.new_ hbs)
 have HB := Lib.hid (HB.out.trans (hbs.mono HB.out.size))
 have hsz21 := hbs.size
 clear v0 v1 v2 vz p0 p1 p2 pz hb hbs
 obtain ⟨v0, v1, v2⟩ := Kv.out.c3
 have vz := Kv.out.lt
 obtain ⟨p0, p1, p2⟩ := Kp.out.c3
 have pz := Kp.out.lt
 have HT := Lib.hid hgt
 have HROOM := Lib.hid hroom
 clear hgt hroom
 go_upto_region 7 with fail
 have HDO := Lib.hid (show ∀ (D : Nat → Prop) (Y : World) (Al : Option Addr), GT D Y T [] → RowR (repCondT 1) D Y Ac 1 [oneCond] → RowR repActT D Y (some ⟨w8.heap.size, 0, none⟩) 2 [wkA, wkC] → RowR repBindT D Y Al 1 [wkL] →
  Calls Tryz.prog 25 #[.agg #[.string ⟨#[97]⟩, .slice Ac 1 1, .slice (some ⟨w8.heap.size, 0, none⟩) 2 2], .slice Al 1 1, .pointer (some ⟨T.b, 0, none⟩)] Y (WkTo D Y) from fun D Y Al g1 g2 g3 g4 => by
  have := do_is (D := D) 1 wkP [wkL] Ac (some ⟨w8.heap.size, 0, none⟩) Al 1 2 1 Y T [] g1 g2 g3 g4 (by decide) (by decide) (by decide)
  rw [HROOM.out, wk_do] at this
  exact this.mono (fun _ _ h => wkTo_of h))
 refine wp_region_E (fun w9 => Below w21.heap.size w21 w9) [(0, 1), (4, 0), (1, 2), (2, 0), (3, 2), (5, 2), (6, 0), (7, 0), (8, 0), (9, 0), (10, 0), (11, 0), (12, 0)] (by kernel_rfl) (by kernel_rfl) (fun KK hKK => ?_)
 simp only [beside, List.filterMap_cons, List.filterMap_nil, List.getElem?_toArray, List.getElem?_cons_zero, List.getElem?_cons_succ, Option.map_some]
 repeat ((first | (refine wpX_w ?_ (Or.inl ⟨by rfl, fun w9 => ?_⟩) ?_; rotate_left 1; go_simp; with_reducible rfl) | (refine wpX_l ?_ ((Below.refl _ _).drew) (Or.inl ⟨by rfl, fun w9 hw9 => ?_⟩) ?_; rotate_left 1; have q0 := (hw9.cell (p := ⟨w5.heap.size, 0, none⟩) pz).trans p0; have q1 := (hw9.cell (p := ⟨w5.heap.size, 1, none⟩) pz).trans p1; have q2 := (hw9.cell (p := ⟨w5.heap.size, 2, none⟩) pz).trans p2; go_simp; with_reducible rfl) | refine wpX_w undef (Or.inr ⟨by rfl, rfl⟩) ?_ | refine wpX_l undef ((Below.refl _ _).drew) (Or.inr ⟨by rfl, rfl⟩) ?_); go_frame)
 refine wpX_es (fun K9 hK9 => ?_)
 go_simp
 refine (wI9_is _ _ _).mono ?_
 rintro e w22 ⟨rfl, hb22⟩
 have HB22 := Lib.hid ((Below.refl w21.heap.size w21).drew.trans (hb22.mono (by simp)))
 clear hb22
 refine hK9 _ _ HB22.out ?_
 clear hK9 K9
 repeat ((first | (refine wpX_w ?_ (Or.inl ⟨by rfl, fun w9 => ?_⟩) ?_; rotate_left 1; go_simp; with_reducible rfl) | (refine wpX_l ?_ (HB22.out) (Or.inl ⟨by rfl, fun w9 hw9 => ?_⟩) ?_; rotate_left 1; have q0 := (hw9.cell (p := ⟨w5.heap.size, 0, none⟩) pz).trans p0; have q1 := (hw9.cell (p := ⟨w5.heap.size, 1, none⟩) pz).trans p1; have q2 := (hw9.cell (p := ⟨w5.heap.size, 2, none⟩) pz).trans p2; go_simp; with_reducible rfl) | refine wpX_w undef (Or.inr ⟨by rfl, rfl⟩) ?_ | refine wpX_l undef (HB22.out) (Or.inr ⟨by rfl, rfl⟩) ?_); go_frame)
 refine wpX_es (fun K9 hK9 => ?_)
 go_simp
 have HB23 := Lib.hid (show Below w21.heap.size w21 (w22.alloc (.cells #[.string ⟨#[115]⟩, .int .i64 1, .string ⟨#[83]⟩, .int .i64 1] 36)) from HB22.out.alloc HB22.out.size _)
 refine hK9 _ _ HB23.out ?_
 clear hK9 K9
 refine wpX_e (by kernel_rfl) (fun K9 hK9 => ?_)
 go_simp
 have HPL := Lib.hid (HT.out.plus HB23.out)
 have hb22 : Below w22.heap.size w22 (w22.alloc (.cells #[.string ⟨#[115]⟩, .int .i64 1, .string ⟨#[83]⟩, .int .i64 1] 36)) := (Below.refl _ _).alloc (Nat.le_refl _) _
 refine (HDO.out (Plus (· < Z.heap.size) w21 (w22.alloc (.cells #[.string ⟨#[115]⟩, .int .i64 1, .string ⟨#[83]⟩, .int .i64 1] 36))) (w22.alloc (.cells #[.string ⟨#[115]⟩, .int .i64 1, .string ⟨#[83]⟩, .int .i64 1] 36)) (some ⟨w22.heap.size, 0, none⟩) HPL.out ((HRC.out.new_ HB23.out).weaken (fun k hk => .inl hk)) ((HRA.out.new_ HB23.out).weaken (fun k hk => .inl hk)) (row_one (cs := [.string ⟨#[115]⟩, .int .i64 1, .string ⟨#[83]⟩, .int .i64 1]) (Blk.new _ _ _) (.inr ⟨HB22.out.size, by simp⟩) rfl)).mono ?_
 rintro e w24 ⟨g, c, g', c', rfl, hgl, ⟨hc1, hc2, hc3, hc4⟩, ⟨g6, g7, g8⟩, ⟨g16, g17, g18⟩, hF⟩
 have HB24 := Lib.hid (show Below w.heap.size w w24 from (HB.out.trans (HB23.out.mono HB.out.size)).trans (hF.below (by have := HB23.out.size; have := HB.out.size; omega) (fun k hk hn => hn (.inl (by have := HBZ0.out; omega)))))
 clear hF hb22
 refine hK9 _ _ ?_
 clear hK9 K9
 repeat ((first | (refine wpX_w ?_ (Or.inl ⟨by rfl, fun w9 => ?_⟩) ?_; rotate_left 1; go_simp; with_reducible rfl) | (refine wpX_l ?_ (HB23.out) (Or.inl ⟨by rfl, fun w9 hw9 => ?_⟩) ?_; rotate_left 1; have q0 := (hw9.cell (p := ⟨w5.heap.size, 0, none⟩) pz).trans p0; have q1 := (hw9.cell (p := ⟨w5.heap.size, 1, none⟩) pz).trans p1; have q2 := (hw9.cell (p := ⟨w5.heap.size, 2, none⟩) pz).trans p2; go_simp; with_reducible rfl) | refine wpX_w undef (Or.inr ⟨by rfl, rfl⟩) ?_ | refine wpX_l undef (HB23.out) (Or.inr ⟨by rfl, rfl⟩) ?_); go_frame)
 refine wpX_nil ?_
 simp only [OnlyN_normal]
 refine hKK _ _ ?_
 clear hKK KK
 go_upto_region 8 with fail
 refine wp_region_E (fun w9 => Below w24.heap.size w24 w9) [(0, 0), (1, 0), (2, 0), (3, 0), (4, 0), (5, 0), (6, 0), (7, 0), (8, 0), (9, 0), (10, 0), (11, 0), (12, 0), (13, 0), (14, 0), (15, 0), (16, 1), (17, 2), (18, 0), (19, 0), (20, 0), (21, 0), (22, 0), (23, 0), (24, 1), (25, 0), (26, 0), (27, 0), (28, 1), (29, 0), (30, 0), (31, 0)] (by kernel_rfl) (by kernel_rfl) (fun KK hKK => ?_)
 simp only [beside, List.filterMap_cons, List.filterMap_nil, List.getElem?_toArray, List.getElem?_cons_zero, List.getElem?_cons_succ, Option.map_some]
 repeat ((first | (refine wpX_w ?_ (Or.inl ⟨by rfl, fun w9 => ?_⟩) ?_; rotate_left 1; go_simp; with_reducible rfl) | (refine wpX_l ?_ ((Below.refl _ _).drew) (Or.inl ⟨by rfl, fun w9 hw9 => ?_⟩) ?_; rotate_left 1; have q6 := (hw9.cell (p := ⟨g, 6, none⟩) hgl).trans g6; have q7 := (hw9.cell (p := ⟨g, 7, none⟩) hgl).trans g7; have q8 := (hw9.cell (p := ⟨g, 8, none⟩) hgl).trans g8; have q16 := (hw9.cell (p := ⟨g, 16, none⟩) hgl).trans g16; have q17 := (hw9.cell (p := ⟨g, 17, none⟩) hgl).trans g17; have q18 := (hw9.cell (p := ⟨g, 18, none⟩) hgl).trans g18; go_simp; with_reducible rfl) | refine wpX_w undef (Or.inr ⟨by rfl, rfl⟩) ?_ | refine wpX_l undef ((Below.refl _ _).drew) (Or.inr ⟨by rfl, rfl⟩) ?_); go_frame)
 refine wpX_es (fun K9 hK9 => ?_)
 go_simp
 refine (wI9_is _ _ _).mono ?_
 rintro e w25 ⟨rfl, hb25⟩
 have HB25 := Lib.hid ((Below.refl w24.heap.size w24).drew.trans (hb25.mono (by simp)))
 clear hb25
 refine hK9 _ _ HB25.out ?_
 clear hK9 K9
 repeat ((first | (refine wpX_w ?_ (Or.inl ⟨by rfl, fun w9 => ?_⟩) ?_; rotate_left 1; go_simp; with_reducible rfl) | (refine wpX_l ?_ (HB25.out) (Or.inl ⟨by rfl, fun w9 hw9 => ?_⟩) ?_; rotate_left 1; have q6 := (hw9.cell (p := ⟨g, 6, none⟩) hgl).trans g6; have q7 := (hw9.cell (p := ⟨g, 7, none⟩) hgl).trans g7; have q8 := (hw9.cell (p := ⟨g, 8, none⟩) hgl).trans g8; have q16 := (hw9.cell (p := ⟨g, 16, none⟩) hgl).trans g16; have q17 := (hw9.cell (p := ⟨g, 17, none⟩) hgl).trans g17; have q18 := (hw9.cell (p := ⟨g, 18, none⟩) hgl).trans g18; go_simp; with_reducible rfl) | refine wpX_w undef (Or.inr ⟨by rfl, rfl⟩) ?_ | refine wpX_l undef (HB25.out) (Or.inr ⟨by rfl, rfl⟩) ?_); go_frame)
 refine wpX_nil ?_
 simp only [OnlyN_normal]
 refine hKK _ _ ?_
 clear hKK KK
 go_wp2_with fail
 go_ret
 exact ⟨rfl, HB24.out.trans (HB25.out.mono HB24.out.size)⟩
end Go.Proofs.YtpndmjabjjbefaaGreat
namespace Go.Proofs.YtpndmjabjjbefaaGreat
open Go.RowKit Go.Shelf
def leftCond : CondT := .mk 1 true ⟨#[115]⟩ [⟨1, ⟨#[]⟩, ⟨3, ⟨#[120]⟩, 0⟩, []⟩] [⟨1, ⟨#[110]⟩, zS, []⟩] false []
abbrev LeftZ := Bool × Nat × Nat
def leftId (b : Bool) : ByteArray := if b = true then ⟨#[115]⟩ else ⟨#[110]⟩
def leftA (z : LeftZ) : ActT := ⟨leftId z.1, ⟨⟨#[]⟩, ⟨2, ⟨#[]⟩, z.2.1⟩⟩, ⟨1, ⟨⟨#[110]⟩, zS⟩, ⟨⟨#[]⟩, ⟨2, ⟨#[]⟩, z.2.2⟩⟩⟩, 1, ⟨⟨#[]⟩, zS⟩⟩
def leftP (zs : List LeftZ) : ProdT := ⟨⟨#[97]⟩, [leftCond], zs.map leftA⟩
def leftL : List BindT := [⟨⟨#[115]⟩, ⟨1, ⟨#[83]⟩, 1⟩⟩, ⟨⟨#[110]⟩, ⟨2, ⟨#[]⟩, 2147483642⟩⟩]
def leftV (z : LeftZ) : PrefT := ⟨⟨1, ⟨#[83]⟩, 1⟩, ⟨2, ⟨#[]⟩, z.2.1⟩, ⟨2, ⟨#[]⟩, 2147483642 + z.2.2⟩, zS, 1, false, 0, 0⟩
def leftB (z : LeftZ) : Bool := z.1 && decide (z.2.2 ≤ 5)
def leftK : Kn := ([⟨#[110]⟩, ⟨#[115]⟩], [⟨#[115]⟩, ⟨#[110]⟩])
theorem left_const {i : Nat} (h : i ≤ 1000) : constB ⟨2, ⟨#[]⟩, i⟩ = true := by
 simp [constB, validB]; omega
theorem left_atom {i : Nat} (h : i ≤ 1000) : atomB ⟨⟨#[]⟩, ⟨2, ⟨#[]⟩, i⟩⟩ = true := by
 unfold atomB
 rw [if_pos (by kernel_rfl)]
 exact left_const h
theorem left_actB {z : LeftZ} (h1 : z.2.1 ≤ 1000) (h2 : z.2.2 ≤ 1000) : actB (leftA z) = true := by
 obtain ⟨b, i, k⟩ := z
 have e1 : isWord (leftId b) = true := by cases b <;> kernel_rfl
 have e2 : atomB ⟨⟨#[110]⟩, zS⟩ = true := by kernel_rfl
 have e3 : emptyB ⟨⟨#[]⟩, zS⟩ = true := by kernel_rfl
 have e4 : termB (leftA (b, i, k)).value = true := by
  unfold termB leftA
  dsimp only
  rw [e2, if_neg (by simp), if_neg (by decide), left_atom h2]
  simp [wordAB]
 unfold actB
 rw [if_neg (by
  simp only [leftA] at *
  rw [e1, e4, left_atom h1]
  simp)]
 rw [if_neg (by simp [leftA, otherB])]
 exact e3
theorem left_actV {z : LeftZ} : actV leftK (leftA z) = false := by
 have e : hasK leftK ⟨#[110]⟩ = true := by kernel_rfl
 obtain ⟨b, i, k⟩ := z
 simp [actV, leftA, lacksB, e]
theorem left_shape {zs : List LeftZ} (h1 : 1 ≤ zs.length) (h2 : zs.length ≤ 16) (hz : ∀ z ∈ zs, z.2.1 ≤ 1000 ∧ z.2.2 ≤ 1000) : (shapeP 1 (leftP zs)).2 = 0 := by
 have e1 : isWord (leftP zs).name = true := by kernel_rfl
 have e2 : flatC 1 0 (leftP zs).conds = [(0, leftCond)] := by kernel_rfl
 have e3 : ([(0, leftCond)] : List (Nat × CondT)).findIdx? (fun c => decide (condE c.2 c.1 ≠ 0)) = none := by kernel_rfl
 have e4 : (leftP zs).acts.findIdx? (fun a => !actB a) = none := by
  rw [List.findIdx?_eq_none_iff]
  intro a ha
  obtain ⟨z, hz1, rfl⟩ := List.mem_map.1 ha
  simp [left_actB (hz z hz1).1 (hz z hz1).2]
 have l1 : (leftP zs).acts.length = zs.length := by simp [leftP]
 unfold shapeP
 rw [e1, e2, l1, if_neg (by simp), if_neg (by simp only [List.length_singleton]; omega)]
 simp only [e3, e4]
theorem left_check {zs : List LeftZ} (h1 : 1 ≤ zs.length) (h2 : zs.length ≤ 16) (hz : ∀ z ∈ zs, z.2.1 ≤ 1000 ∧ z.2.2 ≤ 1000) : checkP 1 (leftP zs) = (-1, 0, leftK.2) := by
 refine checkP_one (n := 0) (c := leftCond) (left_shape h1 h2 hz) rfl rfl (by kernel_rfl) ?_
 rw [List.findIdx?_eq_none_iff]
 intro a ha
 obtain ⟨z, _, rfl⟩ := List.mem_map.1 ha
 simp [left_actV]
theorem newsV_none {h : List BindT} : ∀ {vs : List ByteArray}, (∀ v ∈ vs, (getB h v).2 = true ∨ v.toList = []) → newsV h vs = []
 | [], _ => newsV_nil h
 | v :: vs, hv => by
   rw [newsV_skip (hv v List.mem_cons_self)]
   exact newsV_none (fun x hx => hv x (List.mem_cons_of_mem _ hx))
theorem left_news (zs : List LeftZ) : doNews leftL (zs.map leftA) = [] := by
 refine newsV_none fun v hv => ?_
 obtain ⟨a, ha, hva⟩ := List.mem_flatMap.1 hv
 obtain ⟨⟨b, i, k⟩, _, rfl⟩ := List.mem_map.1 ha
 simp only [needsA, leftA, List.mem_cons, List.not_mem_nil, or_false] at hva
 rcases hva with rfl | rfl | rfl
 · left; cases b <;> kernel_rfl
 · right; kernel_rfl
 · right; kernel_rfl
theorem left_value {b : Bool} {i k : Nat} (h : k ≤ 10) : valueV (leftA (b, i, k)).value leftL = if k ≤ 5 then (⟨2, ⟨#[]⟩, 2147483642 + k⟩, true) else (zS, false) := by
 have e1 : atomV (leftA (b, i, k)).value.a leftL = (⟨2, ⟨#[]⟩, 2147483642⟩, true) := by kernel_rfl
 have e2 : atomV (leftA (b, i, k)).value.b leftL = (⟨2, ⟨#[]⟩, k⟩, true) := by kernel_rfl
 have n1 : numB2 ⟨2, ⟨#[]⟩, 2147483642⟩ = true := by kernel_rfl
 have n2 : numB2 ⟨2, ⟨#[]⟩, (k : Int)⟩ = true := by simp [numB2, validB]; omega
 unfold valueV
 rw [e1, e2, if_neg (by simp), if_neg (by simp [leftA]), if_neg (by simp [n1, n2]), if_pos (by simp [leftA])]
 by_cases h5 : k ≤ 5
 · rw [if_pos h5, numR_yes (by simp; omega)]
 · rw [if_neg h5, numR_no (by simp; omega)]
theorem left_pref {z : LeftZ} (h1 : z.2.1 ≤ 1000) (h : z.2.2 ≤ 10) : prefA leftL (leftA z) = if leftB z = true then some (leftV z) else none := by
 obtain ⟨b, i, k⟩ := z
 unfold prefA
 rw [left_value h]
 have ea : (atomV (leftA (b, i, k)).attr leftL).1 = ⟨2, ⟨#[]⟩, i⟩ := by kernel_rfl
 have ei : (getB leftL (leftA (b, i, k)).id).1 = if b = true then ⟨1, ⟨#[83]⟩, 1⟩ else ⟨2, ⟨#[]⟩, 2147483642⟩ := by cases b <;> kernel_rfl
 rw [ea, ei]
 have hi : validB ⟨2, ⟨#[]⟩, (i : Int)⟩ = true := by simp [validB]; simp at h1; omega
 by_cases h5 : k ≤ 5
 · rw [if_pos h5]
   have hk : validB ⟨2, ⟨#[]⟩, 2147483642 + (k : Int)⟩ = true := by simp [validB]; omega
   cases b
   · rw [if_pos (by right; simp [rightB])]
     simp [leftB]
   · have hr : rightB ⟨1, ⟨#[83]⟩, 1⟩ ⟨2, ⟨#[]⟩, i⟩ ⟨2, ⟨#[]⟩, 2147483642 + k⟩ = true := by
      have e1 : validB ⟨1, ⟨#[83]⟩, 1⟩ = true := by kernel_rfl
      simp [rightB, e1, hi, hk]
     simp only [if_true]
     rw [if_neg (by simp [hr]), if_neg (by simp [leftA, otherB])]
     simp [leftB, h5, leftV, leftA]
 · rw [if_neg h5, if_pos (by simp)]
   simp [leftB, h5]
theorem left_put {z : LeftZ} (h1 : z.2.1 ≤ 1000) (h : z.2.2 ≤ 10) : putA leftL (leftA z) = if leftB z = true then [(leftV z).id, (leftV z).attr, (leftV z).value] else [] := by
 unfold putA
 rw [left_pref h1 h]
 by_cases hb : leftB z = true
 · rw [if_pos hb, if_pos hb]
   rfl
 · rw [if_neg hb, if_neg hb]
theorem left_code {zs : List LeftZ} (h2 : zs.length ≤ 16) (hz : ∀ z ∈ zs, z.2.1 ≤ 1000 ∧ z.2.2 ≤ 10) : putCode 100 [] ((zs.map leftA).flatMap (putA leftL)) = 0 := by
 have h3 : ((zs.map leftA).flatMap (putA leftL)).length ≤ 3 * zs.length ∧ ∀ s ∈ (zs.map leftA).flatMap (putA leftL), validB s = true := by
  clear h2
  induction zs with
  | nil => exact ⟨by simp, by simp⟩
  | cons z zs ih =>
    obtain ⟨i1, i2⟩ := ih (fun x hx => hz x (List.mem_cons_of_mem _ hx))
    have hzz := hz z List.mem_cons_self
    rw [List.map_cons, List.flatMap_cons, left_put hzz.1 hzz.2]
    by_cases hb : leftB z = true
    · rw [if_pos hb]
      refine ⟨by simp at i1 ⊢; omega, fun s hs => ?_⟩
      rcases List.mem_append.1 hs with hs | hs
      · obtain ⟨b, i, k⟩ := z
        simp only [leftV, List.mem_cons, List.not_mem_nil, or_false] at hs
        simp only [leftB, Bool.and_eq_true, decide_eq_true_eq] at hb
        simp only at hzz
        rcases hs with rfl | rfl | rfl
        · kernel_rfl
        · simp [validB]; omega
        · simp [validB]; omega
      · exact i2 s hs
    · rw [if_neg hb]
      exact ⟨by simp at i1 ⊢; omega, i2⟩
 have h4 := length_puts_le tc_sym ((zs.map leftA).flatMap (putA leftL)) (Srt.nil (cmp := cmpSym))
 have h5 := h3.1
 rw [List.length_nil, Nat.zero_add] at h4
 unfold putCode
 rw [if_pos (List.all_eq_true.2 h3.2), if_neg (by omega)]
theorem left_do {zs : List LeftZ} (h1 : 1 ≤ zs.length) (h2 : zs.length ≤ 16) (hz : ∀ z ∈ zs, z.2.1 ≤ 1000 ∧ z.2.2 ≤ 10) : ∃ L, doR 1 (leftP zs) leftL 100 [] = (((zs.filter leftB).map leftV, leftL, 0), L) := by
 have hz2 : ∀ z ∈ zs, z.2.1 ≤ 1000 ∧ z.2.2 ≤ 1000 := fun z h => ⟨(hz z h).1, by have := (hz z h).2; omega⟩
 have eb : doBinds 100 leftL (zs.map leftA) [] = (leftL, []) := by unfold doBinds; rw [left_news]; rfl
 have ep : (zs.map leftA).filterMap (prefA leftL) = (zs.filter leftB).map leftV := by
  clear h1 h2 hz2 eb
  induction zs with
  | nil => rfl
  | cons z zs ih =>
    have hzz := hz z List.mem_cons_self
    rw [List.map_cons, List.filterMap_cons, left_pref hzz.1 hzz.2, ih (fun x hx => hz x (List.mem_cons_of_mem _ hx))]
    by_cases hb : leftB z = true
    · simp [hb]
    · simp [hb]
 unfold doR
 rw [left_check h1 h2 hz2, if_neg (by simp)]
 unfold doV
 have e2 : (leftP zs).acts = zs.map leftA := rfl
 rw [e2, left_news, eb]
 dsimp only
 rw [left_code h2 hz, if_neg (by decide), if_neg (by decide), ep]
 exact ⟨_, rfl⟩
end Go.Proofs.YtpndmjabjjbefaaGreat
namespace Go.Proofs.YtpndmjabjjbefaaGreat
open Go.RowKit Go.Shelf
theorem ext_BindT : ∀ {x y : BindT}, x.var = y.var → x.sym = y.sym → x = y
 | ⟨u0, u1⟩, ⟨v0, v1⟩, h0, h1 => by simp only at *; simp [*]
instance : DecidableEq BindT := fun x y => decidable_of_iff (x.var = y.var ∧ x.sym = y.sym) ⟨fun ⟨h0, h1⟩ => ext_BindT h0 h1, fun h => by subst h; exact ⟨rfl, rfl⟩⟩
theorem neq_BindT (x y : BindT) (W : World) : (binOp .neq 36 (.agg #[.string x.var, .int .i64 x.sym.kind, .string x.sym.text, .int .i64 x.sym.n]) (.agg #[.string y.var, .int .i64 y.sym.kind, .string y.sym.text, .int .i64 y.sym.n])).run Tryz.prog W = .ok (.bool (!decide (x = y))) W := by
 rw [run_neq_struct]
 go_simp
 by_cases h : x = y
 · subst h; simp
 · rw [decide_eq_false h]
   have hs : ∀ a b : Sym, a.kind = b.kind → a.text.toList = b.text.toList → a.n = b.n → a = b := fun a b h1 h2 h3 => Sym.ext' h1 (toList_inj h2) h3
   by_cases e0 : x.var.toList = y.var.toList
   case neg => rw [if_neg e0]; rfl
   rw [if_pos e0]
   by_cases e1 : x.sym.kind = y.sym.kind
   case neg => rw [if_neg e1]; rfl
   rw [if_pos e1]
   by_cases e2 : x.sym.text.toList = y.sym.text.toList
   case neg => rw [if_neg e2]; rfl
   rw [if_pos e2]
   by_cases e3 : x.sym.n = y.sym.n
   case neg => rw [if_neg e3]; rfl
   rw [if_pos e3]
   exact absurd (ext_BindT (toList_inj e0) (hs _ _ e1 e2 e3)) h
set_option maxRecDepth 100000 in
set_option maxHeartbeats 4000000 in
theorem binds_eq {D D' : Nat → Prop} {A B : Option Addr} {c d : Nat} (l m : List BindT) (w : World) (hl : RowR repBindT D w A c l) (hm : RowR repBindT D' w B d m) :
 Calls Tryz.prog 26 #[.slice A l.length c, .slice B m.length d] w fun e w' => e = .returned (.bool (decide (l = m))) ∧ Below w.heap.size w w' := by
 have HL := Lib.hid hl
 have HM := Lib.hid hm
 have hlc := hl.cap
 clear hl hm
 by_cases hlm : l.length = m.length
 · have t1 : ((l.length : Int) != (m.length : Int)) = false := by simp; omega
   have HLM := Lib.hid hlm
   clear hlm
   go_enter Tryz.func26, Tryz.ntmps26
   go_wp2_with fail
   go_loopw [5] (fun s wr => ∃ i : Nat, s = .int .i64 i ∧ i ≤ l.length ∧ (∀ k, (h : k < l.length) → (h' : k < m.length) → k < i → l[k] = m[k]) ∧ Below w.heap.size w wr) (fun s wr => l.length - (intOf s).toNat)
   case atStart => exact ⟨0, rfl, Nat.zero_le _, fun k _ _ h => absurd h (by omega), Below.refl _ _⟩
   case round =>
    obtain ⟨i, rfl, hi, hall, hB⟩ := hrel
    have HALL := Lib.hid hall
    have HB := Lib.hid hB
    clear hall hB
    by_cases hlt : i < l.length
    · have hlt2 : i < m.length := by have := HLM.out; omega
      obtain ⟨x, hx⟩ : ∃ x, x = l[i] := ⟨_, rfl⟩
      obtain ⟨y, hy⟩ : ∃ y, y = m[i] := ⟨_, rfl⟩
      obtain ⟨g, off, rfl, _, hgs, q0, q1, q2, q3⟩ := at_BindT (HL.out.new_ HB.out) hlt
      obtain ⟨g2, off2, rfl, _, hgs2, p0, p1, p2, p3⟩ := at_BindT (HM.out.new_ HB.out) hlt2
      rw [← hx] at q0 q1 q2 q3
      rw [← hy] at p0 p1 p2 p3
      have b1 : (0 : Int) ≤ (i : Int) := by omega
      have b2 : (i : Int) < (l.length : Int) := by omega
      have b3 : (i : Int) < (m.length : Int) := by omega
      have HX := Lib.hid hx
      have HY := Lib.hid hy
      have hbe := fun W => neq_BindT x y W
      clear hx hy
      by_cases he : x = y
      · have HE := Lib.hid he
        have t2 : decide (x = y) = true := by simpa using he
        simp only [t2, Bool.not_true] at hbe
        clear he
        go_wp2_with fail
        go_quiet (fail)
        have HB2 := Lib.hid (Below.drewN' HB.out nq)
        clear q0 q1 q2 q3 p0 p1 p2 p3
        go_wp2_with fail
        go_roundw
        case rel =>
         refine ⟨i + 1, by go_num, by omega, fun k h h' hk => ?_, HB2.out⟩
         rcases Nat.lt_or_ge k i with h3 | h3
         · exact HALL.out k h h' h3
         · obtain rfl : k = i := by omega
           rw [← HX.out, ← HY.out]
           exact HE.out
        case measure => simp [intOf] <;> omega
      · have HE := Lib.hid he
        have t2 : decide (x = y) = false := by simpa using he
        simp only [t2, Bool.not_false] at hbe
        clear he
        go_wp2_with fail
        go_quiet (fail)
        have HB2 := Lib.hid (Below.drewN' HB.out nq)
        clear q0 q1 q2 q3 p0 p1 p2 p3
        go_wp2_with fail
        go_ret
        refine ⟨?_, HB2.out⟩
        have : l ≠ m := by
         rintro rfl
         exact HE.out (HX.out.trans HY.out.symm)
        rw [decide_eq_false this]; rfl
    · have hie : i = l.length := by omega
      subst hie
      go_wp2_with fail
      go_ret
      refine ⟨?_, HB.out⟩
      have : l = m := List.ext_getElem HLM.out (fun k h h' => HALL.out k h h' h)
      rw [decide_eq_true this]; rfl
 · have t1 : ((l.length : Int) != (m.length : Int)) = true := by simp; omega
   have HLM := Lib.hid hlm
   clear hlm
   go_enter Tryz.func26, Tryz.ntmps26
   go_wp2_with fail
   go_ret
   refine ⟨?_, Below.refl _ _⟩
   have : l ≠ m := fun e => HLM.out (by rw [e])
   rw [decide_eq_false this]; rfl
end Go.Proofs.YtpndmjabjjbefaaGreat
namespace Go.Proofs.YtpndmjabjjbefaaGreat
open Go.RowKit Go.Shelf
attribute [local go_sem] Oper.semAt_some
structure LeftS (w : World) (pb gc g1 gt gl : Nat) (X : World) : Prop where
 c : Blk X gc 62 #[.int .i64 1, .bool true, .string ⟨#[115]⟩, .slice (some ⟨g1, 0, none⟩) 1 1, .slice (some ⟨gt, 0, none⟩) 1 1, .bool false, .slice none 0 0]
 t1 : Blk X g1 59 #[.int .i64 1, .string ⟨#[]⟩, .int .i64 3, .string ⟨#[120]⟩, .int .i64 0, .slice none 0 0]
 t2 : Blk X gt 59 #[.int .i64 1, .string ⟨#[110]⟩, .int .i64 0, .string ⟨#[]⟩, .int .i64 0, .slice none 0 0]
 l : Blk X gl 36 #[.string ⟨#[115]⟩, .int .i64 1, .string ⟨#[83]⟩, .int .i64 1, .string ⟨#[110]⟩, .int .i64 2, .string ⟨#[]⟩, .int .i64 2147483642]
 b : Below w.heap.size w X
 low : w.heap.size ≤ pb ∧ w.heap.size ≤ gc ∧ w.heap.size ≤ g1 ∧ w.heap.size ≤ gt ∧ w.heap.size ≤ gl
theorem LeftS.new_ {w X Y : World} {pb gc g1 gt gl : Nat} (h : LeftS w pb gc g1 gt gl X) (hb : Below X.heap.size X Y) : LeftS w pb gc g1 gt gl Y :=
 ⟨h.c.new_ hb, h.t1.new_ hb, h.t2.new_ hb, h.l.new_ hb, h.b.trans (hb.mono h.b.size), h.low⟩
theorem LeftS.fr {w X Y : World} {pb gc g1 gt gl : Nat} {M : Nat → Prop} (h : LeftS w pb gc g1 gt gl X) (hF : Fr M X Y) (hM : ∀ k, M k → w.heap.size ≤ k ∧ k ≠ gc ∧ k ≠ g1 ∧ k ≠ gt ∧ k ≠ gl) : LeftS w pb gc g1 gt gl Y :=
 ⟨h.c.fr hF (fun hm => (hM _ hm).2.1 rfl), h.t1.fr hF (fun hm => (hM _ hm).2.2.1 rfl), h.t2.fr hF (fun hm => (hM _ hm).2.2.2.1 rfl), h.l.fr hF (fun hm => (hM _ hm).2.2.2.2 rfl), h.b.trans (hF.below h.b.size (fun k hk hm => by have := (hM k hm).1; omega)), h.low⟩
theorem neq_num (n : Int) (W : World) : (binOp .neq 23 (.agg #[.int .i64 2, .string ⟨#[]⟩, .int .i64 n]) (.agg #[.int .i64 2, .string ⟨#[]⟩, .int .i64 n])).run Tryz.prog W = .ok (.bool false) W := by
 have := neq_sym ⟨2, ⟨#[]⟩, n⟩ ⟨2, ⟨#[]⟩, n⟩ W
 simpa using this
def wantC (z : LeftZ) : List Value := [.int .i64 (z.2.1 : Int)]
theorem wantC_len (z : LeftZ) : (wantC z).length = 1 := rfl
theorem info_Int : (Tryz.prog.info? 3).map (fun i => (i.zero, i.size, i.bytes)) = some (some (.int .i64 0), 1, 8) := by kernel_rfl
theorem info_Act : (Tryz.prog.info? 65).map (fun i => (i.zero, i.size, i.bytes)) = some (some (.agg #[.string ⟨#[]⟩, .string ⟨#[]⟩, .int .i64 0, .string ⟨#[]⟩, .int .i64 0, .int .i64 0, .string ⟨#[]⟩, .int .i64 0, .string ⟨#[]⟩, .int .i64 0, .string ⟨#[]⟩, .int .i64 0, .string ⟨#[]⟩, .int .i64 0, .int .i64 0, .string ⟨#[]⟩, .int .i64 0, .string ⟨#[]⟩, .int .i64 0]), 19, 224) := by kernel_rfl
structure LeftG (w : World) (pb gc g1 gt gl : Nat) (zs fs : List LeftZ) (Aa : Option Addr) (ca : Nat) (Aw : Option Addr) (cw : Nat) (X : World) : Prop where
 s : LeftS w pb gc g1 gt gl X
 p : Blk X pb 42 #[.string ⟨#[97]⟩, .slice (some ⟨gc, 0, none⟩) 1 1, .slice Aa zs.length ca]
 acts : X.ownsRow 0 65 19 (.slice Aa zs.length ca) zs.length ((zs.map leftA).flatMap ActT.cells)
 want : X.ownsRow 0 3 1 (.slice Aw fs.length cw) fs.length (fs.flatMap wantC)
 aw : AIn Aw (w.heap.size ≤ ·)
 aa : AIn Aa (w.heap.size ≤ ·)
 z : ∀ z ∈ zs, z.2.1 ≤ 1000 ∧ z.2.2 ≤ 10
section
variable {w X Y w3 : World} {pb gc g1 gt gl : Nat} {zs fs : List LeftZ} {z : LeftZ} {Aa Aw A3 : Option Addr} {ca cw c3 : Nat}
theorem LeftG.new_ (h : LeftG w pb gc g1 gt gl zs fs Aa ca Aw cw X) (hb : Below X.heap.size X Y) : LeftG w pb gc g1 gt gl zs fs Aa ca Aw cw Y :=
 ⟨h.s.new_ hb, h.p.new_ hb, ownsRow_new h.acts hb, ownsRow_new h.want hb, h.aw, h.aa, h.z⟩
theorem ain_more {A A3 : Option Addr} {B : Nat} (hA : AIn A (B ≤ ·)) (hY : B ≤ Y.heap.size) (h3 : AIn A3 (Plus (fun k => ∃ a, A = some a ∧ a.block = k) Y w3)) : AIn A3 (B ≤ ·) := fun a ha => by
 rcases h3 a ha with ⟨b, hb, e⟩ | h
 · have := hA b hb
   show B ≤ a.block
   omega
 · exact Nat.le_trans hY h.1
theorem LeftG.act (h : LeftG w pb gc g1 gt gl zs fs Aa ca Aw cw Y) (hF : Fr (fun k => ∃ a, Aa = some a ∧ a.block = k) Y w3) (h3 : AIn A3 (Plus (fun k => ∃ a, Aa = some a ∧ a.block = k) Y w3))
 (hO : w3.ownsRow 0 65 19 (.slice A3 (zs.length + 1) c3) (zs.length + 1) ((zs.map leftA).flatMap ActT.cells ++ ActT.cells (leftA z))) (hK : Blk w3 pb 42 #[.string ⟨#[97]⟩, .slice (some ⟨gc, 0, none⟩) 1 1, .slice Aa zs.length ca])
 (hz : z.2.1 ≤ 1000 ∧ z.2.2 ≤ 10) : LeftG w pb gc g1 gt gl (zs ++ [z]) fs A3 c3 Aw cw (w3.setCell ⟨pb, 2, none⟩ (.slice A3 (zs.length + 1) c3)) := by
 have hV : Fr (· = pb) w3 (w3.setCell ⟨pb, 2, none⟩ (.slice A3 (zs.length + 1) c3)) := (Fr.refl (· = pb) w3).setCell (p := ⟨pb, 2, none⟩) (.inl rfl) _
 have hne : ∀ {k : Nat} {t : TypeId} {cs : Array Value}, Blk Y k t cs → 65 ≠ t → ¬ (∃ a, Aa = some a ∧ a.block = k) := fun {k t cs} hb hn => by
  rintro ⟨a, ha, rfl⟩
  subst ha
  exact own_blk_ne h.acts hb hn (by simp [Value.ownBlock])
 have e1 : (zs ++ [z]).length = zs.length + 1 := by simp
 have h1 : LeftS w pb gc g1 gt gl w3 := h.s.fr hF (fun k hk => by
  refine ⟨?_, ?_, ?_, ?_, ?_⟩
  · obtain ⟨a, ha, rfl⟩ := hk
    exact h.aa a ha
  · rintro rfl; exact hne h.s.c (by decide) hk
  · rintro rfl; exact hne h.s.t1 (by decide) hk
  · rintro rfl; exact hne h.s.t2 (by decide) hk
  · rintro rfl; exact hne h.s.l (by decide) hk)
 refine ⟨h1.fr hV (fun k hk => ?_), ?_, ?_, ?_, h.aw, ain_more h.aa h.s.b.size h3, fun x hx => ?_⟩
 · subst hk
   exact ⟨h.s.low.1, hK.ne_ h1.c (by decide), hK.ne_ h1.t1 (by decide), hK.ne_ h1.t2 (by decide), hK.ne_ h1.l (by decide)⟩
 · rw [e1]
   simpa using hK.set_ 2 (.slice A3 (zs.length + 1) c3)
 · rw [e1, List.map_append, List.flatMap_append]
   have := ownsRow_setCell_other (a := ⟨pb, 2, none⟩) hO (own_blk_ne hO hK (by decide)) (.slice A3 (zs.length + 1) c3)
   simpa using this
 · have h2 := ownsRow_fr h.want hF (fun g hg ⟨a, ha, e⟩ => rows_ne h.want h.acts (by decide) hg (by subst ha; simp [Value.ownBlock, e]))
   exact ownsRow_setCell_other (a := ⟨pb, 2, none⟩) h2 (own_blk_ne h2 hK (by decide)) _
 · rcases List.mem_append.1 hx with hx | hx
   · exact h.z x hx
   · rw [List.mem_singleton.1 hx]; exact hz
theorem LeftG.more (h : LeftG w pb gc g1 gt gl zs fs Aa ca Aw cw Y) (hF : Fr (fun k => ∃ a, Aw = some a ∧ a.block = k) Y w3) (h3 : AIn A3 (Plus (fun k => ∃ a, Aw = some a ∧ a.block = k) Y w3))
 (hO : w3.ownsRow 0 3 1 (.slice A3 (fs.length + 1) c3) (fs.length + 1) (fs.flatMap wantC ++ wantC z)) : LeftG w pb gc g1 gt gl zs (fs ++ [z]) Aa ca A3 c3 w3 := by
 have hne : ∀ {k : Nat} {t : TypeId} {cs : Array Value}, Blk Y k t cs → 3 ≠ t → ¬ (∃ a, Aw = some a ∧ a.block = k) := fun {k t cs} hb hn => by
  rintro ⟨a, ha, rfl⟩
  subst ha
  exact own_blk_ne h.want hb hn (by simp [Value.ownBlock])
 have e1 : (fs ++ [z]).length = fs.length + 1 := by simp
 refine ⟨h.s.fr hF (fun k hk => ?_), h.p.fr hF (hne h.p (by decide)), ?_, ?_, ain_more h.aw h.s.b.size h3, h.aa, h.z⟩
 · refine ⟨?_, ?_, ?_, ?_, ?_⟩
   · obtain ⟨a, ha, rfl⟩ := hk
     exact h.aw a ha
   · rintro rfl; exact hne h.s.c (by decide) hk
   · rintro rfl; exact hne h.s.t1 (by decide) hk
   · rintro rfl; exact hne h.s.t2 (by decide) hk
   · rintro rfl; exact hne h.s.l (by decide) hk
 · exact ownsRow_fr h.acts hF (fun g hg ⟨a, ha, e⟩ => rows_ne h.acts h.want (by decide) hg (by subst ha; simp [Value.ownBlock, e]))
 · rw [e1, List.flatMap_append]
   simpa using hO
end
set_option maxRecDepth 100000 in
set_option maxHeartbeats 4000000 in
theorem one_blk (w : World) : Calls Tryz.prog 22 #[] w fun e w' => ∃ g1 g2 gc ga, e = .returned (.agg #[.string ⟨#[97]⟩, .slice (some ⟨gc, 0, none⟩) 1 1, .slice (some ⟨ga, 0, none⟩) 1 1]) ∧ Blk w' g1 59 #[.int .i64 1, .string ⟨#[]⟩, .int .i64 3, .string ⟨#[120]⟩, .int .i64 0, .slice none 0 0] ∧ Blk w' gc 62 #[.int .i64 1, .bool true, .string ⟨#[115]⟩, .slice (some ⟨g1, 0, none⟩) 1 1, .slice (some ⟨g2, 0, none⟩) 1 1, .bool false, .slice none 0 0] ∧ w.heap.size ≤ g1 ∧ w.heap.size ≤ gc ∧ Below w.heap.size w w' := by
 go_enter Tryz.func22, Tryz.ntmps22
 go_upto_region 1 with fail
 obtain ⟨w1, hw1⟩ : ∃ w1, w1 = (w.alloc (.cells #[.string ⟨#[]⟩, .slice none 0 0, .slice none 0 0] 42)) := ⟨_, rfl⟩
 rw [← hw1]
 have HB := Lib.hid (show Below w.heap.size w w1 by rw [hw1]; exact (by repeat (first | exact Below.refl _ _ | refine Below.drew ?_ | refine Below.al ?_ _ | refine Below.sc ?_ _)))
 have Kr := Lib.hid (show Blk w1 (w.heap.size) 42 #[.string ⟨#[]⟩, .slice none 0 0, .slice none 0 0] by rw [hw1]; exact (Blk.new w 42 #[.string ⟨#[]⟩, .slice none 0 0, .slice none 0 0]))
 clear hw1
 obtain ⟨r0, r1, r2⟩ := Kr.out.c3
 have rf0 := Kr.out.frozen 0
 have rf1 := Kr.out.frozen 1
 have rf2 := Kr.out.frozen 2
 have rz := Kr.out.lt
 go_wp2_with fail
 with_reducible refine (wW6_is ⟨#[120]⟩ _).mono ?_
 rintro e w2 ⟨rfl, hb⟩
 have hbs := Below.trans (show Below w1.heap.size w1 _ from (by (repeat (first | exact Below.refl _ _ | refine Below.drew ?_ | refine Below.al ?_ _ | refine Below.sc ?_ _)))) (hb.mono (by simp <;> omega))
 have Kr := Lib.hid (Kr.out.new_ hbs)
 have HB := Lib.hid (HB.out.trans (hbs.mono HB.out.size))
 have hsz2 := hbs.size
 clear r0 r1 r2 rf0 rf1 rf2 rz hb hbs
 obtain ⟨r0, r1, r2⟩ := Kr.out.c3
 have rf0 := Kr.out.frozen 0
 have rf1 := Kr.out.frozen 1
 have rf2 := Kr.out.frozen 2
 have rz := Kr.out.lt
 have hs0_2 := HB.out.size
 go_wp2_with fail
 with_reducible refine (wN6_is 1 _).mono ?_
 rintro e w3 ⟨rfl, hb⟩
 have hbs := Below.trans (show Below w2.heap.size w2 _ from (by (repeat (first | exact Below.refl _ _ | refine Below.drew ?_ | refine Below.al ?_ _ | refine Below.sc ?_ _)))) (hb.mono (by simp <;> omega))
 have Kr := Lib.hid (Kr.out.new_ hbs)
 have Kt1 := Lib.hid (show Blk w3 (w2.heap.size) 59 #[.int .i64 1, .string ⟨#[]⟩, .int .i64 3, .string ⟨#[120]⟩, .int .i64 0, .slice none 0 0] from (Blk.new _ _ _).new_ hb)
 have HB := Lib.hid (HB.out.trans (hbs.mono HB.out.size))
 have hsz3 := hbs.size
 clear r0 r1 r2 rf0 rf1 rf2 rz hb hbs
 obtain ⟨r0, r1, r2⟩ := Kr.out.c3
 have rf0 := Kr.out.frozen 0
 have rf1 := Kr.out.frozen 1
 have rf2 := Kr.out.frozen 2
 have rz := Kr.out.lt
 obtain ⟨t10, t11, t12, t13, t14, t15⟩ := Kt1.out.c6
 have t1z := Kt1.out.lt
 have hs0_3 := HB.out.size
 go_wp2_with fail
 with_reducible refine (wW6_is ⟨#[121]⟩ _).mono ?_
 rintro e w4 ⟨rfl, hb⟩
 have hbs := Below.trans (show Below w3.heap.size w3 _ from (by (repeat (first | exact Below.refl _ _ | refine Below.drew ?_ | refine Below.al ?_ _ | refine Below.sc ?_ _)))) (hb.mono (by simp <;> omega))
 have Kr := Lib.hid (Kr.out.new_ hbs)
 have Kt1 := Lib.hid (Kt1.out.new_ hbs)
 have Kt2 := Lib.hid (show Blk w4 (w3.heap.size) 59 #[.int .i64 1, .string ⟨#[]⟩, .int .i64 2, .string ⟨#[]⟩, .int .i64 1, .slice none 0 0] from ((Blk.new _ _ _).alloc _).new_ hb)
 have Kc := Lib.hid (show Blk w4 (w3.heap.size + 1) 62 #[.int .i64 1, .bool true, .string ⟨#[115]⟩, .slice (some ⟨w2.heap.size, 0, none⟩) 1 1, .slice (some ⟨w3.heap.size, 0, none⟩) 1 1, .bool false, .slice none 0 0] from ((show Blk ((w3.alloc (.cells #[.int .i64 1, .string ⟨#[]⟩, .int .i64 2, .string ⟨#[]⟩, .int .i64 1, .slice none 0 0] 59)).alloc (.cells #[.int .i64 1, .bool true, .string ⟨#[115]⟩, .slice (some ⟨w2.heap.size, 0, none⟩) 1 1, .slice (some ⟨w3.heap.size, 0, none⟩) 1 1, .bool false, .slice none 0 0] 62)) (w3.heap.size + 1) 62 #[.int .i64 1, .bool true, .string ⟨#[115]⟩, .slice (some ⟨w2.heap.size, 0, none⟩) 1 1, .slice (some ⟨w3.heap.size, 0, none⟩) 1 1, .bool false, .slice none 0 0] by have hh := Blk.new (w3.alloc (.cells #[.int .i64 1, .string ⟨#[]⟩, .int .i64 2, .string ⟨#[]⟩, .int .i64 1, .slice none 0 0] 59)) 62 #[.int .i64 1, .bool true, .string ⟨#[115]⟩, .slice (some ⟨w2.heap.size, 0, none⟩) 1 1, .slice (some ⟨w3.heap.size, 0, none⟩) 1 1, .bool false, .slice none 0 0]; simp only [World.size_alloc] at hh; exact hh)).new_ hb)
 have HB := Lib.hid (HB.out.trans (hbs.mono HB.out.size))
 have hsz4 := hbs.size
 clear r0 r1 r2 rf0 rf1 rf2 rz t10 t11 t12 t13 t14 t15 t1z hb hbs
 obtain ⟨r0, r1, r2⟩ := Kr.out.c3
 have rf0 := Kr.out.frozen 0
 have rf1 := Kr.out.frozen 1
 have rf2 := Kr.out.frozen 2
 have rz := Kr.out.lt
 obtain ⟨t10, t11, t12, t13, t14, t15⟩ := Kt1.out.c6
 have t1z := Kt1.out.lt
 obtain ⟨t20, t21, t22, t23, t24, t25⟩ := Kt2.out.c6
 have t2z := Kt2.out.lt
 obtain ⟨c0, c1, c2, c3, c4, c5, c6⟩ := Kc.out.c7
 have cz := Kc.out.lt
 go_wp2_with fail
 with_reducible refine (wN6_is 2 _).mono ?_
 rintro e w5 ⟨rfl, hb⟩
 have hbs := Below.trans (show Below w4.heap.size w4 _ from (by (repeat (first | exact Below.refl _ _ | refine Below.drew ?_ | refine Below.al ?_ _ | refine Below.sc ?_ _)))) (hb.mono (by simp <;> omega))
 have Kr := Lib.hid (Kr.out.new_ hbs)
 have Kt1 := Lib.hid (Kt1.out.new_ hbs)
 have Kt2 := Lib.hid (Kt2.out.new_ hbs)
 have Kc := Lib.hid (Kc.out.new_ hbs)
 have HB := Lib.hid (HB.out.trans (hbs.mono HB.out.size))
 have hsz5 := hbs.size
 clear r0 r1 r2 rf0 rf1 rf2 rz t10 t11 t12 t13 t14 t15 t1z t20 t21 t22 t23 t24 t25 t2z c0 c1 c2 c3 c4 c5 c6 cz hb hbs
 obtain ⟨r0, r1, r2⟩ := Kr.out.c3
 have rf0 := Kr.out.frozen 0
 have rf1 := Kr.out.frozen 1
 have rf2 := Kr.out.frozen 2
 have rz := Kr.out.lt
 obtain ⟨t10, t11, t12, t13, t14, t15⟩ := Kt1.out.c6
 have t1z := Kt1.out.lt
 obtain ⟨t20, t21, t22, t23, t24, t25⟩ := Kt2.out.c6
 have t2z := Kt2.out.lt
 obtain ⟨c0, c1, c2, c3, c4, c5, c6⟩ := Kc.out.c7
 have cz := Kc.out.lt
 go_wp2_with fail
 obtain ⟨X, hX⟩ : ∃ X, X = ((w5.setCell ⟨w.heap.size, 0, none⟩ (.string ⟨#[97]⟩)).setCell ⟨w.heap.size, 1, none⟩ (.slice (some ⟨w3.heap.size + 1, 0, none⟩) 1 1)).setCell ⟨w.heap.size, 2, none⟩ (.slice (some ⟨w5.heap.size, 0, none⟩) 1 1) := ⟨_, rfl⟩
 rw [← hX]
 have hFX : Fr (· = w.heap.size) w5 X := by rw [hX]; exact (((Fr.refl (· = w.heap.size) w5).setCell (p := ⟨w.heap.size, 0, none⟩) (.inl rfl) _).setCell (p := ⟨w.heap.size, 1, none⟩) (.inl rfl) _).setCell (p := ⟨w.heap.size, 2, none⟩) (.inl rfl) _
 have hsX : X.heap.size = w5.heap.size := by rw [hX]; simp
 have KrX : Blk X w.heap.size 42 #[.string ⟨#[97]⟩, .slice (some ⟨w3.heap.size + 1, 0, none⟩) 1 1, .slice (some ⟨w5.heap.size, 0, none⟩) 1 1] := by
  rw [hX]; simpa using (((Kr.out.set_ 0 (.string ⟨#[97]⟩)).set_ 1 (.slice (some ⟨w3.heap.size + 1, 0, none⟩) 1 1)).set_ 2 (.slice (some ⟨w5.heap.size, 0, none⟩) 1 1))
 obtain ⟨Z, hZ⟩ : ∃ Z, Z = X.alloc (.cells #[.string ⟨#[115]⟩, .string ⟨#[]⟩, .int .i64 3, .string ⟨#[121]⟩, .int .i64 0, .int .i64 0, .string ⟨#[]⟩, .int .i64 2, .string ⟨#[]⟩, .int .i64 2, .string ⟨#[]⟩, .int .i64 0, .string ⟨#[]⟩, .int .i64 0, .int .i64 1, .string ⟨#[]⟩, .int .i64 0, .string ⟨#[]⟩, .int .i64 0] 65) := ⟨_, rfl⟩
 rw [← hZ]
 have hbZX : Below X.heap.size X Z := by rw [hZ]; exact (Below.refl _ _).alloc (Nat.le_refl _) _
 have ga : Blk Z w5.heap.size 65 #[.string ⟨#[115]⟩, .string ⟨#[]⟩, .int .i64 3, .string ⟨#[121]⟩, .int .i64 0, .int .i64 0, .string ⟨#[]⟩, .int .i64 2, .string ⟨#[]⟩, .int .i64 2, .string ⟨#[]⟩, .int .i64 0, .string ⟨#[]⟩, .int .i64 0, .int .i64 1, .string ⟨#[]⟩, .int .i64 0, .string ⟨#[]⟩, .int .i64 0] := by rw [hZ, ← hsX]; exact Blk.new _ _ _
 have KrZ := KrX.new_ hbZX
 have hB := HB.out
 have hzw := hB.size
 have hzX := hbZX.size
 have hlX := ga.lt
 have hbZ : Below w.heap.size w Z := (hB.trans (hFX.below (by omega) (fun k hk hn => by omega))).trans (hbZX.mono (by omega))
 have k1 := Kt1.out.lt
 have k2 := Kt2.out.lt
 have kc := Kc.out.lt
 have gt1 := (Kt1.out.fr hFX (Kt1.out.ne_ Kr.out (by decide))).new_ hbZX
 have gt2 := (Kt2.out.fr hFX (Kt2.out.ne_ Kr.out (by decide))).new_ hbZX
 have gc := (Kc.out.fr hFX (Kc.out.ne_ Kr.out (by decide))).new_ hbZX
 have r0 := (KrZ.cell 0).trans rfl
 have r1 := (KrZ.cell 1).trans rfl
 have r2 := (KrZ.cell 2).trans rfl
 refine bodyPost_ret (v := .agg #[.string ⟨#[97]⟩, .slice (some ⟨w3.heap.size + 1, 0, none⟩) 1 1, .slice (some ⟨w5.heap.size, 0, none⟩) 1 1]) (by simp [results, Tryz.results22, go_sem, r0, r1, r2]) rfl ?_
 exact ⟨w2.heap.size, w3.heap.size, w3.heap.size + 1, w5.heap.size, rfl, gt1, gc, hs0_2, by omega, hbZ⟩
set_option maxRecDepth 100000 in
set_option maxHeartbeats 8000000 in
theorem left_walk (A0 A1 : Option Addr) (c0 c1 : Nat) (ids add : List Int) (w : World) (h0 : RowRd w 1 (fun n : Int => [Value.int .i64 n]) A0 c0 ids) (h1 : RowRd w 1 (fun n : Int => [Value.int .i64 n]) A1 c1 add) :
 Calls Tryz.prog 6 #[.slice A0 ids.length c0, .slice A1 add.length c1] w fun e w' => e = .returned (.bool true) ∧ Below w.heap.size w w' := by
 obtain ⟨i0, hi0, hz0, hz1, hz2⟩ := info_parts info_Int
 obtain ⟨j0, hj0, hy0, hy1, hy2⟩ := info_parts info_Act
 have H0 := Lib.hid h0
 have H1 := Lib.hid h1
 have hc0 := h0.cap
 have hc1 := h1.cap
 clear h0 h1
 by_cases ht1 : ids.length < 1
 · skip
   have t1 : decide ((ids.length : Int) < 1) = true := decide_eq_true (by omega)
   have t1n : decide (ids.length < 1) = true := decide_eq_true (by omega)
   clear ht1
   go_enter Tryz.func6, Tryz.ntmps6
   go_wp2_with fail
   refine (wakes15_is _).mono ?_
   rintro e w2 ⟨rfl, hb⟩
   go_wp2_with fail
   go_ret
   exact ⟨rfl, hb⟩
 · skip
   by_cases ht2 : 16 < ids.length
   · skip
     have t1 : decide ((ids.length : Int) < 1) = false := decide_eq_false (by omega)
     have t1n : decide (ids.length < 1) = false := decide_eq_false (by omega)
     have t2 : decide ((16 : Int) < (ids.length : Int)) = true := decide_eq_true (by omega)
     have t2n : decide (16 < ids.length) = true := decide_eq_true (by omega)
     clear ht1 ht2
     go_enter Tryz.func6, Tryz.ntmps6
     go_wp2_with fail
     refine (wakes15_is _).mono ?_
     rintro e w2 ⟨rfl, hb⟩
     go_wp2_with fail
     go_ret
     exact ⟨rfl, hb⟩
   · skip
     by_cases ht3 : add.length < ids.length
     · skip
       have t1 : decide ((ids.length : Int) < 1) = false := decide_eq_false (by omega)
       have t1n : decide (ids.length < 1) = false := decide_eq_false (by omega)
       have t2 : decide ((16 : Int) < (ids.length : Int)) = false := decide_eq_false (by omega)
       have t2n : decide (16 < ids.length) = false := decide_eq_false (by omega)
       have t3 : decide ((add.length : Int) < (ids.length : Int)) = true := decide_eq_true (by omega)
       have t3n : decide (add.length < ids.length) = true := decide_eq_true (by omega)
       clear ht1 ht2 ht3
       go_enter Tryz.func6, Tryz.ntmps6
       go_wp2_with fail
       refine (wakes15_is _).mono ?_
       rintro e w2 ⟨rfl, hb⟩
       go_wp2_with fail
       go_ret
       exact ⟨rfl, hb⟩
     · skip
       have t1 : decide ((ids.length : Int) < 1) = false := decide_eq_false (by omega)
       have t1n : decide (ids.length < 1) = false := decide_eq_false (by omega)
       have t2 : decide ((16 : Int) < (ids.length : Int)) = false := decide_eq_false (by omega)
       have t2n : decide (16 < ids.length) = false := decide_eq_false (by omega)
       have t3 : decide ((add.length : Int) < (ids.length : Int)) = false := decide_eq_false (by omega)
       have t3n : decide (add.length < ids.length) = false := decide_eq_false (by omega)
       have hl1 : 1 ≤ ids.length := by omega
       have hl2 : ids.length ≤ 16 := by omega
       have hl3 : ids.length ≤ add.length := by omega
       clear ht1 ht2 ht3
       have HB := Lib.hid (Below.refl w.heap.size w)
       go_enter Tryz.func6, Tryz.ntmps6
       go_wp2_with fail
       with_reducible refine (one_blk _).mono ?_
       rintro e w2 ⟨g1, g2, gc, ga, rfl, hg1, hgc, hlg1, hlgc, hb⟩
       have hbs := Below.trans (show Below w.heap.size w _ from (by (repeat (first | exact Below.refl _ _ | refine Below.drew ?_ | refine Below.al ?_ _ | refine Below.sc ?_ _)))) (hb.mono (by simp <;> omega))
       have HB := Lib.hid (HB.out.trans (hbs.mono HB.out.size))
       have hsz2 := hbs.size
       clear  hb hbs
       have K1 := Lib.hid hg1
       have Kc := Lib.hid hgc
       clear hg1 hgc t1 t2 t3 t1n t2n t3n
       have c4 := (Kc.out.cell 4).trans rfl
       have cf4 := Kc.out.frozen 4
       have cz := Kc.out.lt
       have oz := K1.out.lt
       go_wp2_with fail
       obtain ⟨X, hX⟩ : ∃ X, X = w2.setCell ⟨gc, 4, none⟩ (.slice (some ⟨w2.heap.size + 1, 0, none⟩) 1 1) := ⟨_, rfl⟩
       rw [← hX]
       have hFX : Fr (· = gc) w2 X := by rw [hX]; exact (Fr.refl (· = gc) w2).setCell (p := ⟨gc, 4, none⟩) (.inl rfl) _
       have hsX : X.heap.size = w2.heap.size := by rw [hX]; simp
       have KcX : Blk X gc 62 #[.int .i64 1, .bool true, .string ⟨#[115]⟩, .slice (some ⟨g1, 0, none⟩) 1 1, .slice (some ⟨w2.heap.size + 1, 0, none⟩) 1 1, .bool false, .slice none 0 0] := by rw [hX]; simpa using (Kc.out.set_ 4 (.slice (some ⟨w2.heap.size + 1, 0, none⟩) 1 1))
       have K1X := K1.out.fr hFX (K1.out.ne_ Kc.out (by decide))
       obtain ⟨Z, hZ⟩ : ∃ Z, Z = (X.alloc (.cells #[.string ⟨#[97]⟩, .slice (some ⟨gc, 0, none⟩) 1 1, .slice none 0 0] 42)).alloc (.cells #[.int .i64 1, .string ⟨#[110]⟩, .int .i64 0, .string ⟨#[]⟩, .int .i64 0, .slice none 0 0] 59) := ⟨_, rfl⟩
       rw [← hZ]
       have hbZ : Below X.heap.size X Z := by rw [hZ]; exact (by repeat (first | exact Below.refl _ _ | refine Below.drew ?_ | refine Below.al ?_ _ | refine Below.sc ?_ _))
       have hsZ : Z.heap.size = w2.heap.size + 2 := by rw [hZ]; simp [hsX]
       have KpZ : Blk Z w2.heap.size 42 #[.string ⟨#[97]⟩, .slice (some ⟨gc, 0, none⟩) 1 1, .slice none 0 0] := by rw [hZ, ← hsX]; exact (Blk.new _ _ _).alloc _
       have KtZ : Blk Z (w2.heap.size + 1) 59 #[.int .i64 1, .string ⟨#[110]⟩, .int .i64 0, .string ⟨#[]⟩, .int .i64 0, .slice none 0 0] := by
        have hh := Blk.new (X.alloc (.cells #[.string ⟨#[97]⟩, .slice (some ⟨gc, 0, none⟩) 1 1, .slice none 0 0] 42)) 59 #[.int .i64 1, .string ⟨#[110]⟩, .int .i64 0, .string ⟨#[]⟩, .int .i64 0, .slice none 0 0]
        rw [World.size_alloc, hsX] at hh
        rw [hZ]; exact hh
       have hzw := HB.out.size
       have HZB := Lib.hid (show Below w.heap.size w Z from (HB.out.trans (hFX.below hzw (fun k hk hn => by omega))).trans (hbZ.mono (by omega)))
       have HKS := Lib.hid (show Blk Z gc 62 #[.int .i64 1, .bool true, .string ⟨#[115]⟩, .slice (some ⟨g1, 0, none⟩) 1 1, .slice (some ⟨w2.heap.size + 1, 0, none⟩) 1 1, .bool false, .slice none 0 0] ∧ Blk Z g1 59 #[.int .i64 1, .string ⟨#[]⟩, .int .i64 3, .string ⟨#[120]⟩, .int .i64 0, .slice none 0 0] ∧ Blk Z (w2.heap.size + 1) 59 #[.int .i64 1, .string ⟨#[110]⟩, .int .i64 0, .string ⟨#[]⟩, .int .i64 0, .slice none 0 0] ∧ Blk Z w2.heap.size 42 #[.string ⟨#[97]⟩, .slice (some ⟨gc, 0, none⟩) 1 1, .slice none 0 0] from ⟨KcX.new_ hbZ, K1X.new_ hbZ, KtZ, KpZ⟩)
       have HLO := Lib.hid (show w.heap.size ≤ gc ∧ w.heap.size ≤ g1 ∧ w.heap.size ≤ w2.heap.size from ⟨hlgc, hlg1, hzw⟩)
       clear hX hFX hsX KcX K1X hZ hbZ hsZ KpZ KtZ c4 cf4 cz oz hlg1 hlgc
       have HB := Lib.hid HZB.out
       clear HZB
       have HZZ := Lib.hid (Below.refl Z.heap.size Z)
       with_reducible refine (wI9_is _ _ _).mono ?_
       rintro e w3 ⟨rfl, hb⟩
       have hbs := Below.trans (show Below Z.heap.size Z _ from (by (repeat (first | exact Below.refl _ _ | refine Below.drew ?_ | refine Below.al ?_ _ | refine Below.sc ?_ _)))) (hb.mono (by simp <;> omega))
       have HZZ := Lib.hid (HZZ.out.trans (hbs.mono HZZ.out.size))
       have hsz3 := hbs.size
       clear  hb hbs
       go_wp2_with fail
       with_reducible refine (wN9_is _ _).mono ?_
       rintro e w4 ⟨rfl, hb⟩
       have hbs := Below.trans (show Below w3.heap.size w3 _ from (by (repeat (first | exact Below.refl _ _ | refine Below.drew ?_ | refine Below.al ?_ _ | refine Below.sc ?_ _)))) (hb.mono (by simp <;> omega))
       have HZZ := Lib.hid (HZZ.out.trans (hbs.mono HZZ.out.size))
       have hsz4 := hbs.size
       clear  hb hbs
       go_wp2_with fail
       obtain ⟨X0, hX0⟩ : ∃ X0, X0 = w4.alloc (.cells #[.string ⟨#[115]⟩, .int .i64 1, .string ⟨#[83]⟩, .int .i64 1, .string ⟨#[110]⟩, .int .i64 2, .string ⟨#[]⟩, .int .i64 2147483642] 36) := ⟨_, rfl⟩
       rw [← hX0]
       have hb0 : Below w4.heap.size w4 X0 := by rw [hX0]; exact (Below.refl _ _).alloc (Nat.le_refl _) _
       have hl0 : Blk X0 w4.heap.size 36 #[.string ⟨#[115]⟩, .int .i64 1, .string ⟨#[83]⟩, .int .i64 1, .string ⟨#[110]⟩, .int .i64 2, .string ⟨#[]⟩, .int .i64 2147483642] := by rw [hX0]; exact Blk.new _ _ _
       have hb1 : Below Z.heap.size Z X0 := HZZ.out.trans (hb0.mono HZZ.out.size)
       obtain ⟨k1, k2, k3, k4⟩ := HKS.out
       obtain ⟨o1, o2, o3⟩ := HLO.out
       have HST0 := Lib.hid (show LeftG w (w2.heap.size) gc g1 (w2.heap.size + 1) (w4.heap.size) [] [] none 0 none 0 X0 from ⟨⟨k1.new_ hb1, k2.new_ hb1, k3.new_ hb1, hl0, HB.out.trans (hb1.mono HB.out.size), ⟨o3, o1, o2, by omega, by have := HZZ.out.size; have := HB.out.size; omega⟩⟩, k4.new_ hb1, owns_nil _ _ _ _, owns_nil _ _ _ _, AIn.none_ _, AIn.none_ _, fun z hz => by cases hz⟩)
       clear hX0 hb0 hl0 hb1 k1 k2 k3 k4 o1 o2 o3
       generalize hpb : w2.heap.size = pb at HST0 ⊢
       generalize hgt : pb + 1 = gt at HST0 ⊢
       generalize hgl : w4.heap.size = gl at HST0 ⊢
       clear hpb hgt hgl
       go_loopw [6, 8] (fun sw si wr => ∃ (zs : List LeftZ) (Aa : Option Addr) (ca : Nat) (Aw : Option Addr) (cw : Nat), si = .int .i64 zs.length ∧ sw = .slice Aw (zs.filter leftB).length cw ∧ zs.length ≤ ids.length ∧ LeftG w pb gc g1 gt gl zs (zs.filter leftB) Aa ca Aw cw wr) (fun sw si wr => ids.length - (intOf si).toNat)
       case atStart => exact ⟨[], none, 0, none, 0, rfl, rfl, Nat.zero_le _, HST0.out⟩
       case round =>
        obtain ⟨zs, Aa, ca, Aw, cw, rfl, rfl, hi, hst⟩ := hrel
        have HS := Lib.hid hst
        clear hst
        generalize hfs : zs.filter leftB = fs at HS ⊢
        have HFS := Lib.hid hfs
        clear hfs
        by_cases hlt : zs.length < ids.length
        · have hlt2 : zs.length < add.length := by omega
          obtain ⟨g0, o0, rfl, hg0, hcc0⟩ := (H0.out.new_ HS.out.s.b).at_ hlt
          obtain ⟨g3, o3, rfl, hg3, hcc3⟩ := (H1.out.new_ HS.out.s.b).at_ hlt2
          obtain ⟨v0, hv0⟩ : ∃ v, v = ids[zs.length] := ⟨_, rfl⟩
          obtain ⟨v1, hv1⟩ : ∃ v, v = add[zs.length] := ⟨_, rfl⟩
          have q0 : wr.cell? ⟨g0, o0 + zs.length, none⟩ = some (.int .i64 v0) := by rw [hv0]; simpa using hcc0 0 _ rfl
          have q1 : wr.cell? ⟨g3, o3 + zs.length, none⟩ = some (.int .i64 v1) := by rw [hv1]; simpa using hcc3 0 _ rfl
          obtain ⟨k, hk1, hk2⟩ := within_nat v1 (n := 11) (by omega)
          obtain ⟨j, hj1, hj2⟩ := within_nat v0 (n := 2) (by omega)
          have HW1 := Lib.hid (show ∀ Y, Calls Tryz.prog 13 #[.int .i64 v1, .int .i64 11] Y fun e w' => e = .returned (.int .i64 (k : Int)) ∧ Y = w' from fun Y => by have := within_is v1 11 Y (by decide); rw [show within v1 11 = (k : Int) from hk1] at this; exact this)
          have HW2 := Lib.hid (show ∀ Y, Calls Tryz.prog 13 #[.int .i64 v0, .int .i64 2] Y fun e w' => e = .returned (.int .i64 (j : Int)) ∧ Y = w' from fun Y => by have := within_is v0 2 Y (by decide); rw [show within v0 2 = (j : Int) from hj1] at this; exact this)
          have b1 : (0 : Int) ≤ (zs.length : Int) := by omega
          have b2 : (zs.length : Int) < (ids.length : Int) := by omega
          have b3 : (zs.length : Int) < (add.length : Int) := by omega
          have b4 : (0 : Int) ≤ (j : Int) := by omega
          have b5 : (j : Int) < 2 := by omega
          obtain ⟨b, hb⟩ : ∃ b : Bool, b = decide (j = 0) := ⟨_, rfl⟩
          have hjb : (#[.string ⟨#[115]⟩, .string ⟨#[110]⟩] : Array Value)[j]? = some (.string (leftId b)) := by
           rw [hb]
           rcases j with _ | _ | j
           · rfl
           · rfl
           · omega
          clear hcc0 hcc3 hv0 hv1 hk1 hj1 hb
          go_wp2_with fail
          refine (HW1.out _).mono ?_
          rintro e w9 ⟨rfl, rfl⟩
          go_wp2_with fail
          refine (HW2.out _).mono ?_
          rintro e w9 ⟨rfl, rfl⟩
          obtain ⟨X1, hX1⟩ : ∃ X1, X1 = wr.alloc (.cells #[.string ⟨#[115]⟩, .string ⟨#[110]⟩] 9) := ⟨_, rfl⟩
          have hb1 : Below wr.heap.size wr X1 := by rw [hX1]; exact (Below.refl _ _).alloc (Nat.le_refl _) _
          have hc1' : Blk X1 wr.heap.size 9 #[.string ⟨#[115]⟩, .string ⟨#[110]⟩] := by rw [hX1]; exact Blk.new _ _ _
          have r0 : X1.cell? ⟨wr.heap.size, j, none⟩ = some (.string (leftId b)) := (hc1'.cell j).trans hjb
          have rz := hc1'.lt
          rw [← hX1]
          have HB1 := Lib.hid hb1
          clear hX1 hb1 hc1' hjb q0 q1 hj2
          go_upto_region 13 with fail
          have HG1 := Lib.hid (HS.out.new_ HB1.out)
          have p2 := (HG1.out.p.cell 2).trans rfl
          have pz := HG1.out.p.lt
          clear r0 rz
          refine wp_region_E (fun w9 => Below X1.heap.size X1 w9) [(0, 0), (1, 1), (2, 0), (3, 0), (6, 0), (7, 0), (4, 2), (5, 0), (8, 2), (9, 0), (10, 0), (11, 0), (12, 2), (13, 2), (14, 0), (15, 2)] (by kernel_rfl) (by kernel_rfl) (fun KK hKK => ?_)
          simp only [beside, List.filterMap_cons, List.filterMap_nil, List.getElem?_toArray, List.getElem?_cons_zero, List.getElem?_cons_succ, Option.map_some]
          repeat ((first | (refine wpX_w ?_ (Or.inl ⟨by rfl, fun w9 => ?_⟩) ?_; rotate_left 1; go_simp; with_reducible rfl) | (refine wpX_l ?_ ((Below.refl _ _).drew) (Or.inl ⟨by rfl, fun w9 hw9 => ?_⟩) ?_; rotate_left 1; have p2 := (hw9.cell (p := ⟨pb, 2, none⟩) pz).trans p2; go_simp; with_reducible rfl) | refine wpX_w undef (Or.inr ⟨by rfl, rfl⟩) ?_ | refine wpX_l undef ((Below.refl _ _).drew) (Or.inr ⟨by rfl, rfl⟩) ?_); go_frame)
          refine wpX_es (fun K9 hK9 => ?_)
          go_simp
          refine (wN9_is _ _).mono ?_
          rintro e w21 ⟨rfl, hb21⟩
          have HB21 := Lib.hid ((Below.refl X1.heap.size X1).drew.trans (hb21.mono (by first | exact (Below.refl X1.heap.size X1).drew.size | simp)))
          clear hb21
          refine hK9 _ _ HB21.out ?_
          clear hK9 K9
          repeat ((first | (refine wpX_w ?_ (Or.inl ⟨by rfl, fun w9 => ?_⟩) ?_; rotate_left 1; go_simp; with_reducible rfl) | (refine wpX_l ?_ (HB21.out) (Or.inl ⟨by rfl, fun w9 hw9 => ?_⟩) ?_; rotate_left 1; have p2 := (hw9.cell (p := ⟨pb, 2, none⟩) pz).trans p2; go_simp; with_reducible rfl) | refine wpX_w undef (Or.inr ⟨by rfl, rfl⟩) ?_ | refine wpX_l undef (HB21.out) (Or.inr ⟨by rfl, rfl⟩) ?_); go_frame)
          refine wpX_es (fun K9 hK9 => ?_)
          go_simp
          refine (wN9_is _ _).mono ?_
          rintro e w22 ⟨rfl, hb22⟩
          have HB22 := Lib.hid (HB21.out.trans (hb22.mono (by first | exact HB21.out.size | simp)))
          clear hb22
          refine hK9 _ _ HB22.out ?_
          clear hK9 K9
          repeat ((first | (refine wpX_w ?_ (Or.inl ⟨by rfl, fun w9 => ?_⟩) ?_; rotate_left 1; go_simp; with_reducible rfl) | (refine wpX_l ?_ (HB22.out) (Or.inl ⟨by rfl, fun w9 hw9 => ?_⟩) ?_; rotate_left 1; have p2 := (hw9.cell (p := ⟨pb, 2, none⟩) pz).trans p2; go_simp; with_reducible rfl) | refine wpX_w undef (Or.inr ⟨by rfl, rfl⟩) ?_ | refine wpX_l undef (HB22.out) (Or.inr ⟨by rfl, rfl⟩) ?_); go_frame)
          refine wpX_es (fun K9 hK9 => ?_)
          go_simp
          obtain ⟨Y9, hY9⟩ : ∃ Y9, Y9 = w22.alloc (.cells #[.string (leftId b), .string ⟨#[]⟩, .int .i64 2, .string ⟨#[]⟩, .int .i64 (zs.length : Int), .int .i64 1, .string ⟨#[110]⟩, .int .i64 0, .string ⟨#[]⟩, .int .i64 0, .string ⟨#[]⟩, .int .i64 2, .string ⟨#[]⟩, .int .i64 (k : Int), .int .i64 1, .string ⟨#[]⟩, .int .i64 0, .string ⟨#[]⟩, .int .i64 0] 65) := ⟨_, rfl⟩
          have hb9 : Below w22.heap.size w22 Y9 := by rw [hY9]; exact (Below.refl _ _).alloc (Nat.le_refl _) _
          have HB23 := Lib.hid (HB22.out.trans (hb9.mono HB22.out.size))
          have HN9 := Lib.hid (show ∀ (j : Nat) (u : Value), ([.string (leftId b), .string ⟨#[]⟩, .int .i64 2, .string ⟨#[]⟩, .int .i64 (zs.length : Int), .int .i64 1, .string ⟨#[110]⟩, .int .i64 0, .string ⟨#[]⟩, .int .i64 0, .string ⟨#[]⟩, .int .i64 2, .string ⟨#[]⟩, .int .i64 (k : Int), .int .i64 1, .string ⟨#[]⟩, .int .i64 0, .string ⟨#[]⟩, .int .i64 0] : List Value)[j]? = some u → Y9.cell? ((⟨w22.heap.size, 0, none⟩ : Addr).add j) = some u by rw [hY9]; exact news_alloc rfl)
          rw [← hY9]
          clear hY9 hb9
          refine hK9 _ _ HB23.out ?_
          clear hK9 K9
          refine wpX_e (by kernel_rfl) (fun K9 hK9 => ?_)
          have HG9 := Lib.hid (HG1.out.new_ HB23.out)
          refine step_append_src _ (by rfl) _ _ _ (by rfl) 65 j0 _ 19 224 Tryz.underlying40 hj0 hy0 hy1 hy2 rfl (by omega) _ zs.length ((zs.map leftA).flatMap ActT.cells) (by rfl) HG9.out.acts _ 1 1 [.string (leftId b), .string ⟨#[]⟩, .int .i64 2, .string ⟨#[]⟩, .int .i64 (zs.length : Int), .int .i64 1, .string ⟨#[110]⟩, .int .i64 0, .string ⟨#[]⟩, .int .i64 0, .string ⟨#[]⟩, .int .i64 2, .string ⟨#[]⟩, .int .i64 (k : Int), .int .i64 1, .string ⟨#[]⟩, .int .i64 0, .string ⟨#[]⟩, .int .i64 0] (by rfl) (by rfl) (fun _ => ⟨_, rfl, HN9.out⟩) (by intro u hu; simp only [List.mem_cons, List.not_mem_nil, or_false] at hu; rcases hu with rfl | rfl | rfl | rfl | rfl | rfl | rfl | rfl | rfl | rfl | rfl | rfl | rfl | rfl | rfl | rfl | rfl | rfl | rfl <;> rfl) (by unfold maxLen; omega) (by omega) ?_
          intro v2 w23 hown hgr hnil hat
          have hp3 := HG9.out.p.grown hgr (own_blk_ne HG9.out.acts HG9.out.p (by decide))
          obtain ⟨A3, c3, rfl, hF3, hA3, hO3⟩ := grown_own (E := fun k => ∃ a, Aa = some a ∧ a.block = k) (fun a ha => ⟨a, ha, rfl⟩) hown hgr hat
          have HV3 := Lib.hid (HG9.out.act (z := (b, zs.length, k)) hF3 hA3 hO3 hp3 ⟨by dsimp only; omega, by dsimp only; omega⟩)
          have p2 := (hp3.cell 2).trans rfl
          have pf := hp3.frozen 2
          have pz := hp3.lt
          clear hown hgr hnil hat hp3 hF3 hA3 hO3
          refine hK9 _ _ ?_
          clear hK9 K9
          repeat ((first | (refine wpX_w ?_ (Or.inl ⟨by rfl, fun w9 => ?_⟩) ?_; rotate_left 1; go_simp; with_reducible rfl) | (refine wpX_l ?_ (HB23.out) (Or.inl ⟨by rfl, fun w9 hw9 => ?_⟩) ?_; rotate_left 1; have p2 := (hw9.cell (p := ⟨pb, 2, none⟩) pz).trans p2; go_simp; with_reducible rfl) | refine wpX_w undef (Or.inr ⟨by rfl, rfl⟩) ?_ | refine wpX_l undef (HB23.out) (Or.inr ⟨by rfl, rfl⟩) ?_); go_frame)
          refine wpX_e (by kernel_rfl) (fun K9 hK9 => ?_)
          go_simp
          refine hK9 _ _ ?_
          clear hK9 K9
          refine wpX_nil ?_
          simp only [OnlyN_normal]
          refine hKK _ _ ?_
          clear hKK KK
          obtain ⟨V, hV⟩ : ∃ V, V = w23.setCell ⟨pb, 2, none⟩ (.slice A3 (zs.length + 1) c3) := ⟨_, rfl⟩
          have HVV := Lib.hid (show LeftG w pb gc g1 gt gl (zs ++ [(b, zs.length, k)]) fs A3 c3 Aw cw V by rw [hV]; exact HV3.out)
          rw [← hV]
          have HFN := Lib.hid (show (zs ++ [(b, zs.length, k)]).filter leftB = if leftB (b, zs.length, k) = true then fs ++ [(b, zs.length, k)] else fs by
           rw [List.filter_append, HFS.out]
           by_cases h : leftB (b, zs.length, k) = true
           · rw [if_pos h]; simp [h]
           · rw [if_neg h]; simp [h])
          have hle : (zs ++ [(b, zs.length, k)]).length ≤ ids.length := by simp; omega
          clear hV HV3 p2 pf pz
          cases b
          · skip
            simp only [leftId, Bool.false_eq_true, if_false]
            have HFE := Lib.hid (show fs = (zs ++ [(false, zs.length, k)]).filter leftB by rw [HFN.out, if_neg (by simp [leftB])])
            go_wp2_with fail
            go_roundw
            case rel => exact ⟨zs ++ [(false, zs.length, k)], A3, c3, Aw, cw, by simp, by rw [← HFE.out], hle, by rw [← HFE.out]; exact HVV.out⟩
            case measure => simp [intOf] <;> omega
          · skip
            simp only [leftId, if_true]
            by_cases h5 : k ≤ 5
            · skip
              have t5 : decide ((k : Int) ≤ 5) = true := decide_eq_true (by omega)
              have HFE := Lib.hid (show (zs ++ [(true, zs.length, k)]).filter leftB = fs ++ [(true, zs.length, k)] by rw [HFN.out, if_pos (by simp [leftB, h5])])
              obtain ⟨Y8, hY8⟩ : ∃ Y8, Y8 = V.alloc (.cells #[.int .i64 (zs.length : Int)] 3) := ⟨_, rfl⟩
              have hb8 : Below V.heap.size V Y8 := by rw [hY8]; exact (Below.refl _ _).alloc (Nat.le_refl _) _
              have HY8 := Lib.hid hY8
              have HG8 := Lib.hid (HVV.out.new_ hb8)
              have HN8 := Lib.hid (show ∀ (j : Nat) (u : Value), ([.int .i64 (zs.length : Int)] : List Value)[j]? = some u → Y8.cell? ((⟨V.heap.size, 0, none⟩ : Addr).add j) = some u by rw [hY8]; exact news_alloc rfl)
              have hfl : fs.length ≤ zs.length := by rw [← HFS.out]; exact List.length_filter_le _ _
              clear hY8 hb8 h5
              go_wp2_with (at_builtin; rw [← HY8.out]; refine wpList_append_src Y8 rfl (.tmp 86) (.tmp 88) 37 rfl 3 i0 _ 1 8 Tryz.underlying37 hi0 hz0 hz1 hz2 rfl (by decide) _ fs.length (fs.flatMap wantC) rfl HG8.out.want _ 1 1 [.int .i64 (zs.length : Int)] rfl rfl (fun _ => ⟨_, rfl, HN8.out⟩) (by intro u hu; simp only [List.mem_cons, List.not_mem_nil, or_false] at hu; subst hu; rfl) (by unfold maxLen; omega) (by omega) ?_; intro v' w8 hown hgr hnil hat; obtain ⟨A8, c8, rfl, hF8, hA8, hO8⟩ := grown_own (E := fun k => ∃ a, Aw = some a ∧ a.block = k) (fun a ha => ⟨a, ha, rfl⟩) hown hgr hat; have HW8 := Lib.hid (HG8.out.more (z := (true, zs.length, k)) hF8 hA8 hO8); clear hown hgr hnil hat hF8 hA8 hO8)
              go_roundw
              case rel => exact ⟨zs ++ [(true, zs.length, k)], A3, c3, A8, c8, by simp, by rw [HFE.out]; simp, hle, by rw [HFE.out]; exact HW8.out⟩
              case measure => simp [intOf] <;> omega
            · skip
              have t5 : decide ((k : Int) ≤ 5) = false := decide_eq_false (by omega)
              have HFE := Lib.hid (show fs = (zs ++ [(true, zs.length, k)]).filter leftB by rw [HFN.out, if_neg (by simp [leftB, h5])])
              go_wp2_with fail
              go_roundw
              case rel => exact ⟨zs ++ [(true, zs.length, k)], A3, c3, Aw, cw, by simp, by rw [← HFE.out], hle, by rw [← HFE.out]; exact HVV.out⟩
              case measure => simp [intOf] <;> omega
        · have tf : decide ((zs.length : Int) < (ids.length : Int)) = false := decide_eq_false (by omega)
          have tfn : decide (zs.length < ids.length) = false := decide_eq_false (by omega)
          have hz1 : 1 ≤ zs.length := by omega
          have hz2 : zs.length ≤ 16 := by omega
          have hfl : fs.length ≤ zs.length := by rw [← HFS.out]; exact List.length_filter_le _ _
          obtain ⟨L9, hdo⟩ := left_do hz1 hz2 HS.out.z
          rw [HFS.out] at hdo
          have HDQ := Lib.hid hdo
          have HFB := Lib.hid (show ∀ y ∈ fs, leftB y = true from fun y hy => by rw [← HFS.out] at hy; exact (List.mem_filter.1 hy).2)
          clear hdo hlt hi
          go_wp2_with fail
          refine (gt_new 100 wr (by decide) (by decide)).mono ?_
          rintro e w5 ⟨T, rfl, hroom, hgt, hb5⟩
          have HG5 := Lib.hid (HS.out.new_ hb5)
          have hcl := HS.out.s.c.lt
          have ht1l := HS.out.s.t1.lt
          have ht2l := HS.out.s.t2.lt
          have hll := HS.out.s.l.lt
          have hal := row_low HS.out.acts
          have HDO := Lib.hid (show Calls Tryz.prog 25 #[.agg #[.string ⟨#[97]⟩, .slice (some ⟨gc, 0, none⟩) 1 1, .slice Aa zs.length ca], .slice (some ⟨gl, 0, none⟩) 2 2, .pointer (some ⟨T.b, 0, none⟩)] w5 (fun e w6 => ∃ A6 c6 A7 c7, e = .returned (.tuple #[.slice A6 fs.length c6, .slice A7 2 c7, .int .i64 0]) ∧ RowR repPrefT (fun _ => True) w6 A6 c6 (fs.map leftV) ∧ RowR repBindT (fun _ => True) w6 A7 c7 leftL ∧ Below wr.heap.size w5 w6) by
           have ha : w5.ownsRow 0 65 19 (.slice Aa (zs.map leftA).length ca) (zs.map leftA).length ((zs.map leftA).flatMap ActT.cells) := by rw [List.length_map]; exact HG5.out.acts
           have h9 : (flatC 1 0 (leftP zs).conds).length ≤ 1000000000 := by
            have h8 : (flatC 1 0 (leftP zs).conds).length = 1 := by kernel_rfl
            omega
           have := do_is (D := (· < wr.heap.size)) 1 (leftP zs) leftL (some ⟨gc, 0, none⟩) Aa (some ⟨gl, 0, none⟩) 1 ca 2 w5 T [] hgt
            (row_one (cs := [.int .i64 1, .bool true, .string ⟨#[115]⟩, .slice (some ⟨g1, 0, none⟩) 1 1, .slice (some ⟨gt, 0, none⟩) 1 1, .bool false, .slice none 0 0]) HG5.out.s.c hcl ⟨_, _, _, _, none, 0, rfl, row_one (cs := [.int .i64 1, .string ⟨#[]⟩, .int .i64 3, .string ⟨#[120]⟩, .int .i64 0, .slice none 0 0]) HG5.out.s.t1 ht1l ⟨none, 0, rfl, RowR.nil _ _ _⟩, row_one (cs := [.int .i64 1, .string ⟨#[110]⟩, .int .i64 0, .string ⟨#[]⟩, .int .i64 0, .slice none 0 0]) HG5.out.s.t2 ht2l ⟨none, 0, rfl, RowR.nil _ _ _⟩, RowR.nil _ _ _⟩)
            (RowR.of_rd (ownsRow_rd ActT.cells_length ha) hal) (row_two (cs := [.string ⟨#[115]⟩, .int .i64 1, .string ⟨#[83]⟩, .int .i64 1]) (ds := [.string ⟨#[110]⟩, .int .i64 2, .string ⟨#[]⟩, .int .i64 2147483642]) HG5.out.s.l hll rfl rfl) h9 (by decide) (by decide)
           rw [hroom, HDQ.out] at this
           have el : (leftP zs).acts.length = zs.length := by simp [leftP]
           rw [el] at this
           refine this.mono ?_
           rintro e w6 ⟨A6, c6, A7, c7, D', he, hq, hm, _, _, _, _, hF⟩
           have h6 : (fs.map leftV).length = fs.length := List.length_map _
           refine ⟨A6, c6, A7, c7, ?_, RowR.of_rd (ownsRow_rd PrefT.cells_length hq) (fun _ _ => trivial), RowR.of_rd (ownsRow_rd BindT.cells_length hm) (fun _ _ => trivial), hF.below hb5.size (fun k hk hn => hn hk)⟩
           rw [he]
           dsimp only
           rw [h6]
           rfl)
          have HWA := Lib.hid (RowR.of_rd (D := fun _ => True) (hs := wantC_len) (ownsRow_rd wantC_len HG5.out.want) (fun _ _ => trivial))
          have HWB := Lib.hid (show RowR repBindT (· < wr.heap.size) w5 (some ⟨gl, 0, none⟩) 2 leftL from row_two (cs := [.string ⟨#[115]⟩, .int .i64 1, .string ⟨#[83]⟩, .int .i64 1]) (ds := [.string ⟨#[110]⟩, .int .i64 2, .string ⟨#[]⟩, .int .i64 2147483642]) HG5.out.s.l hll rfl rfl)
          have hwl := row_low HS.out.want
          have HWA := Lib.hid (RowR.of_rd (D := (· < wr.heap.size)) (hs := wantC_len) (ownsRow_rd wantC_len HG5.out.want) hwl)
          have HBW := Lib.hid (HG5.out.s.b)
          have hwr := HS.out.s.b.size
          obtain ⟨p0, p1, p2⟩ := HG5.out.p.c3
          have pz := HG5.out.p.lt
          clear hgt hroom hb5 hcl ht1l ht2l hll hal hwl tf tfn
          go_wp2_with fail
          refine HDO.out.mono ?_
          rintro e w6 ⟨A6, c6, A7, c7, rfl, hx6, hb6, hB6⟩
          have HX6 := Lib.hid hx6
          have hcap6 := hx6.cap
          have HBE := Lib.hid (show Calls Tryz.prog 26 #[.slice A7 2 c7, .slice (some ⟨gl, 0, none⟩) 2 2] w6 fun e w' => e = .returned (.bool true) ∧ Below w6.heap.size w6 w' by
           have := binds_eq leftL leftL w6 hb6 (HWB.out.fr (M := fun k => wr.heap.size ≤ k) ⟨hB6.os, hB6.tape, hB6.output, hB6.size, fun k _ hk => hB6.block k (by omega)⟩ (fun k hk hn => by omega))
           rw [decide_eq_true (rfl : leftL = leftL)] at this
           exact this)
          have HWC := Lib.hid (HWA.out.fr (w' := w6) (M := fun k => wr.heap.size ≤ k) ⟨hB6.os, hB6.tape, hB6.output, hB6.size, fun k _ hk => hB6.block k (by omega)⟩ (fun k hk hn => by omega))
          have HB6 := Lib.hid (HBW.out.trans (hB6.mono hwr))
          clear hx6 hb6 hB6
          have tl : ((fs.length : Int) != (fs.length : Int)) = false := by simp
          rw [List.length_map] at hcap6
          go_wp2_with fail
          refine HBE.out.mono ?_
          rintro e w7 ⟨rfl, hb7⟩
          have HX7 := Lib.hid (HX6.out.new_ hb7)
          have HW7 := Lib.hid (HWC.out.new_ hb7)
          have HB7 := Lib.hid (HB6.out.trans (hb7.mono HB6.out.size))
          clear hb7
          go_wp2_with fail
          go_loopw [16] (fun si wq => ∃ i : Nat, si = .int .i64 i ∧ i ≤ fs.length ∧ Below w7.heap.size w7 wq) (fun si wq => fs.length - (intOf si).toNat)
          case atStart => exact ⟨0, rfl, Nat.zero_le _, Below.refl _ _⟩
          case round =>
           obtain ⟨i, rfl, hi, hbq⟩ := hrel
           have HBQ := Lib.hid hbq
           clear hbq
           by_cases hlt : i < fs.length
           · obtain ⟨y, hy⟩ : ∃ y, y = fs[i] := ⟨_, rfl⟩
             have hlm : i < (fs.map leftV).length := by rw [List.length_map]; exact hlt
             obtain ⟨g, off, rfl, _, hgs, q0, q1, q2, q3, q4, q5, q6, q7, q8, q9, q10, q11, q12, q13, q14, q15⟩ := at_PrefT (HX7.out.new_ HBQ.out) hlm
             rw [List.getElem_map, ← hy] at q0 q1 q2 q3 q4 q5 q6 q7 q8 q9 q10 q11 q12 q13 q14 q15
             obtain ⟨g2, off2, cs2, rfl, _, hg2, hr2, hcc2⟩ := (HW7.out.new_ HBQ.out).at_ hlt
             have hr2' : cs2 = wantC fs[i] := hr2
             subst hr2'
             rw [← hy] at hcc2
             have u0 : wr.cell? ⟨g2, off2 + i, none⟩ = some (.int .i64 (y.2.1 : Int)) := by simpa [RepT.flat] using hcc2 0 _ rfl
             have hyb := HFB.out y (by rw [hy]; exact List.getElem_mem hlt)
             simp only [leftB, Bool.and_eq_true, decide_eq_true_eq] at hyb
             have tk : decide ((2147483647 : Int) < 2147483642 + (y.2.2 : Int)) = false := decide_eq_false (by omega)
             have b1 : (0 : Int) ≤ (i : Int) := by omega
             have b2 : (i : Int) < (fs.length : Int) := by omega
             have hne := fun W => neq_num (y.2.1 : Int) W
             simp only [leftV] at q0 q1 q2 q3 q4 q5 q6 q7 q8 q9 q10 q11 q12 q13 q14 q15
             clear hcc2 hr2 hyb hy hlm
             go_upto_region 25 with fail
             clear q0 q1 q2 q6 q7 q9 q10 q11
             refine wp_region_E (fun w9 => Below wr.heap.size wr w9) [(0, 0), (1, 0), (2, 0), (3, 0), (4, 1), (5, 0), (6, 0), (7, 0), (8, 1), (9, 2), (10, 0), (11, 0), (12, 0), (13, 0), (14, 0), (15, 0), (16, 0), (17, 1), (18, 0), (19, 0), (20, 0), (21, 0), (22, 0), (23, 0), (24, 0), (25, 1), (26, 0), (27, 0), (28, 0), (29, 0), (30, 0), (31, 0), (32, 0), (33, 1), (34, 0), (35, 0), (36, 0), (37, 0), (38, 0), (39, 0), (40, 0), (41, 1), (42, 0), (43, 0), (44, 0), (45, 0), (46, 0), (47, 0), (48, 0), (49, 1), (50, 0)] (by kernel_rfl) (by kernel_rfl) (fun KK hKK => ?_)
             simp only [beside, List.filterMap_cons, List.filterMap_nil, List.getElem?_toArray, List.getElem?_cons_zero, List.getElem?_cons_succ, Option.map_some]
             repeat ((first | (refine wpX_w ?_ (Or.inl ⟨by rfl, fun w9 => ?_⟩) ?_; rotate_left 1; go_simp; with_reducible rfl) | (refine wpX_l ?_ ((Below.refl _ _).drew) (Or.inl ⟨by rfl, fun w9 hw9 => ?_⟩) ?_; rotate_left 1; have q3 := (hw9.cell (p := ⟨g, off + i * 16 + 3, none⟩) hgs).trans q3; have q4 := (hw9.cell (p := ⟨g, off + i * 16 + 4, none⟩) hgs).trans q4; have q5 := (hw9.cell (p := ⟨g, off + i * 16 + 5, none⟩) hgs).trans q5; have q8 := (hw9.cell (p := ⟨g, off + i * 16 + 8, none⟩) hgs).trans q8; have q12 := (hw9.cell (p := ⟨g, off + i * 16 + 12, none⟩) hgs).trans q12; have q13 := (hw9.cell (p := ⟨g, off + i * 16 + 13, none⟩) hgs).trans q13; have q14 := (hw9.cell (p := ⟨g, off + i * 16 + 14, none⟩) hgs).trans q14; have q15 := (hw9.cell (p := ⟨g, off + i * 16 + 15, none⟩) hgs).trans q15; have u0 := (hw9.cell (p := ⟨g2, off2 + i, none⟩) hg2).trans u0; go_simp; with_reducible rfl) | refine wpX_w undef (Or.inr ⟨by rfl, rfl⟩) ?_ | refine wpX_l undef ((Below.refl _ _).drew) (Or.inr ⟨by rfl, rfl⟩) ?_); go_frame)
             refine wpX_es (fun K9 hK9 => ?_)
             go_simp
             refine (wN9_is _ _).mono ?_
             rintro e w25 ⟨rfl, hb25⟩
             have HB25 := Lib.hid ((Below.refl wr.heap.size wr).drew.trans (hb25.mono (by simp)))
             clear hb25
             refine hK9 _ _ HB25.out ?_
             clear hK9 K9
             repeat ((first | (refine wpX_w ?_ (Or.inl ⟨by rfl, fun w9 => ?_⟩) ?_; rotate_left 1; go_simp; with_reducible rfl) | (refine wpX_l ?_ (HB25.out) (Or.inl ⟨by rfl, fun w9 hw9 => ?_⟩) ?_; rotate_left 1; have q3 := (hw9.cell (p := ⟨g, off + i * 16 + 3, none⟩) hgs).trans q3; have q4 := (hw9.cell (p := ⟨g, off + i * 16 + 4, none⟩) hgs).trans q4; have q5 := (hw9.cell (p := ⟨g, off + i * 16 + 5, none⟩) hgs).trans q5; have q8 := (hw9.cell (p := ⟨g, off + i * 16 + 8, none⟩) hgs).trans q8; have q12 := (hw9.cell (p := ⟨g, off + i * 16 + 12, none⟩) hgs).trans q12; have q13 := (hw9.cell (p := ⟨g, off + i * 16 + 13, none⟩) hgs).trans q13; have q14 := (hw9.cell (p := ⟨g, off + i * 16 + 14, none⟩) hgs).trans q14; have q15 := (hw9.cell (p := ⟨g, off + i * 16 + 15, none⟩) hgs).trans q15; have u0 := (hw9.cell (p := ⟨g2, off2 + i, none⟩) hg2).trans u0; go_simp; with_reducible rfl) | refine wpX_w undef (Or.inr ⟨by rfl, rfl⟩) ?_ | refine wpX_l undef (HB25.out) (Or.inr ⟨by rfl, rfl⟩) ?_); go_frame)
             refine wpX_nil ?_
             simp only [OnlyN_normal]
             refine hKK _ _ ?_
             clear hKK KK
             have HB26 := Lib.hid (HBQ.out.trans (HB25.out.mono HBQ.out.size))
             go_wp2_with fail
             go_roundw
             case rel => exact ⟨i + 1, by go_num, by omega, HB26.out⟩
             case measure => simp [intOf] <;> omega
           · have hie : i = fs.length := by omega
             subst hie
             have HB8 := Lib.hid (HB7.out.trans (HBQ.out.mono HB7.out.size))
             go_wp2_with fail
             refine (wakes15_is _).mono ?_
             rintro e w9 ⟨rfl, hb9⟩
             go_wp2_with fail
             go_ret
             exact ⟨rfl, HB8.out.trans (hb9.mono HB8.out.size)⟩
end Go.Proofs.YtpndmjabjjbefaaGreat
namespace Go.Proofs.YtpndmjabjjbefaaGreat
open Go.ChangeShapes Go.WideShapes Go.ChangeAt Go.RowKit Go.Deep
theorem own_left : ownKnob Tryz.prog.godebug = none := by kernel_rfl
theorem laid_left : laidOutB Tryz.prog = true := by kernel_rfl
set_option maxRecDepth 100000 in
theorem left_lifted (os : Os) (started : os.Started) (H : Type) (enc : TypeId × Value → H) :
 ReturnsInHanded {} Tryz.checked os 6 .any (Rows.actLeftSpec.pre6 enc Tryz.prog Tryz.f6 Rows.actLeftRow.domain false) (Rows.actLeftSpec.post enc Tryz.prog Tryz.f6 false true false false) := by
 refine returnsInHanded_of_change (C := Tryz.checked) own_left started (by kernel_rfl) Tryz.func6
  (ChangeSpec.witness6 (enc := enc) (C := Tryz.checked) false ⟨#[], #[.slice none 0 0, .slice none 0 0], []⟩ 8 (by kernel_rfl) (by kernel_rfl) (by kernel_rfl) (by kernel_rfl)) ?_
 intro W base args ds gs before hval0 hW hcnd _
 have hval : ∀ (j : Nat) t v, Tryz.f6.params[j]? = some t → args[j]? = some v → Value.okWide Tryz.prog W .any base t v := hval0
 have hW' := hW
 obtain ⟨p, q, hA0, hV, rfl, hfz, hnd⟩ := hW
 have hA : DataW.TrodAll enc Tryz.prog W 0 (fun _ => true) true Tryz.f6.params.toList args.toList ds p := hA0
 rw [Tryz.params6] at hA hval
 obtain ⟨v0, v1, d0, d1, p0, p1, rfl, rfl, rfl, h0, h1⟩ := trodAll_two hA
 obtain ⟨rfl, rfl⟩ := trodVars_none hV
 obtain ⟨A0, c0, l0, rfl, r0⟩ := open_row Tryz.underlying37 (by omega) (reads_int Tryz.underlying3 (by kernel_rfl)) (hval 0 37 v0 rfl rfl) h0
 obtain ⟨A1, c1, l1, rfl, r1⟩ := open_row Tryz.underlying37 (by omega) (reads_int Tryz.underlying3 (by kernel_rfl)) (hval 1 37 v1 rfl rfl) h1
 clear hA0 hval0
 refine (left_walk A0 A1 c0 c1 l0 l1 W r0 r1).mono fun e W' ⟨he, hb⟩ => ?_
 subst he
 exact ⟨_, rfl, post_true (tb := 4) laid_left rfl hW' (by kernel_rfl) Tryz.underlying4 (fun t ht => by
  have ht' : t ∈ [37, 37] := by
   have e : Tryz.f6.params.toList = [37, 37] := by rw [Tryz.params6]
   rwa [e] at ht
  simp only [List.mem_cons, List.not_mem_nil, or_false] at ht'
  rcases ht' with rfl | rfl <;> exact ⟨by kernel_rfl, of_decide_eq_true (by kernel_rfl)⟩) rfl rfl rfl hb⟩
theorem left_holds : Rows.ActLeftSaid :=
 OpenClaim.holds_of_wide 6 Tryz.f6 rfl rfl rfl rfl rfl rfl rfl ⟨rfl, rfl, rfl, rfl, rfl⟩ rfl rfl rfl rfl rfl (by kernel_rfl) Tryz.func6 (by kernel_rfl)
  (of_decide_eq_true (by kernel_rfl)) (by unfold Func.isWrapper; first | (rw [if_pos (by decide +kernel)]; kernel_rfl) | (rw [if_neg (by decide +kernel)]; exact ⟨rfl, rfl⟩))
  (fun os started H enc _ => left_lifted os started H enc)
end Go.Proofs.YtpndmjabjjbefaaGreat
