/-
  Texts put together: ActWk2, LawSums, Act3, LawBinds, LawValues, RowFlat, ListStr, KeepTexts, RefNews.
-/
import Derived.Test.YtpndmjabjjbefaaGreatBg
import Derived.Test.YtpndmjabjjbefaaGreatBh
import Derived.Test.YtpndmjabjjbefaaGreatBb
import Derived.Test.YtpndmjabjjbefaaGreatBa
import Derived.Maps.RangeWalk
namespace Go.Proofs.YtpndmjabjjbefaaGreat
open Go.RowKit Go.Shelf
attribute [local go_sem] Oper.semAt_some
def wkT : TermT := ⟨1, ⟨⟨#[120]⟩, ⟨0, ⟨#[]⟩, 0⟩⟩, ⟨⟨#[]⟩, ⟨2, ⟨#[]⟩, 1⟩⟩⟩
def wkB : BindT := ⟨⟨#[120]⟩, ⟨2, ⟨#[]⟩, 4⟩⟩
def wkL : BindT := ⟨⟨#[115]⟩, ⟨1, ⟨#[83]⟩, 1⟩⟩
def wkA : ActT := ⟨⟨#[115]⟩, ⟨⟨#[]⟩, ⟨3, ⟨#[97]⟩, 0⟩⟩, ⟨0, ⟨⟨#[111]⟩, ⟨0, ⟨#[]⟩, 0⟩⟩, ⟨⟨#[]⟩, ⟨0, ⟨#[]⟩, 0⟩⟩⟩, 1, ⟨⟨#[]⟩, ⟨0, ⟨#[]⟩, 0⟩⟩⟩
def wkC : ActT := ⟨⟨#[111]⟩, ⟨⟨#[]⟩, ⟨3, ⟨#[98]⟩, 0⟩⟩, ⟨0, ⟨⟨#[]⟩, ⟨2, ⟨#[]⟩, 1⟩⟩, ⟨⟨#[]⟩, ⟨0, ⟨#[]⟩, 0⟩⟩⟩, 1, ⟨⟨#[]⟩, ⟨0, ⟨#[]⟩, 0⟩⟩⟩
def wkP : ProdT := ⟨⟨#[97]⟩, [oneCond], [wkA, wkC]⟩
theorem wk_value : valueV wkT [wkB] = (⟨2, ⟨#[]⟩, 5⟩, true) := by kernel_rfl
theorem condsK_one (n : Nat) (k k2 : Kn) (c : CondT) (at_ : Int) (h : c.kind = 1) (h2 : oneK k c = (true, k2)) : condsK (n + 1) k [c] at_ = (true, at_ + 1, k2) := by
 rw [condsK, if_neg (by omega), if_pos h, h2]
 simp only [if_pos h]
 rw [condsK]
theorem checkP_one {n : Nat} {p : ProdT} {c : CondT} {k2 : Kn} (h0 : (shapeP (n + 1) p).2 = 0) (hc : p.conds = [c]) (hk : c.kind = 1) (h2 : oneK ([], []) c = (true, k2)) (h3 : p.acts.findIdx? (actV k2) = none) : checkP (n + 1) p = (-1, 0, k2.2) := by
 unfold checkP
 rw [if_neg (by rw [h0]; simp), hc, if_neg (by simp [hk]), condsK_one n _ k2 c 0 hk h2]
 simp only [h3]
theorem wk_check : checkP 1 wkP = (-1, 0, [⟨#[115]⟩]) := checkP_one (n := 0) (c := oneCond) (k2 := ([⟨#[115]⟩], [⟨#[115]⟩])) (by kernel_rfl) rfl rfl (by kernel_rfl) (by kernel_rfl)
def wkQ : List PrefT := [⟨⟨1, ⟨#[83]⟩, 1⟩, ⟨3, ⟨#[97]⟩, 0⟩, ⟨1, ⟨#[79]⟩, 1⟩, ⟨0, ⟨#[]⟩, 0⟩, 1, false, 0, 0⟩, ⟨⟨1, ⟨#[79]⟩, 1⟩, ⟨3, ⟨#[98]⟩, 0⟩, ⟨2, ⟨#[]⟩, 1⟩, ⟨0, ⟨#[]⟩, 0⟩, 1, false, 0, 0⟩]
def wkM : List BindT := [wkL, ⟨⟨#[111]⟩, ⟨1, ⟨#[79]⟩, 1⟩⟩]
def wkN : List Sym := (doV 20 [wkL] wkP.acts []).2
theorem wk_do : doR 1 wkP [wkL] 20 [] = ((wkQ, wkM, 0), wkN) := by
 unfold doR
 rw [wk_check, if_neg (by simp)]
 kernel_rfl
def WkTo (D : Nat → Prop) (Y : World) (e : Ending) (W' : World) : Prop := ∃ g c g' c', e = .returned (.tuple #[.slice (some ⟨g, 0, none⟩) 2 c, .slice (some ⟨g', 0, none⟩) 2 c', .int .i64 0]) ∧ g < W'.heap.size ∧ (2 ≤ c ∧ c ≤ maxLen ∧ 2 ≤ c' ∧ c' ≤ maxLen) ∧
    (W'.cell? ⟨g, 6, none⟩ = some (.int .i64 1) ∧ W'.cell? ⟨g, 7, none⟩ = some (.string ⟨#[79]⟩) ∧ W'.cell? ⟨g, 8, none⟩ = some (.int .i64 1)) ∧
    (W'.cell? ⟨g, 16, none⟩ = some (.int .i64 1) ∧ W'.cell? ⟨g, 17, none⟩ = some (.string ⟨#[79]⟩) ∧ W'.cell? ⟨g, 18, none⟩ = some (.int .i64 1)) ∧ Fr (fun j => ¬ D j) Y W'
theorem wkTo_of {D : Nat → Prop} {Y W' : World} {T : TB} {e : Ending} (h : DoTo D Y T ((wkQ, wkM, 0), wkN) e W') : WkTo D Y e W' := by
 obtain ⟨A, c, A', c', D', rfl, hq, hm, _, _, _, _, hF⟩ := h
 rcases ownsRow_form hq with ⟨_, h0, _⟩ | ⟨g, cap, hv, g1, g2, hr, _, hc⟩
 · cases h0
 rcases ownsRow_form hm with ⟨_, h0, _⟩ | ⟨g', cap', hv', g1', g2', _, _, _⟩
 · cases h0
 injection hv with v1 _ v3
 injection hv' with u1 _ u3
 subst v1; subst v3; subst u1; subst u3
 exact ⟨g, c, g', c', rfl, hr.lt, ⟨g1, g2, g1', g2'⟩, ⟨hc 6 _ rfl, hc 7 _ rfl, hc 8 _ rfl⟩, ⟨hc 16 _ rfl, hc 17 _ rfl, hc 18 _ rfl⟩, hF⟩
set_option maxRecDepth 100000 in
set_option maxHeartbeats 8000000 in
theorem wakes15_is (w : World) : Calls Tryz.prog 10 #[] w fun e w' => e = .returned (.bool true) ∧ Below w.heap.size w w' := by
 have HB := Lib.hid (Below.refl w.heap.size w)
 go_enter Tryz.func10, Tryz.ntmps10
 go_wp2_with fail
 with_reducible refine (wN9_is 1 _).mono ?_
 rintro e w2 ⟨rfl, hb⟩
 have hbs := Below.trans (show Below w.heap.size w _ from (by (repeat (first | exact Below.refl _ _ | refine Below.drew ?_ | refine Below.al ?_ _ | refine Below.sc ?_ _)))) (hb.mono (by simp <;> omega))
 have HB := Lib.hid (HB.out.trans (hbs.mono HB.out.size))
 have hsz2 := hbs.size
 clear  hb hbs
 go_wp2_with fail
 with_reducible refine (wN9_is 4 _).mono ?_
 rintro e w3 ⟨rfl, hb⟩
 have hbs := Below.trans (show Below w2.heap.size w2 _ from (by (repeat (first | exact Below.refl _ _ | refine Below.drew ?_ | refine Below.al ?_ _ | refine Below.sc ?_ _)))) (hb.mono (by simp <;> omega))
 have HB := Lib.hid (HB.out.trans (hbs.mono HB.out.size))
 have hsz3 := hbs.size
 clear  hb hbs
 have HV := Lib.hid (show ∀ (Y : World) (A : Option Addr), RowR repBindT (fun _ => True) Y A 1 [wkB] → Calls Tryz.prog 11 #[.agg #[.int .i64 1, .string ⟨#[120]⟩, .int .i64 0, .string ⟨#[]⟩, .int .i64 0, .string ⟨#[]⟩, .int .i64 2, .string ⟨#[]⟩, .int .i64 1], .slice A 1 1] Y (SymTo Y (⟨2, ⟨#[]⟩, 5⟩, true)) from fun Y A h => by have := value_is wkT [wkB] Y h; rw [wk_value] at this; exact this)
 go_wp2_with fail
 have hrb := row_one (r := repBindT) (D := fun _ => True) (a := wkB) (cs := [.string ⟨#[120]⟩, .int .i64 2, .string ⟨#[]⟩, .int .i64 4]) (Blk.new w3 36 #[.string ⟨#[120]⟩, .int .i64 2, .string ⟨#[]⟩, .int .i64 4]) trivial rfl
 with_reducible refine (HV.out _ _ hrb).mono ?_
 rintro e w4 ⟨rfl, hb⟩
 have hbs := Below.trans (show Below w3.heap.size w3 _ from (by (repeat (first | exact Below.refl _ _ | refine Below.drew ?_ | refine Below.al ?_ _ | refine Below.sc ?_ _)))) (hb.mono (by simp <;> omega))
 have HB := Lib.hid (HB.out.trans (hbs.mono HB.out.size))
 have hsz4 := hbs.size
 clear  hb hbs
 go_wp2_with fail
 with_reducible refine (one_is6 _).mono ?_
 rintro e w5 ⟨Ac, Aa, rfl, hrc, _, hb⟩
 have hbs := Below.trans (show Below w4.heap.size w4 _ from (by (repeat (first | exact Below.refl _ _ | refine Below.drew ?_ | refine Below.al ?_ _ | refine Below.sc ?_ _)))) (hb.mono (by simp <;> omega))
 have Kv := Lib.hid (show Blk w5 (w4.heap.size) 23 #[.int .i64 2, .string ⟨#[]⟩, .int .i64 5] from (Blk.new _ _ _).new_ hb)
 have HB := Lib.hid (HB.out.trans (hbs.mono HB.out.size))
 have hsz5 := hbs.size
 clear  hb hbs
 obtain ⟨v0, v1, v2⟩ := Kv.out.c3
 have vz := Kv.out.lt
 have HRC := Lib.hid (hrc.weaken (D' := fun _ => True) (fun _ _ => trivial))
 have hrcd := hrc
 clear hrc
 have hs0 := HB.out.size
 have HRD := Lib.hid (show RowR (repCondT 1) (· < w5.heap.size) w5 Ac 1 [oneCond] from hrcd.weaken (fun k hk => hk.2))
 clear hrcd
 go_wp2_with fail
 with_reducible refine (wW9_is ⟨#[97]⟩ _).mono ?_
 rintro e w6 ⟨rfl, hb⟩
 have hbs := Below.trans (show Below w5.heap.size w5 _ from (by (repeat (first | exact Below.refl _ _ | refine Below.drew ?_ | refine Below.al ?_ _ | refine Below.sc ?_ _)))) (hb.mono (by simp <;> omega))
 have Kv := Lib.hid (Kv.out.new_ hbs)
 have HRD := Lib.hid (HRD.out.new_ hbs)
 have Kp := Lib.hid (show Blk w6 (w5.heap.size) 42 #[.string ⟨#[97]⟩, .slice Ac 1 1, .slice Aa 1 1] from (Blk.new _ _ _).new_ hb)
 have HB := Lib.hid (HB.out.trans (hbs.mono HB.out.size))
 have hsz6 := hbs.size
 clear v0 v1 v2 vz hb hbs
 obtain ⟨v0, v1, v2⟩ := Kv.out.c3
 have vz := Kv.out.lt
 obtain ⟨p0, p1, p2⟩ := Kp.out.c3
 have pf0 := Kp.out.frozen 0
 have pf1 := Kp.out.frozen 1
 have pf2 := Kp.out.frozen 2
 have pz := Kp.out.lt
 go_wp2_with fail
 with_reducible refine (wW9_is ⟨#[98]⟩ _).mono ?_
 rintro e w7 ⟨rfl, hb⟩
 have hbs := Below.trans (show Below w6.heap.size w6 _ from (by (repeat (first | exact Below.refl _ _ | refine Below.drew ?_ | refine Below.al ?_ _ | refine Below.sc ?_ _)))) (hb.mono (by simp <;> omega))
 have Kv := Lib.hid (Kv.out.new_ hbs)
 have Kp := Lib.hid (Kp.out.new_ hbs)
 have HRD := Lib.hid (HRD.out.new_ hbs)
 have HB := Lib.hid (HB.out.trans (hbs.mono HB.out.size))
 have hsz7 := hbs.size
 clear v0 v1 v2 vz p0 p1 p2 pf0 pf1 pf2 pz hb hbs
 obtain ⟨v0, v1, v2⟩ := Kv.out.c3
 have vz := Kv.out.lt
 obtain ⟨p0, p1, p2⟩ := Kp.out.c3
 have pf0 := Kp.out.frozen 0
 have pf1 := Kp.out.frozen 1
 have pf2 := Kp.out.frozen 2
 have pz := Kp.out.lt
 go_wp2_with fail
 with_reducible refine (wN9_is 1 _).mono ?_
 rintro e w8 ⟨rfl, hb⟩
 have hbs := Below.trans (show Below w7.heap.size w7 _ from (by (repeat (first | exact Below.refl _ _ | refine Below.drew ?_ | refine Below.al ?_ _ | refine Below.sc ?_ _)))) (hb.mono (by simp <;> omega))
 have Kv := Lib.hid (Kv.out.new_ hbs)
 have Kp := Lib.hid (Kp.out.new_ hbs)
 have HRD := Lib.hid (HRD.out.new_ hbs)
 have HB := Lib.hid (HB.out.trans (hbs.mono HB.out.size))
 have hsz8 := hbs.size
 clear v0 v1 v2 vz p0 p1 p2 pf0 pf1 pf2 pz hb hbs
 obtain ⟨v0, v1, v2⟩ := Kv.out.c3
 have vz := Kv.out.lt
 obtain ⟨p0, p1, p2⟩ := Kp.out.c3
 have pf0 := Kp.out.frozen 0
 have pf1 := Kp.out.frozen 1
 have pf2 := Kp.out.frozen 2
 have pz := Kp.out.lt
 go_wp2_with fail
 obtain ⟨X, hX⟩ : ∃ X, X = w8.setCell ⟨w5.heap.size, 2, none⟩ (.slice (some ⟨w8.heap.size, 0, none⟩) 2 2) := ⟨_, rfl⟩
 rw [← hX]
 have hFX : Fr (· = w5.heap.size) w8 X := by rw [hX]; exact (Fr.refl (· = w5.heap.size) w8).setCell (p := ⟨w5.heap.size, 2, none⟩) (.inl rfl) _
 have hsX : X.heap.size = w8.heap.size := by rw [hX]; simp
 have KpX : Blk X w5.heap.size 42 #[.string ⟨#[97]⟩, .slice Ac 1 1, .slice (some ⟨w8.heap.size, 0, none⟩) 2 2] := by rw [hX]; simpa using (Kp.out.set_ 2 (.slice (some ⟨w8.heap.size, 0, none⟩) 2 2))
 have KvX := Kv.out.fr hFX (Kv.out.ne_ Kp.out (by decide))
 obtain ⟨Z, hZ⟩ : ∃ Z, Z = X.alloc (.cells #[.string ⟨#[115]⟩, .string ⟨#[]⟩, .int .i64 3, .string ⟨#[97]⟩, .int .i64 0, .int .i64 0, .string ⟨#[111]⟩, .int .i64 0, .string ⟨#[]⟩, .int .i64 0, .string ⟨#[]⟩, .int .i64 0, .string ⟨#[]⟩, .int .i64 0, .int .i64 1, .string ⟨#[]⟩, .int .i64 0, .string ⟨#[]⟩, .int .i64 0, .string ⟨#[111]⟩, .string ⟨#[]⟩, .int .i64 3, .string ⟨#[98]⟩, .int .i64 0, .int .i64 0, .string ⟨#[]⟩, .int .i64 2, .string ⟨#[]⟩, .int .i64 1, .string ⟨#[]⟩, .int .i64 0, .string ⟨#[]⟩, .int .i64 0, .int .i64 1, .string ⟨#[]⟩, .int .i64 0, .string ⟨#[]⟩, .int .i64 0] 65) := ⟨_, rfl⟩
 rw [← hZ]
 have hbZX : Below X.heap.size X Z := by rw [hZ]; exact (Below.refl _ _).alloc (Nat.le_refl _) _
 have ga : Blk Z w8.heap.size 65 #[.string ⟨#[115]⟩, .string ⟨#[]⟩, .int .i64 3, .string ⟨#[97]⟩, .int .i64 0, .int .i64 0, .string ⟨#[111]⟩, .int .i64 0, .string ⟨#[]⟩, .int .i64 0, .string ⟨#[]⟩, .int .i64 0, .string ⟨#[]⟩, .int .i64 0, .int .i64 1, .string ⟨#[]⟩, .int .i64 0, .string ⟨#[]⟩, .int .i64 0, .string ⟨#[111]⟩, .string ⟨#[]⟩, .int .i64 3, .string ⟨#[98]⟩, .int .i64 0, .int .i64 0, .string ⟨#[]⟩, .int .i64 2, .string ⟨#[]⟩, .int .i64 1, .string ⟨#[]⟩, .int .i64 0, .string ⟨#[]⟩, .int .i64 0, .int .i64 1, .string ⟨#[]⟩, .int .i64 0, .string ⟨#[]⟩, .int .i64 0] := by rw [hZ, ← hsX]; exact Blk.new _ _ _
 have hzw := HB.out.size
 have hpw : w.heap.size ≤ w5.heap.size := hs0
 have HBZ := Lib.hid ((HB.out.trans (hFX.below hzw (fun k hk hn => by omega))).trans (hbZX.mono (by omega)))
 have hzX := hbZX.size
 have hlX := ga.lt
 have HRA := Lib.hid (show RowR repActT (· < Z.heap.size) Z (some ⟨w8.heap.size, 0, none⟩) 2 [wkA, wkC] from row_two (cs := [.string ⟨#[115]⟩, .string ⟨#[]⟩, .int .i64 3, .string ⟨#[97]⟩, .int .i64 0, .int .i64 0, .string ⟨#[111]⟩, .int .i64 0, .string ⟨#[]⟩, .int .i64 0, .string ⟨#[]⟩, .int .i64 0, .string ⟨#[]⟩, .int .i64 0, .int .i64 1, .string ⟨#[]⟩, .int .i64 0, .string ⟨#[]⟩, .int .i64 0]) (ds := [.string ⟨#[111]⟩, .string ⟨#[]⟩, .int .i64 3, .string ⟨#[98]⟩, .int .i64 0, .int .i64 0, .string ⟨#[]⟩, .int .i64 2, .string ⟨#[]⟩, .int .i64 1, .string ⟨#[]⟩, .int .i64 0, .string ⟨#[]⟩, .int .i64 0, .int .i64 1, .string ⟨#[]⟩, .int .i64 0, .string ⟨#[]⟩, .int .i64 0]) ga hlX rfl rfl)
 have hpz := KpX.lt
 have HRC := Lib.hid (show RowR (repCondT 1) (· < Z.heap.size) Z Ac 1 [oneCond] from ((HRD.out.fr hFX (fun k hk hn => by omega)).new_ hbZX).weaken (fun k hk => by omega))
 have Kp := Lib.hid (KpX.new_ hbZX)
 have Kv := Lib.hid (KvX.new_ hbZX)
 have ps8 : w5.heap.size < Z.heap.size := by omega
 have HBZ0 := Lib.hid (show w.heap.size ≤ Z.heap.size by omega)
 clear hX hFX hZ hbZX KpX KvX ga HB
 have HB := Lib.hid HBZ.out
 clear HBZ
 clear v0 v1 v2 vz p0 p1 p2 pf0 pf1 pf2 pz HRD
 obtain ⟨v0, v1, v2⟩ := Kv.out.c3
 have vz := Kv.out.lt
 obtain ⟨p0, p1, p2⟩ := Kp.out.c3
 have pz := Kp.out.lt
 with_reducible refine (gt_new 20 Z (by decide) (by decide)).mono ?_
 rintro e w21 ⟨T, rfl, hroom, hgt, hb⟩
 have hbs := Below.trans (show Below Z.heap.size Z _ from (by (repeat (first | exact Below.refl _ _ | refine Below.drew ?_ | refine Below.al ?_ _ | refine Below.sc ?_ _)))) (hb.mono (by simp <;> omega))
 have Kv := Lib.hid (Kv.out.new_ hbs)
 have Kp := Lib.hid (Kp.out.new_ hbs)
 have HRC := Lib.hid (HRC.out.new_ hbs)
 have HRA := Lib.hid (HRA.out.new_ hbs)
 have HB := Lib.hid (HB.out.trans (hbs.mono HB.out.size))
 have hsz21 := hbs.size
 clear v0 v1 v2 vz p0 p1 p2 pz hb hbs
 obtain ⟨v0, v1, v2⟩ := Kv.out.c3
 have vz := Kv.out.lt
 obtain ⟨p0, p1, p2⟩ := Kp.out.c3
 have pz := Kp.out.lt
 have HT := Lib.hid hgt
 have HROOM := Lib.hid hroom
 clear hgt hroom
 go_upto_region 7 with fail
 have HDO := Lib.hid (show ∀ (D : Nat → Prop) (Y : World) (Al : Option Addr), GT D Y T [] → RowR (repCondT 1) D Y Ac 1 [oneCond] → RowR repActT D Y (some ⟨w8.heap.size, 0, none⟩) 2 [wkA, wkC] → RowR repBindT D Y Al 1 [wkL] →
  Calls Tryz.prog 25 #[.agg #[.string ⟨#[97]⟩, .slice Ac 1 1, .slice (some ⟨w8.heap.size, 0, none⟩) 2 2], .slice Al 1 1, .pointer (some ⟨T.b, 0, none⟩)] Y (WkTo D Y) from fun D Y Al g1 g2 g3 g4 => by
  have := do_is (D := D) 1 wkP [wkL] Ac (some ⟨w8.heap.size, 0, none⟩) Al 1 2 1 Y T [] g1 g2 g3 g4 (by decide) (by decide) (by decide)
  rw [HROOM.out, wk_do] at this
  exact this.mono (fun _ _ h => wkTo_of h))
 refine wp_region_E (fun w9 => Below w21.heap.size w21 w9) [(0, 1), (4, 0), (1, 2), (2, 0), (3, 2), (5, 2), (6, 0), (7, 0), (8, 0), (9, 0), (10, 0), (11, 0), (12, 0)] (by kernel_rfl) (by kernel_rfl) (fun KK hKK => ?_)
 simp only [beside, List.filterMap_cons, List.filterMap_nil, List.getElem?_toArray, List.getElem?_cons_zero, List.getElem?_cons_succ, Option.map_some]
 repeat ((first | (refine wpX_w ?_ (Or.inl ⟨by rfl, fun w9 => ?_⟩) ?_; rotate_left 1; go_simp; with_reducible rfl) | (refine wpX_l ?_ ((Below.refl _ _).drew) (Or.inl ⟨by rfl, fun w9 hw9 => ?_⟩) ?_; rotate_left 1; have q0 := (hw9.cell (p := ⟨w5.heap.size, 0, none⟩) pz).trans p0; have q1 := (hw9.cell (p := ⟨w5.heap.size, 1, none⟩) pz).trans p1; have q2 := (hw9.cell (p := ⟨w5.heap.size, 2, none⟩) pz).trans p2; go_simp; with_reducible rfl) | refine wpX_w undef (Or.inr ⟨by rfl, rfl⟩) ?_ | refine wpX_l undef ((Below.refl _ _).drew) (Or.inr ⟨by rfl, rfl⟩) ?_); go_frame)
 refine wpX_es (fun K9 hK9 => ?_)
 go_simp
 refine (wI9_is _ _ _).mono ?_
 rintro e w22 ⟨rfl, hb22⟩
 have HB22 := Lib.hid ((Below.refl w21.heap.size w21).drew.trans (hb22.mono (by simp)))
 clear hb22
 refine hK9 _ _ HB22.out ?_
 clear hK9 K9
 repeat ((first | (refine wpX_w ?_ (Or.inl ⟨by rfl, fun w9 => ?_⟩) ?_; rotate_left 1; go_simp; with_reducible rfl) | (refine wpX_l ?_ (HB22.out) (Or.inl ⟨by rfl, fun w9 hw9 => ?_⟩) ?_; rotate_left 1; have q0 := (hw9.cell (p := ⟨w5.heap.size, 0, none⟩) pz).trans p0; have q1 := (hw9.cell (p := ⟨w5.heap.size, 1, none⟩) pz).trans p1; have q2 := (hw9.cell (p := ⟨w5.heap.size, 2, none⟩) pz).trans p2; go_simp; with_reducible rfl) | refine wpX_w undef (Or.inr ⟨by rfl, rfl⟩) ?_ | refine wpX_l undef (HB22.out) (Or.inr ⟨by rfl, rfl⟩) ?_); go_frame)
 refine wpX_es (fun K9 hK9 => ?_)
 go_simp
 have HB23 := Lib.hid (show Below w21.heap.size w21 (w22.alloc (.cells #[.string ⟨#[115]⟩, .int .i64 1, .string ⟨#[83]⟩, .int .i64 1] 36)) from HB22.out.alloc HB22.out.size _)
 refine hK9 _ _ HB23.out ?_
 clear hK9 K9
 refine wpX_e (by kernel_rfl) (fun K9 hK9 => ?_)
 go_simp
 have HPL := Lib.hid (HT.out.plus HB23.out)
 have hb22 : Below w22.heap.size w22 (w22.alloc (.cells #[.string ⟨#[115]⟩, .int .i64 1, .string ⟨#[83]⟩, .int .i64 1] 36)) := (Below.refl _ _).alloc (Nat.le_refl _) _
 refine (HDO.out (Plus (· < Z.heap.size) w21 (w22.alloc (.cells #[.string ⟨#[115]⟩, .int .i64 1, .string ⟨#[83]⟩, .int .i64 1] 36))) (w22.alloc (.cells #[.string ⟨#[115]⟩, .int .i64 1, .string ⟨#[83]⟩, .int .i64 1] 36)) (some ⟨w22.heap.size, 0, none⟩) HPL.out ((HRC.out.new_ HB23.out).weaken (fun k hk => .inl hk)) ((HRA.out.new_ HB23.out).weaken (fun k hk => .inl hk)) (row_one (cs := [.string ⟨#[115]⟩, .int .i64 1, .string ⟨#[83]⟩, .int .i64 1]) (Blk.new _ _ _) (.inr ⟨HB22.out.size, by simp⟩) rfl)).mono ?_
 rintro e w24 ⟨g, c, g', c', rfl, hgl, ⟨hc1, hc2, hc3, hc4⟩, ⟨g6, g7, g8⟩, ⟨g16, g17, g18⟩, hF⟩
 have HB24 := Lib.hid (show Below w.heap.size w w24 from (HB.out.trans (HB23.out.mono HB.out.size)).trans (hF.below (by have := HB23.out.size; have := HB.out.size; omega) (fun k hk hn => hn (.inl (by have := HBZ0.out; omega)))))
 clear hF hb22
 refine hK9 _ _ ?_
 clear hK9 K9
 repeat ((first | (refine wpX_w ?_ (Or.inl ⟨by rfl, fun w9 => ?_⟩) ?_; rotate_left 1; go_simp; with_reducible rfl) | (refine wpX_l ?_ (HB23.out) (Or.inl ⟨by rfl, fun w9 hw9 => ?_⟩) ?_; rotate_left 1; have q0 := (hw9.cell (p := ⟨w5.heap.size, 0, none⟩) pz).trans p0; have q1 := (hw9.cell (p := ⟨w5.heap.size, 1, none⟩) pz).trans p1; have q2 := (hw9.cell (p := ⟨w5.heap.size, 2, none⟩) pz).trans p2; go_simp; with_reducible rfl) | refine wpX_w undef (Or.inr ⟨by rfl, rfl⟩) ?_ | refine wpX_l undef (HB23.out) (Or.inr ⟨by rfl, rfl⟩) ?_); go_frame)
 refine wpX_nil ?_
 simp only [OnlyN_normal]
 refine hKK _ _ ?_
 clear hKK KK
 go_upto_region 8 with fail
 refine wp_region_E (fun w9 => Below w24.heap.size w24 w9) [(0, 0), (1, 0), (2, 0), (3, 0), (4, 0), (5, 0), (6, 0), (7, 0), (8, 0), (9, 0), (10, 0), (11, 0), (12, 0), (13, 0), (14, 0), (15, 0), (16, 1), (17, 2), (18, 0), (19, 0), (20, 0), (21, 0), (22, 0), (23, 0), (24, 1), (25, 0), (26, 0), (27, 0), (28, 1), (29, 0), (30, 0), (31, 0)] (by kernel_rfl) (by kernel_rfl) (fun KK hKK => ?_)
 simp only [beside, List.filterMap_cons, List.filterMap_nil, List.getElem?_toArray, List.getElem?_cons_zero, List.getElem?_cons_succ, Option.map_some]
 repeat ((first | (refine wpX_w ?_ (Or.inl ⟨by rfl, fun w9 => ?_⟩) ?_; rotate_left 1; go_simp; with_reducible rfl) | (refine wpX_l ?_ ((Below.refl _ _).drew) (Or.inl ⟨by rfl, fun w9 hw9 => ?_⟩) ?_; rotate_left 1; have q6 := (hw9.cell (p := ⟨g, 6, none⟩) hgl).trans g6; have q7 := (hw9.cell (p := ⟨g, 7, none⟩) hgl).trans g7; have q8 := (hw9.cell (p := ⟨g, 8, none⟩) hgl).trans g8; have q16 := (hw9.cell (p := ⟨g, 16, none⟩) hgl).trans g16; have q17 := (hw9.cell (p := ⟨g, 17, none⟩) hgl).trans g17; have q18 := (hw9.cell (p := ⟨g, 18, none⟩) hgl).trans g18; go_simp; with_reducible rfl) | refine wpX_w undef (Or.inr ⟨by rfl, rfl⟩) ?_ | refine wpX_l undef ((Below.refl _ _).drew) (Or.inr ⟨by rfl, rfl⟩) ?_); go_frame)
 refine wpX_es (fun K9 hK9 => ?_)
 go_simp
 refine (wI9_is _ _ _).mono ?_
 rintro e w25 ⟨rfl, hb25⟩
 have HB25 := Lib.hid ((Below.refl w24.heap.size w24).drew.trans (hb25.mono (by simp)))
 clear hb25
 refine hK9 _ _ HB25.out ?_
 clear hK9 K9
 repeat ((first | (refine wpX_w ?_ (Or.inl ⟨by rfl, fun w9 => ?_⟩) ?_; rotate_left 1; go_simp; with_reducible rfl) | (refine wpX_l ?_ (HB25.out) (Or.inl ⟨by rfl, fun w9 hw9 => ?_⟩) ?_; rotate_left 1; have q6 := (hw9.cell (p := ⟨g, 6, none⟩) hgl).trans g6; have q7 := (hw9.cell (p := ⟨g, 7, none⟩) hgl).trans g7; have q8 := (hw9.cell (p := ⟨g, 8, none⟩) hgl).trans g8; have q16 := (hw9.cell (p := ⟨g, 16, none⟩) hgl).trans g16; have q17 := (hw9.cell (p := ⟨g, 17, none⟩) hgl).trans g17; have q18 := (hw9.cell (p := ⟨g, 18, none⟩) hgl).trans g18; go_simp; with_reducible rfl) | refine wpX_w undef (Or.inr ⟨by rfl, rfl⟩) ?_ | refine wpX_l undef (HB25.out) (Or.inr ⟨by rfl, rfl⟩) ?_); go_frame)
 refine wpX_nil ?_
 simp only [OnlyN_normal]
 refine hKK _ _ ?_
 clear hKK KK
 go_wp2_with fail
 go_ret
 exact ⟨rfl, HB24.out.trans (HB25.out.mono HB24.out.size)⟩
end Go.Proofs.YtpndmjabjjbefaaGreat
namespace Go.Proofs.YtpndmjabjjbefaaGreat
open Go.RowKit Go.Shelf
attribute [local go_sem] Oper.semAt_some
theorem num_ok {m : Int} (h1 : -2147483647 ≤ m) (h2 : m ≤ 2147483647) : numB2 ⟨2, ⟨#[]⟩, m⟩ = true := by
 simp [numB2, validB]
 omega
def sumT (i : Int) : TermT := ⟨1 + i, ⟨⟨#[120]⟩, zS⟩, ⟨⟨#[121]⟩, zS⟩⟩
def sumB (m n : Int) : List BindT := [⟨⟨#[120]⟩, ⟨2, ⟨#[]⟩, m⟩⟩, ⟨⟨#[121]⟩, ⟨2, ⟨#[]⟩, n⟩⟩]
def sumW (m n : Int) : List Int := [m + n, m - n, m * n]
theorem sum_a (m n i : Int) : atomV (sumT i).a (sumB m n) = (⟨2, ⟨#[]⟩, m⟩, true) := by kernel_rfl
theorem sum_b (m n i : Int) : atomV (sumT i).b (sumB m n) = (⟨2, ⟨#[]⟩, n⟩, true) := by kernel_rfl
theorem sum_value {m n : Int} (h1 : -2147483647 ≤ m) (h2 : m ≤ 2147483647) (h3 : -2147483647 ≤ n) (h4 : n ≤ 2147483647) {i : Nat} (hi : i < (sumW m n).length) : valueV (sumT i) (sumB m n) = numR (sumW m n)[i] := by
 unfold valueV
 rw [sum_a, sum_b, if_neg (by simp), if_neg (by simp [sumT]; omega), if_neg (by simp [num_ok h1 h2, num_ok h3 h4])]
 rcases i with _ | _ | _ | i
 · simp [sumT, sumW]
 · simp [sumT, sumW]
 · simp [sumT, sumW]
 · simp [sumW] at hi
   omega
theorem within_max (v : Int) : 0 ≤ within v 4294967295 ∧ within v 4294967295 ≤ 4294967294 := by
 unfold within
 rw [if_neg (by decide)]
 have h1 := Int.emod_nonneg v (show (4294967295 : Int) ≠ 0 by decide)
 have h2 := Int.emod_lt_of_pos v (show (0 : Int) < 4294967295 by decide)
 omega
theorem neq_same (x : Sym) (W : World) : (binOp .neq 23 (.agg #[.int .i64 x.kind, .string x.text, .int .i64 x.n]) (.agg #[.int .i64 x.kind, .string x.text, .int .i64 x.n])).run Tryz.prog W = .ok (.bool false) W := by
 rw [neq_sym]; simp
set_option maxRecDepth 100000 in
set_option maxHeartbeats 4000000 in
theorem sums_walk (n0 n1 : Int) (w : World) : Calls Tryz.prog 4 #[.int .i64 n0, .int .i64 n1] w fun e w' => e = .returned (.bool true) ∧ Below w.heap.size w w' := by
 obtain ⟨a1, a2⟩ := within_max n0
 obtain ⟨b1, b2⟩ := within_max n1
 obtain ⟨m, hm⟩ : ∃ m, m = within n0 4294967295 - 2147483647 := ⟨_, rfl⟩
 obtain ⟨n, hn⟩ : ∃ n, n = within n1 4294967295 - 2147483647 := ⟨_, rfl⟩
 have c1 : -2147483647 ≤ m := by omega
 have c2 : m ≤ 2147483647 := by omega
 have c3 : -2147483647 ≤ n := by omega
 have c4 : n ≤ 2147483647 := by omega
 have v1 : IntKind.i64.wrap (within n0 4294967295 - 2147483647) = m := by rw [hm]; exact IntWalk.i64_in _ (by omega)
 have v2 : IntKind.i64.wrap (within n1 4294967295 - 2147483647) = n := by rw [hn]; exact IntWalk.i64_in _ (by omega)
 obtain ⟨d1, d2⟩ := mul_le62 c1 c2 c3 c4
 have v3 := wrap62 d1 d2
 have v4 : IntKind.i64.wrap (m + n) = m + n := IntWalk.i64_in _ (by omega)
 have v5 : IntKind.i64.wrap (m - n) = m - n := IntWalk.i64_in _ (by omega)
 have HV := Lib.hid (fun (i : Nat) (hi : i < (sumW m n).length) => sum_value c1 c2 c3 c4 hi)
 have HB := Lib.hid (Below.refl w.heap.size w)
 have HM := Lib.hid hm
 have HN := Lib.hid hn
 clear hm hn a1 a2 b1 b2 d1 d2
 go_enter Tryz.func4, Tryz.ntmps4
 go_wp2_with fail
 with_reducible refine (within_is n0 _ _ (by decide)).mono ?_
 rintro e w0 ⟨rfl, rfl⟩
 go_wp2_with fail
 with_reducible refine (within_is n1 _ _ (by decide)).mono ?_
 rintro e w0 ⟨rfl, rfl⟩
 go_wp2_with fail
 with_reducible refine (wN9_is m _).mono ?_
 rintro e w2 ⟨rfl, hb⟩
 have hbs := Below.trans (show Below w.heap.size w _ from (by (repeat (first | exact Below.refl _ _ | refine Below.drew ?_ | refine Below.al ?_ _ | refine Below.sc ?_ _)))) (hb.mono (by simp <;> omega))
 have HB := Lib.hid (HB.out.trans (hbs.mono HB.out.size))
 have hsz2 := hbs.size
 clear  hb hbs
 go_wp2_with fail
 with_reducible refine (wN9_is n _).mono ?_
 rintro e w3 ⟨rfl, hb⟩
 have hbs := Below.trans (show Below w2.heap.size w2 _ from (by (repeat (first | exact Below.refl _ _ | refine Below.drew ?_ | refine Below.al ?_ _ | refine Below.sc ?_ _)))) (hb.mono (by simp <;> omega))
 have HB := Lib.hid (HB.out.trans (hbs.mono HB.out.size))
 have hsz3 := hbs.size
 clear  hb hbs
 go_wp2_with fail
 obtain ⟨X, hX⟩ : ∃ X, X = ((((w3.alloc (.cells #[.string ⟨#[120]⟩, .int .i64 2, .string ⟨#[]⟩, .int .i64 m, .string ⟨#[121]⟩, .int .i64 2, .string ⟨#[]⟩, .int .i64 n] 36)).alloc (.cells #[.string ⟨#[120]⟩, .int .i64 0, .string ⟨#[]⟩, .int .i64 0] 25)).alloc (.cells #[.string ⟨#[121]⟩, .int .i64 0, .string ⟨#[]⟩, .int .i64 0] 25)).alloc (.cells #[.int .i64 (m + n), .int .i64 (m - n), .int .i64 (m * n)] 3)) := ⟨_, rfl⟩
 rw [← hX]
 have Kg := Lib.hid (show Blk X (w3.heap.size) 36 #[.string ⟨#[120]⟩, .int .i64 2, .string ⟨#[]⟩, .int .i64 m, .string ⟨#[121]⟩, .int .i64 2, .string ⟨#[]⟩, .int .i64 n] by rw [hX]; have hh := ((((Blk.new w3 36 #[.string ⟨#[120]⟩, .int .i64 2, .string ⟨#[]⟩, .int .i64 m, .string ⟨#[121]⟩, .int .i64 2, .string ⟨#[]⟩, .int .i64 n]).alloc (.cells #[.string ⟨#[120]⟩, .int .i64 0, .string ⟨#[]⟩, .int .i64 0] 25)).alloc (.cells #[.string ⟨#[121]⟩, .int .i64 0, .string ⟨#[]⟩, .int .i64 0] 25)).alloc (.cells #[.int .i64 (m + n), .int .i64 (m - n), .int .i64 (m * n)] 3)); (try simp only [World.size_alloc] at hh); exact hh)
 have Ka := Lib.hid (show Blk X (w3.heap.size + 1) 25 #[.string ⟨#[120]⟩, .int .i64 0, .string ⟨#[]⟩, .int .i64 0] by rw [hX]; have hh := (((Blk.new (w3.alloc (.cells #[.string ⟨#[120]⟩, .int .i64 2, .string ⟨#[]⟩, .int .i64 m, .string ⟨#[121]⟩, .int .i64 2, .string ⟨#[]⟩, .int .i64 n] 36)) 25 #[.string ⟨#[120]⟩, .int .i64 0, .string ⟨#[]⟩, .int .i64 0]).alloc (.cells #[.string ⟨#[121]⟩, .int .i64 0, .string ⟨#[]⟩, .int .i64 0] 25)).alloc (.cells #[.int .i64 (m + n), .int .i64 (m - n), .int .i64 (m * n)] 3)); (try simp only [World.size_alloc] at hh); exact hh)
 have Kb := Lib.hid (show Blk X (w3.heap.size + 1 + 1) 25 #[.string ⟨#[121]⟩, .int .i64 0, .string ⟨#[]⟩, .int .i64 0] by rw [hX]; have hh := ((Blk.new ((w3.alloc (.cells #[.string ⟨#[120]⟩, .int .i64 2, .string ⟨#[]⟩, .int .i64 m, .string ⟨#[121]⟩, .int .i64 2, .string ⟨#[]⟩, .int .i64 n] 36)).alloc (.cells #[.string ⟨#[120]⟩, .int .i64 0, .string ⟨#[]⟩, .int .i64 0] 25)) 25 #[.string ⟨#[121]⟩, .int .i64 0, .string ⟨#[]⟩, .int .i64 0]).alloc (.cells #[.int .i64 (m + n), .int .i64 (m - n), .int .i64 (m * n)] 3)); (try simp only [World.size_alloc] at hh); exact hh)
 have Kv := Lib.hid (show Blk X (w3.heap.size + 1 + 1 + 1) 3 #[.int .i64 (m + n), .int .i64 (m - n), .int .i64 (m * n)] by rw [hX]; have hh := (Blk.new (((w3.alloc (.cells #[.string ⟨#[120]⟩, .int .i64 2, .string ⟨#[]⟩, .int .i64 m, .string ⟨#[121]⟩, .int .i64 2, .string ⟨#[]⟩, .int .i64 n] 36)).alloc (.cells #[.string ⟨#[120]⟩, .int .i64 0, .string ⟨#[]⟩, .int .i64 0] 25)).alloc (.cells #[.string ⟨#[121]⟩, .int .i64 0, .string ⟨#[]⟩, .int .i64 0] 25)) 3 #[.int .i64 (m + n), .int .i64 (m - n), .int .i64 (m * n)]); (try simp only [World.size_alloc] at hh); exact hh)
 have HBX := Lib.hid (show Below w.heap.size w X by rw [hX]; exact (by repeat (first | exact Below.refl _ _ | exact HB.out | refine Below.drew ?_ | refine Below.al ?_ _ | refine Below.sc ?_ _)))
 clear hX
 go_loopw [9] (fun s wr => ∃ i : Nat, s = .int .i64 i ∧ i ≤ 3 ∧ Below X.heap.size X wr) (fun s wr => 3 - (intOf s).toNat)
 case atStart => exact ⟨0, rfl, by omega, Below.refl _ _⟩
 case round =>
  obtain ⟨i, rfl, hi, hbX⟩ := hrel
  by_cases hlt : i < 3
  · have hwl : i < (sumW m n).length := hlt
    have HVI := Lib.hid (HV.out i hwl)
    obtain ⟨v, hv⟩ : ∃ v, v = (sumW m n)[i] := ⟨_, rfl⟩
    rw [← hv] at HVI
    have hcv : (#[.int .i64 (m + n), .int .i64 (m - n), .int .i64 (m * n)] : Array Value)[i]? = some (.int .i64 v) := by
     rw [hv]
     rcases i with _ | _ | _ | i
     · rfl
     · rfl
     · rfl
     · omega
    have HWI := Lib.hid (show ∀ Y, Below X.heap.size X Y → Y.cell? ⟨w3.heap.size + 1 + 1 + 1, i, none⟩ = some (.int .i64 v) from fun Y hY => (((Kv.out.new_ hY).cell i).trans hcv))
    have HKA := Lib.hid (show ∀ Y, Below X.heap.size X Y → (Blk Y (w3.heap.size + 1) 25 #[.string ⟨#[120]⟩, .int .i64 0, .string ⟨#[]⟩, .int .i64 0] ∧ Blk Y (w3.heap.size + 1 + 1) 25 #[.string ⟨#[121]⟩, .int .i64 0, .string ⟨#[]⟩, .int .i64 0]) from fun Y hY => ⟨Ka.out.new_ hY, Kb.out.new_ hY⟩)
    have HRG := Lib.hid (show ∀ Y, Below X.heap.size X Y → RowR repBindT (fun _ => True) Y (some ⟨w3.heap.size, 0, none⟩) 2 (sumB m n) from fun Y hY => row_two (cs := [.string ⟨#[120]⟩, .int .i64 2, .string ⟨#[]⟩, .int .i64 m]) (ds := [.string ⟨#[121]⟩, .int .i64 2, .string ⟨#[]⟩, .int .i64 n]) (Kg.out.new_ hY) trivial rfl rfl)
    have b1 : (0 : Int) ≤ (i : Int) := by omega
    have b2 : (i : Int) < 3 := by omega
    have v6 : IntKind.i64.wrap (1 + (i : Int)) = 1 + (i : Int) := IntWalk.i64_in _ (by omega)
    have wi := HWI.out _ hbX
    have hks := HKA.out _ hbX
    have Ka := Lib.hid hks.1
    have Kb := Lib.hid hks.2
    have HX_ := Lib.hid hbX
    have hzx := hbX.size
    have hkv := Kv.out.lt
    clear hv hcv hwl hbX hks
    by_cases hr : v < -2147483647 ∨ 2147483647 < v
    · skip
      obtain ⟨a0, a1, a2, a3⟩ := Ka.out.c4
      have az := Ka.out.lt
      obtain ⟨b0, b1, b2, b3⟩ := Kb.out.c4
      have bz := Kb.out.lt
      have HC := Lib.hid (show ∀ Y, Below X.heap.size X Y → Calls Tryz.prog 11 #[.agg #[.int .i64 (1 + (i : Int)), .string ⟨#[120]⟩, .int .i64 0, .string ⟨#[]⟩, .int .i64 0, .string ⟨#[121]⟩, .int .i64 0, .string ⟨#[]⟩, .int .i64 0], .slice (some ⟨w3.heap.size, 0, none⟩) 2 2] Y (SymTo Y (⟨0, ⟨#[]⟩, 0⟩, false)) from fun Y hY => by have := value_is (sumT i) (sumB m n) Y (HRG.out Y hY); rw [HVI.out, numR_no hr] at this; exact this)
      by_cases ha : -2147483647 ≤ v
      · skip
        have t1 : decide ((-2147483647 : Int) ≤ v) = true := by simp; omega
        have t2 : decide (v ≤ 2147483647) = false := by simp; omega
        clear hr ha
        go_wp2_with fail
        with_reducible refine (HC.out _ (by (repeat (first | exact Below.refl _ _ | exact HX_.out | refine Below.drew ?_ | refine Below.al ?_ _ | refine Below.sc ?_ _)))).mono ?_
        rintro e w11 ⟨rfl, hb⟩
        have hbs := Below.trans (show Below wr.heap.size wr _ from (by (repeat (first | exact Below.refl _ _ | refine Below.drew ?_ | refine Below.al ?_ _ | refine Below.sc ?_ _)))) (hb.mono (by simp <;> omega))
        have Ka := Lib.hid (Ka.out.new_ hbs)
        have Kb := Lib.hid (Kb.out.new_ hbs)
        have HX_ := Lib.hid (HX_.out.trans (hbs.mono HX_.out.size))
        have hsz11 := hbs.size
        clear a0 a1 a2 a3 az b0 b1 b2 b3 bz hb hbs
        obtain ⟨a0, a1, a2, a3⟩ := Ka.out.c4
        have az := Ka.out.lt
        obtain ⟨b0, b1, b2, b3⟩ := Kb.out.c4
        have bz := Kb.out.lt
        have wi := HWI.out _ HX_.out
        have wz := Nat.lt_of_lt_of_le hkv HX_.out.size
        go_upto_region 11 with fail
        obtain ⟨Z, hZ⟩ : ∃ Z, Z = w11.alloc (.cells #[.int .i64 0, .string ⟨#[]⟩, .int .i64 0] 23) := ⟨_, rfl⟩
        rw [← hZ]
        have hbZ : Below X.heap.size X Z := by rw [hZ]; exact HX_.out.alloc HX_.out.size _
        have Ks := Lib.hid (show Blk Z w11.heap.size 23 #[.int .i64 0, .string ⟨#[]⟩, .int .i64 0] by rw [hZ]; exact Blk.new _ _ _)
        have HX_ := Lib.hid hbZ
        have wi := HWI.out _ hbZ
        have hkz := Ks.out.lt
        have hvz := Nat.lt_of_lt_of_le hkv hbZ.size
        clear hZ hbZ
        have hne := fun W => neq_same ⟨0, ⟨#[]⟩, 0⟩ W
        refine wp_region_E (fun w9 => Below Z.heap.size Z w9) [(0, 0), (1, 0), (2, 0), (3, 0), (4, 0), (5, 0), (6, 1), (7, 0), (8, 0), (9, 0), (10, 1), (11, 2), (12, 0), (13, 0), (14, 0), (15, 0), (16, 0), (17, 0), (18, 0), (19, 1), (20, 0), (21, 0), (22, 0), (23, 0)] (by kernel_rfl) (by kernel_rfl) (fun KK hKK => ?_)
        simp only [beside, List.filterMap_cons, List.filterMap_nil, List.getElem?_toArray, List.getElem?_cons_zero, List.getElem?_cons_succ, Option.map_some]
        repeat ((first | (refine wpX_w ?_ (Or.inl ⟨by rfl, fun w9 => ?_⟩) ?_; rotate_left 1; go_simp; with_reducible rfl) | (refine wpX_l ?_ ((Below.refl _ _).drew) (Or.inl ⟨by rfl, fun w9 hw9 => ?_⟩) ?_; rotate_left 1; have s0 := ((Ks.out.new_ hw9).cell 0).trans rfl; have s1 := ((Ks.out.new_ hw9).cell 1).trans rfl; have s2 := ((Ks.out.new_ hw9).cell 2).trans rfl; have wi := (hw9.cell (p := ⟨w3.heap.size + 1 + 1 + 1, i, none⟩) hvz).trans wi; simp only [List.getElem?_toArray, List.getElem?_cons_zero, List.getElem?_cons_succ] at s0 s1 s2; go_simp; with_reducible rfl) | refine wpX_w undef (Or.inr ⟨by rfl, rfl⟩) ?_ | refine wpX_l undef ((Below.refl _ _).drew) (Or.inr ⟨by rfl, rfl⟩) ?_); go_frame)
        refine wpX_es (fun K9 hK9 => ?_)
        go_simp
        refine hK9 _ _ (Below.refl _ _).drew ?_
        clear hK9 K9
        repeat ((first | (refine wpX_w ?_ (Or.inl ⟨by rfl, fun w9 => ?_⟩) ?_; rotate_left 1; go_simp; with_reducible rfl) | (refine wpX_l ?_ ((Below.refl _ _).drew) (Or.inl ⟨by rfl, fun w9 hw9 => ?_⟩) ?_; rotate_left 1; have s0 := ((Ks.out.new_ hw9).cell 0).trans rfl; have s1 := ((Ks.out.new_ hw9).cell 1).trans rfl; have s2 := ((Ks.out.new_ hw9).cell 2).trans rfl; have wi := (hw9.cell (p := ⟨w3.heap.size + 1 + 1 + 1, i, none⟩) hvz).trans wi; simp only [List.getElem?_toArray, List.getElem?_cons_zero, List.getElem?_cons_succ] at s0 s1 s2; go_simp; with_reducible rfl) | refine wpX_w undef (Or.inr ⟨by rfl, rfl⟩) ?_ | refine wpX_l undef ((Below.refl _ _).drew) (Or.inr ⟨by rfl, rfl⟩) ?_); go_frame)
        refine wpX_nil ?_
        simp only [OnlyN_normal]
        refine hKK _ _ ?_
        clear hKK KK
        have HBR := Lib.hid (HX_.out.trans (Below.mono (show Below Z.heap.size Z _ from (Below.refl _ _).drew) HX_.out.size))
        go_wp2_with fail
        go_roundw
        case rel => exact ⟨i + 1, by go_num, by omega, HBR.out⟩
        case measure => simp [intOf] <;> omega
      · skip
        have t1 : decide ((-2147483647 : Int) ≤ v) = false := by simp; omega
        clear hr ha
        go_wp2_with fail
        with_reducible refine (HC.out _ (by (repeat (first | exact Below.refl _ _ | exact HX_.out | refine Below.drew ?_ | refine Below.al ?_ _ | refine Below.sc ?_ _)))).mono ?_
        rintro e w11 ⟨rfl, hb⟩
        have hbs := Below.trans (show Below wr.heap.size wr _ from (by (repeat (first | exact Below.refl _ _ | refine Below.drew ?_ | refine Below.al ?_ _ | refine Below.sc ?_ _)))) (hb.mono (by simp <;> omega))
        have Ka := Lib.hid (Ka.out.new_ hbs)
        have Kb := Lib.hid (Kb.out.new_ hbs)
        have HX_ := Lib.hid (HX_.out.trans (hbs.mono HX_.out.size))
        have hsz11 := hbs.size
        clear a0 a1 a2 a3 az b0 b1 b2 b3 bz hb hbs
        obtain ⟨a0, a1, a2, a3⟩ := Ka.out.c4
        have az := Ka.out.lt
        obtain ⟨b0, b1, b2, b3⟩ := Kb.out.c4
        have bz := Kb.out.lt
        have wi := HWI.out _ HX_.out
        have wz := Nat.lt_of_lt_of_le hkv HX_.out.size
        go_upto_region 11 with fail
        obtain ⟨Z, hZ⟩ : ∃ Z, Z = w11.alloc (.cells #[.int .i64 0, .string ⟨#[]⟩, .int .i64 0] 23) := ⟨_, rfl⟩
        rw [← hZ]
        have hbZ : Below X.heap.size X Z := by rw [hZ]; exact HX_.out.alloc HX_.out.size _
        have Ks := Lib.hid (show Blk Z w11.heap.size 23 #[.int .i64 0, .string ⟨#[]⟩, .int .i64 0] by rw [hZ]; exact Blk.new _ _ _)
        have HX_ := Lib.hid hbZ
        have wi := HWI.out _ hbZ
        have hkz := Ks.out.lt
        have hvz := Nat.lt_of_lt_of_le hkv hbZ.size
        clear hZ hbZ
        have hne := fun W => neq_same ⟨0, ⟨#[]⟩, 0⟩ W
        refine wp_region_E (fun w9 => Below Z.heap.size Z w9) [(0, 0), (1, 0), (2, 0), (3, 0), (4, 0), (5, 0), (6, 1), (7, 0), (8, 0), (9, 0), (10, 1), (11, 2), (12, 0), (13, 0), (14, 0), (15, 0), (16, 0), (17, 0), (18, 0), (19, 1), (20, 0), (21, 0), (22, 0), (23, 0)] (by kernel_rfl) (by kernel_rfl) (fun KK hKK => ?_)
        simp only [beside, List.filterMap_cons, List.filterMap_nil, List.getElem?_toArray, List.getElem?_cons_zero, List.getElem?_cons_succ, Option.map_some]
        repeat ((first | (refine wpX_w ?_ (Or.inl ⟨by rfl, fun w9 => ?_⟩) ?_; rotate_left 1; go_simp; with_reducible rfl) | (refine wpX_l ?_ ((Below.refl _ _).drew) (Or.inl ⟨by rfl, fun w9 hw9 => ?_⟩) ?_; rotate_left 1; have s0 := ((Ks.out.new_ hw9).cell 0).trans rfl; have s1 := ((Ks.out.new_ hw9).cell 1).trans rfl; have s2 := ((Ks.out.new_ hw9).cell 2).trans rfl; have wi := (hw9.cell (p := ⟨w3.heap.size + 1 + 1 + 1, i, none⟩) hvz).trans wi; simp only [List.getElem?_toArray, List.getElem?_cons_zero, List.getElem?_cons_succ] at s0 s1 s2; go_simp; with_reducible rfl) | refine wpX_w undef (Or.inr ⟨by rfl, rfl⟩) ?_ | refine wpX_l undef ((Below.refl _ _).drew) (Or.inr ⟨by rfl, rfl⟩) ?_); go_frame)
        refine wpX_es (fun K9 hK9 => ?_)
        go_simp
        refine hK9 _ _ (Below.refl _ _).drew ?_
        clear hK9 K9
        repeat ((first | (refine wpX_w ?_ (Or.inl ⟨by rfl, fun w9 => ?_⟩) ?_; rotate_left 1; go_simp; with_reducible rfl) | (refine wpX_l ?_ ((Below.refl _ _).drew) (Or.inl ⟨by rfl, fun w9 hw9 => ?_⟩) ?_; rotate_left 1; have s0 := ((Ks.out.new_ hw9).cell 0).trans rfl; have s1 := ((Ks.out.new_ hw9).cell 1).trans rfl; have s2 := ((Ks.out.new_ hw9).cell 2).trans rfl; have wi := (hw9.cell (p := ⟨w3.heap.size + 1 + 1 + 1, i, none⟩) hvz).trans wi; simp only [List.getElem?_toArray, List.getElem?_cons_zero, List.getElem?_cons_succ] at s0 s1 s2; go_simp; with_reducible rfl) | refine wpX_w undef (Or.inr ⟨by rfl, rfl⟩) ?_ | refine wpX_l undef ((Below.refl _ _).drew) (Or.inr ⟨by rfl, rfl⟩) ?_); go_frame)
        refine wpX_nil ?_
        simp only [OnlyN_normal]
        refine hKK _ _ ?_
        clear hKK KK
        have HBR := Lib.hid (HX_.out.trans (Below.mono (show Below Z.heap.size Z _ from (Below.refl _ _).drew) HX_.out.size))
        go_wp2_with fail
        go_roundw
        case rel => exact ⟨i + 1, by go_num, by omega, HBR.out⟩
        case measure => simp [intOf] <;> omega
    · skip
      obtain ⟨a0, a1, a2, a3⟩ := Ka.out.c4
      have az := Ka.out.lt
      obtain ⟨b0, b1, b2, b3⟩ := Kb.out.c4
      have bz := Kb.out.lt
      have HC := Lib.hid (show ∀ Y, Below X.heap.size X Y → Calls Tryz.prog 11 #[.agg #[.int .i64 (1 + (i : Int)), .string ⟨#[120]⟩, .int .i64 0, .string ⟨#[]⟩, .int .i64 0, .string ⟨#[121]⟩, .int .i64 0, .string ⟨#[]⟩, .int .i64 0], .slice (some ⟨w3.heap.size, 0, none⟩) 2 2] Y (SymTo Y (⟨2, ⟨#[]⟩, v⟩, true)) from fun Y hY => by have := value_is (sumT i) (sumB m n) Y (HRG.out Y hY); rw [HVI.out, numR_yes hr] at this; exact this)
      have t1 : decide ((-2147483647 : Int) ≤ v) = true := by simp; omega
      have t2 : decide (v ≤ 2147483647) = true := by simp; omega
      clear hr
      go_wp2_with fail
      with_reducible refine (HC.out _ (by (repeat (first | exact Below.refl _ _ | exact HX_.out | refine Below.drew ?_ | refine Below.al ?_ _ | refine Below.sc ?_ _)))).mono ?_
      rintro e w11 ⟨rfl, hb⟩
      have hbs := Below.trans (show Below wr.heap.size wr _ from (by (repeat (first | exact Below.refl _ _ | refine Below.drew ?_ | refine Below.al ?_ _ | refine Below.sc ?_ _)))) (hb.mono (by simp <;> omega))
      have Ka := Lib.hid (Ka.out.new_ hbs)
      have Kb := Lib.hid (Kb.out.new_ hbs)
      have HX_ := Lib.hid (HX_.out.trans (hbs.mono HX_.out.size))
      have hsz11 := hbs.size
      clear a0 a1 a2 a3 az b0 b1 b2 b3 bz hb hbs
      obtain ⟨a0, a1, a2, a3⟩ := Ka.out.c4
      have az := Ka.out.lt
      obtain ⟨b0, b1, b2, b3⟩ := Kb.out.c4
      have bz := Kb.out.lt
      have wi := HWI.out _ HX_.out
      have wz := Nat.lt_of_lt_of_le hkv HX_.out.size
      go_upto_region 11 with fail
      obtain ⟨Z, hZ⟩ : ∃ Z, Z = w11.alloc (.cells #[.int .i64 2, .string ⟨#[]⟩, .int .i64 v] 23) := ⟨_, rfl⟩
      rw [← hZ]
      have hbZ : Below X.heap.size X Z := by rw [hZ]; exact HX_.out.alloc HX_.out.size _
      have Ks := Lib.hid (show Blk Z w11.heap.size 23 #[.int .i64 2, .string ⟨#[]⟩, .int .i64 v] by rw [hZ]; exact Blk.new _ _ _)
      have HX_ := Lib.hid hbZ
      have wi := HWI.out _ hbZ
      have hkz := Ks.out.lt
      have hvz := Nat.lt_of_lt_of_le hkv hbZ.size
      clear hZ hbZ
      have hne := fun W => neq_same ⟨2, ⟨#[]⟩, v⟩ W
      refine wp_region_E (fun w9 => Below Z.heap.size Z w9) [(0, 0), (1, 0), (2, 0), (3, 0), (4, 0), (5, 0), (6, 1), (7, 0), (8, 0), (9, 0), (10, 1), (11, 2), (12, 0), (13, 0), (14, 0), (15, 0), (16, 0), (17, 0), (18, 0), (19, 1), (20, 0), (21, 0), (22, 0), (23, 0)] (by kernel_rfl) (by kernel_rfl) (fun KK hKK => ?_)
      simp only [beside, List.filterMap_cons, List.filterMap_nil, List.getElem?_toArray, List.getElem?_cons_zero, List.getElem?_cons_succ, Option.map_some]
      repeat ((first | (refine wpX_w ?_ (Or.inl ⟨by rfl, fun w9 => ?_⟩) ?_; rotate_left 1; go_simp; with_reducible rfl) | (refine wpX_l ?_ ((Below.refl _ _).drew) (Or.inl ⟨by rfl, fun w9 hw9 => ?_⟩) ?_; rotate_left 1; have s0 := ((Ks.out.new_ hw9).cell 0).trans rfl; have s1 := ((Ks.out.new_ hw9).cell 1).trans rfl; have s2 := ((Ks.out.new_ hw9).cell 2).trans rfl; have wi := (hw9.cell (p := ⟨w3.heap.size + 1 + 1 + 1, i, none⟩) hvz).trans wi; simp only [List.getElem?_toArray, List.getElem?_cons_zero, List.getElem?_cons_succ] at s0 s1 s2; go_simp; with_reducible rfl) | refine wpX_w undef (Or.inr ⟨by rfl, rfl⟩) ?_ | refine wpX_l undef ((Below.refl _ _).drew) (Or.inr ⟨by rfl, rfl⟩) ?_); go_frame)
      refine wpX_es (fun K9 hK9 => ?_)
      go_simp
      refine (wN9_is _ _).mono ?_
      rintro e w25 ⟨rfl, hb25⟩
      have HB25 := Lib.hid ((Below.refl Z.heap.size Z).drew.trans (hb25.mono (by simp)))
      clear hb25
      refine hK9 _ _ HB25.out ?_
      clear hK9 K9
      repeat ((first | (refine wpX_w ?_ (Or.inl ⟨by rfl, fun w9 => ?_⟩) ?_; rotate_left 1; go_simp; with_reducible rfl) | (refine wpX_l ?_ (HB25.out) (Or.inl ⟨by rfl, fun w9 hw9 => ?_⟩) ?_; rotate_left 1; have s0 := ((Ks.out.new_ hw9).cell 0).trans rfl; have s1 := ((Ks.out.new_ hw9).cell 1).trans rfl; have s2 := ((Ks.out.new_ hw9).cell 2).trans rfl; have wi := (hw9.cell (p := ⟨w3.heap.size + 1 + 1 + 1, i, none⟩) hvz).trans wi; simp only [List.getElem?_toArray, List.getElem?_cons_zero, List.getElem?_cons_succ] at s0 s1 s2; go_simp; with_reducible rfl) | refine wpX_w undef (Or.inr ⟨by rfl, rfl⟩) ?_ | refine wpX_l undef (HB25.out) (Or.inr ⟨by rfl, rfl⟩) ?_); go_frame)
      refine wpX_nil ?_
      simp only [OnlyN_normal]
      refine hKK _ _ ?_
      clear hKK KK
      have HBR := Lib.hid (HX_.out.trans (Below.mono (show Below Z.heap.size Z _ from HB25.out) HX_.out.size))
      go_wp2_with fail
      go_roundw
      case rel => exact ⟨i + 1, by go_num, by omega, HBR.out⟩
      case measure => simp [intOf] <;> omega
  · have hie : i = 3 := by omega
    subst hie
    have HX_ := Lib.hid hbX
    clear hbX
    go_wp2_with fail
    refine (wakes15_is _).mono ?_
    rintro e w20 ⟨rfl, hb⟩
    go_wp2_with fail
    go_ret
    exact ⟨rfl, (HBX.out.trans (HX_.out.mono HBX.out.size)).trans (hb.mono (by have := HBX.out.size; have := HX_.out.size; omega))⟩
end Go.Proofs.YtpndmjabjjbefaaGreat
namespace Go.Proofs.YtpndmjabjjbefaaGreat
open Go.RowKit Go.Shelf
theorem sym_of {a : Sym} {k : Int} (h : a.kind = k) : ∃ x y, a = ⟨k, x, y⟩ := by
 obtain ⟨k', x, y⟩ := a
 simp only at h
 subst h
 exact ⟨x, y, rfl⟩
def onlyV (s : Sym) (ok : Bool) : Sym × Bool := if ok = true then (s, true) else (zS, false)
set_option maxHeartbeats 1000000 in
theorem only_is (s : Sym) (ok : Bool) (w : World) : Calls Tryz.prog 40 #[.agg #[.int .i64 s.kind, .string s.text, .int .i64 s.n], .bool ok] w (SymTo w (onlyV s ok)) := by
 cases ok
 · skip
   go_enter Tryz.func40, Tryz.ntmps40
   go_upto_region 1 with fail
   obtain ⟨w1, hw1⟩ : ∃ w1, w1 = ((w.alloc (.cells #[.int .i64 s.kind, .string s.text, .int .i64 s.n] 23)).alloc (.cells #[.int .i64 0, .string ⟨#[]⟩, .int .i64 0] 23)) := ⟨_, rfl⟩
   rw [← hw1]
   have HB := Lib.hid (show Below w.heap.size w w1 by rw [hw1]; exact (by repeat (first | exact Below.refl _ _ | refine Below.drew ?_ | refine Below.al ?_ _ | refine Below.sc ?_ _)))
   have Ks := Lib.hid (show Blk w1 (w.heap.size) 23 #[.int .i64 s.kind, .string s.text, .int .i64 s.n] by rw [hw1]; exact ((Blk.new w 23 #[.int .i64 s.kind, .string s.text, .int .i64 s.n]).alloc (.cells #[.int .i64 0, .string ⟨#[]⟩, .int .i64 0] 23)))
   have Kr := Lib.hid (show Blk w1 (w.heap.size + 1) 23 #[.int .i64 0, .string ⟨#[]⟩, .int .i64 0] by rw [hw1]; have hh := (Blk.new (w.alloc (.cells #[.int .i64 s.kind, .string s.text, .int .i64 s.n] 23)) 23 #[.int .i64 0, .string ⟨#[]⟩, .int .i64 0]); simp only [World.size_alloc] at hh; exact hh)
   clear hw1
   obtain ⟨s0, s1, s2⟩ := Ks.out.c3
   have sz := Ks.out.lt
   obtain ⟨r0, r1, r2⟩ := Kr.out.c3
   have rf0 := Kr.out.frozen 0
   have rf1 := Kr.out.frozen 1
   have rf2 := Kr.out.frozen 2
   have rz := Kr.out.lt
   go_wp2_with fail
   unfold SymTo
   exact bodyPost_ret (v := .tuple #[.agg #[.int .i64 0, .string ⟨#[]⟩, .int .i64 0], .bool false]) (by simp [results, Tryz.results40, go_sem, *]) rfl ⟨rfl, by (repeat (first | exact Below.refl _ _ | exact HB.out | refine Below.drew ?_ | refine Below.al ?_ _ | refine Below.sc ?_ _))⟩
 · skip
   go_enter Tryz.func40, Tryz.ntmps40
   go_upto_region 1 with fail
   obtain ⟨w1, hw1⟩ : ∃ w1, w1 = ((w.alloc (.cells #[.int .i64 s.kind, .string s.text, .int .i64 s.n] 23)).alloc (.cells #[.int .i64 0, .string ⟨#[]⟩, .int .i64 0] 23)) := ⟨_, rfl⟩
   rw [← hw1]
   have HB := Lib.hid (show Below w.heap.size w w1 by rw [hw1]; exact (by repeat (first | exact Below.refl _ _ | refine Below.drew ?_ | refine Below.al ?_ _ | refine Below.sc ?_ _)))
   have Ks := Lib.hid (show Blk w1 (w.heap.size) 23 #[.int .i64 s.kind, .string s.text, .int .i64 s.n] by rw [hw1]; exact ((Blk.new w 23 #[.int .i64 s.kind, .string s.text, .int .i64 s.n]).alloc (.cells #[.int .i64 0, .string ⟨#[]⟩, .int .i64 0] 23)))
   have Kr := Lib.hid (show Blk w1 (w.heap.size + 1) 23 #[.int .i64 0, .string ⟨#[]⟩, .int .i64 0] by rw [hw1]; have hh := (Blk.new (w.alloc (.cells #[.int .i64 s.kind, .string s.text, .int .i64 s.n] 23)) 23 #[.int .i64 0, .string ⟨#[]⟩, .int .i64 0]); simp only [World.size_alloc] at hh; exact hh)
   clear hw1
   obtain ⟨s0, s1, s2⟩ := Ks.out.c3
   have sz := Ks.out.lt
   obtain ⟨r0, r1, r2⟩ := Kr.out.c3
   have rf0 := Kr.out.frozen 0
   have rf1 := Kr.out.frozen 1
   have rf2 := Kr.out.frozen 2
   have rz := Kr.out.lt
   go_wp2_with fail
   unfold SymTo
   exact bodyPost_ret (v := .tuple #[.agg #[.int .i64 s.kind, .string s.text, .int .i64 s.n], .bool true]) (by simp [results, Tryz.results40, go_sem, *]) rfl ⟨rfl, by (repeat (first | exact Below.refl _ _ | exact HB.out | refine Below.drew ?_ | refine Below.al ?_ _ | refine Below.sc ?_ _))⟩
def bigB (n : Int) : Bool := decide (2147483647 < n) || decide (n < -2147483647)
set_option maxHeartbeats 1000000 in
theorem big_is (n : Int) (w : World) : Calls Tryz.prog 42 #[.int .i64 n] w fun e w' => e = .returned (.bool (bigB n)) ∧ w = w' := by
 have HV := Lib.hid (show bigB n = (decide (2147483647 < n) || decide (n < -2147483647)) from rfl)
 go_enter Tryz.func42, Tryz.ntmps42
 go_wp2_with fail
 all_goals
  go_ret
  refine ⟨?_, rfl⟩
  rw [HV.out]
  refine ret_bool ?_
  simp_all
theorem onlyV_num (n : Int) : onlyV ⟨2, ⟨#[]⟩, n⟩ (!bigB n) = numR n := by
 unfold onlyV numR bigB
 by_cases h1 : n < -2147483647
 · simp [h1]
 · by_cases h2 : 2147483647 < n
   · simp [h2]
   · simp [h1, h2]
set_option maxRecDepth 100000 in
set_option maxHeartbeats 8000000 in
theorem rvalue_is {D : Nat → Prop} {A : Option Addr} {c : Nat} (t : TermT) (l : List BindT) (w : World) (h : RowR repBindT D w A c l) :
 Calls Tryz.prog 12 #[.agg #[.int .i64 t.op, .string t.a.var, .int .i64 t.a.sym.kind, .string t.a.sym.text, .int .i64 t.a.sym.n, .string t.b.var, .int .i64 t.b.sym.kind, .string t.b.sym.text, .int .i64 t.b.sym.n], .slice A l.length c] w (SymTo w (valueV t l)) := by
 have H0 := Lib.hid h
 clear h
 obtain ⟨⟨a, oa⟩, ha⟩ : ∃ r, r = atomV t.a l := ⟨_, rfl⟩
 obtain ⟨⟨b, ob⟩, hb0⟩ : ∃ r, r = atomV t.b l := ⟨_, rfl⟩
 obtain ⟨R, hR⟩ : ∃ R, R = valueV t l := ⟨_, rfl⟩
 rw [← hR]
 unfold valueV at hR
 rw [← ha, ← hb0] at hR
 dsimp only at hR
 have HV := Lib.hid hR
 have HA := Lib.hid ha
 have HBB := Lib.hid hb0
 clear ha hb0 hR
 go_enter Tryz.func12, Tryz.ntmps12
 go_upto_region 1 with fail
 obtain ⟨w1, hw1⟩ : ∃ w1, w1 = ((w.alloc (.cells #[.int .i64 t.op, .string t.a.var, .int .i64 t.a.sym.kind, .string t.a.sym.text, .int .i64 t.a.sym.n, .string t.b.var, .int .i64 t.b.sym.kind, .string t.b.sym.text, .int .i64 t.b.sym.n] 27)).alloc (.cells #[.int .i64 0, .string ⟨#[]⟩, .int .i64 0] 23)) := ⟨_, rfl⟩
 rw [← hw1]
 have HB := Lib.hid (show Below w.heap.size w w1 by rw [hw1]; exact (by repeat (first | exact Below.refl _ _ | refine Below.drew ?_ | refine Below.al ?_ _ | refine Below.sc ?_ _)))
 have Kt := Lib.hid (show Blk w1 (w.heap.size) 27 #[.int .i64 t.op, .string t.a.var, .int .i64 t.a.sym.kind, .string t.a.sym.text, .int .i64 t.a.sym.n, .string t.b.var, .int .i64 t.b.sym.kind, .string t.b.sym.text, .int .i64 t.b.sym.n] by rw [hw1]; exact ((Blk.new w 27 #[.int .i64 t.op, .string t.a.var, .int .i64 t.a.sym.kind, .string t.a.sym.text, .int .i64 t.a.sym.n, .string t.b.var, .int .i64 t.b.sym.kind, .string t.b.sym.text, .int .i64 t.b.sym.n]).alloc (.cells #[.int .i64 0, .string ⟨#[]⟩, .int .i64 0] 23)))
 have Kr := Lib.hid (show Blk w1 (w.heap.size + 1) 23 #[.int .i64 0, .string ⟨#[]⟩, .int .i64 0] by rw [hw1]; have hh := (Blk.new (w.alloc (.cells #[.int .i64 t.op, .string t.a.var, .int .i64 t.a.sym.kind, .string t.a.sym.text, .int .i64 t.a.sym.n, .string t.b.var, .int .i64 t.b.sym.kind, .string t.b.sym.text, .int .i64 t.b.sym.n] 27)) 23 #[.int .i64 0, .string ⟨#[]⟩, .int .i64 0]); simp only [World.size_alloc] at hh; exact hh)
 clear hw1
 obtain ⟨t0, t1, t2, t3, t4, t5, t6, t7, t8⟩ := Kt.out.c9
 have tz := Kt.out.lt
 obtain ⟨r0, r1, r2⟩ := Kr.out.c3
 have rf0 := Kr.out.frozen 0
 have rf1 := Kr.out.frozen 1
 have rf2 := Kr.out.frozen 2
 have rz := Kr.out.lt
 go_wp2_with fail
 have hc := ratomV_is t.a l w1 (H0.out.new_ HB.out)
 rw [← HA.out] at hc
 with_reducible refine (hc).mono ?_
 rintro e w2 ⟨rfl, hb⟩
 have hbs := Below.trans (show Below w1.heap.size w1 _ from (by (repeat (first | exact Below.refl _ _ | refine Below.drew ?_ | refine Below.al ?_ _ | refine Below.sc ?_ _)))) (hb.mono (by simp <;> omega))
 have Kt := Lib.hid (Kt.out.new_ hbs)
 have Kr := Lib.hid (Kr.out.new_ hbs)
 have HB := Lib.hid (HB.out.trans (hbs.mono HB.out.size))
 have hsz2 := hbs.size
 clear t0 t1 t2 t3 t4 t5 t6 t7 t8 tz r0 r1 r2 rf0 rf1 rf2 rz hb hbs
 obtain ⟨t0, t1, t2, t3, t4, t5, t6, t7, t8⟩ := Kt.out.c9
 have tz := Kt.out.lt
 obtain ⟨r0, r1, r2⟩ := Kr.out.c3
 have rf0 := Kr.out.frozen 0
 have rf1 := Kr.out.frozen 1
 have rf2 := Kr.out.frozen 2
 have rz := Kr.out.lt
 by_cases hop : t.op = 0
 · skip
   have qoa : (t.op == 0) = true := by simp [hop]
   have qob : decide (t.op = 0) = true := by simp [hop]
   have HF := Lib.hid (show R = onlyV a oa by rw [HV.out]; cases oa <;> simp [hop, onlyV])
   clear hop
   go_wp2_with fail
   with_reducible refine (only_is a oa _).mono ?_
   rintro e w3 ⟨rfl, hb⟩
   have hbs := Below.trans (show Below w2.heap.size w2 _ from (by (repeat (first | exact Below.refl _ _ | refine Below.drew ?_ | refine Below.al ?_ _ | refine Below.sc ?_ _)))) (hb.mono (by simp <;> omega))
   have Kt := Lib.hid (Kt.out.new_ hbs)
   have Kr := Lib.hid (Kr.out.new_ hbs)
   have Ka := Lib.hid (show Blk w3 (w2.heap.size) 23 #[.int .i64 a.kind, .string a.text, .int .i64 a.n] from (Blk.new _ _ _).new_ hb)
   have HB := Lib.hid (HB.out.trans (hbs.mono HB.out.size))
   have hsz3 := hbs.size
   clear t0 t1 t2 t3 t4 t5 t6 t7 t8 tz r0 r1 r2 rf0 rf1 rf2 rz hb hbs
   obtain ⟨t0, t1, t2, t3, t4, t5, t6, t7, t8⟩ := Kt.out.c9
   have tz := Kt.out.lt
   obtain ⟨r0, r1, r2⟩ := Kr.out.c3
   have rf0 := Kr.out.frozen 0
   have rf1 := Kr.out.frozen 1
   have rf2 := Kr.out.frozen 2
   have rz := Kr.out.lt
   obtain ⟨a0, a1, a2⟩ := Ka.out.c3
   have az := Ka.out.lt
   obtain ⟨⟨ax, ox⟩, hx⟩ : ∃ r, r = onlyV a oa := ⟨_, rfl⟩
   rw [← hx] at HF ⊢
   clear hx
   dsimp only
   go_wp2_with fail
   unfold SymTo
   rw [HF.out]
   exact bodyPost_ret (v := .tuple #[.agg #[.int .i64 ax.kind, .string ax.text, .int .i64 ax.n], .bool ox]) (by simp [results, Tryz.results12, go_sem, *]) rfl ⟨rfl, by (repeat (first | exact Below.refl _ _ | exact HB.out | refine Below.drew ?_ | refine Below.al ?_ _ | refine Below.sc ?_ _))⟩
 · skip
   have qoa : (t.op == 0) = false := by simp [hop]
   have qob : decide (t.op = 0) = false := by simp [hop]
   have hc := fun W (hb : Below w.heap.size w W) => ratomV_is t.b l W (H0.out.new_ hb)
   simp only [← HBB.out] at hc
   have HC := Lib.hid hc
   clear hc
   go_wp2_with fail
   with_reducible refine (HC.out _ (by (repeat (first | exact Below.refl _ _ | exact HB.out | refine Below.drew ?_ | refine Below.al ?_ _ | refine Below.sc ?_ _)))).mono ?_
   rintro e w3 ⟨rfl, hb⟩
   have hbs := Below.trans (show Below w2.heap.size w2 _ from (by (repeat (first | exact Below.refl _ _ | refine Below.drew ?_ | refine Below.al ?_ _ | refine Below.sc ?_ _)))) (hb.mono (by simp <;> omega))
   have Kt := Lib.hid (Kt.out.new_ hbs)
   have Kr := Lib.hid (Kr.out.new_ hbs)
   have Ka := Lib.hid (show Blk w3 (w2.heap.size) 23 #[.int .i64 a.kind, .string a.text, .int .i64 a.n] from (Blk.new _ _ _).new_ hb)
   have HB := Lib.hid (HB.out.trans (hbs.mono HB.out.size))
   have hsz3 := hbs.size
   clear t0 t1 t2 t3 t4 t5 t6 t7 t8 tz r0 r1 r2 rf0 rf1 rf2 rz hb hbs
   obtain ⟨t0, t1, t2, t3, t4, t5, t6, t7, t8⟩ := Kt.out.c9
   have tz := Kt.out.lt
   obtain ⟨r0, r1, r2⟩ := Kr.out.c3
   have rf0 := Kr.out.frozen 0
   have rf1 := Kr.out.frozen 1
   have rf2 := Kr.out.frozen 2
   have rz := Kr.out.lt
   obtain ⟨a0, a1, a2⟩ := Ka.out.c3
   have az := Ka.out.lt
   cases oa
   · skip
     have HF := Lib.hid (show R = (zS, false) by rw [HV.out]; simp)
     go_wp2_with fail
     unfold SymTo
     rw [HF.out]
     exact bodyPost_ret (v := .tuple #[.agg #[.int .i64 0, .string ⟨#[]⟩, .int .i64 0], .bool false]) (by simp [results, Tryz.results12, go_sem, *]) rfl ⟨rfl, by (repeat (first | exact Below.refl _ _ | exact HB.out | refine Below.drew ?_ | refine Below.al ?_ _ | refine Below.sc ?_ _))⟩
   · skip
     cases ob
     · skip
       have HF := Lib.hid (show R = (zS, false) by rw [HV.out]; simp [hop])
       go_wp2_with fail
       unfold SymTo
       rw [HF.out]
       exact bodyPost_ret (v := .tuple #[.agg #[.int .i64 0, .string ⟨#[]⟩, .int .i64 0], .bool false]) (by simp [results, Tryz.results12, go_sem, *]) rfl ⟨rfl, by (repeat (first | exact Below.refl _ _ | exact HB.out | refine Below.drew ?_ | refine Below.al ?_ _ | refine Below.sc ?_ _))⟩
     · skip
       by_cases hka : a.kind = 2
       · skip
         obtain ⟨ta, na, rfl⟩ : ∃ x y, a = ⟨2, x, y⟩ := sym_of hka
         clear hka
         by_cases hkb : b.kind = 2
         · skip
           obtain ⟨tb, nb, rfl⟩ : ∃ x y, b = ⟨2, x, y⟩ := sym_of hkb
           clear hkb
           cases hva : validB ⟨2, ta, na⟩
           · skip
             have hc := fun W => rvalid_is ⟨2, ta, na⟩ W
             simp only [hva] at hc
             have HC := Lib.hid hc
             clear hc
             go_wp2_with fail
             with_reducible refine (HC.out _).mono ?_
             rintro e w4 ⟨rfl, hb⟩
             have hbs := Below.trans (show Below w3.heap.size w3 _ from (by (repeat (first | exact Below.refl _ _ | refine Below.drew ?_ | refine Below.al ?_ _ | refine Below.sc ?_ _)))) (hb.mono (by simp <;> omega))
             have Kt := Lib.hid (Kt.out.new_ hbs)
             have Kr := Lib.hid (Kr.out.new_ hbs)
             have Ka := Lib.hid (Ka.out.new_ hbs)
             have Kb := Lib.hid (show Blk w4 (w3.heap.size) 23 #[.int .i64 2, .string tb, .int .i64 nb] from (Blk.new _ _ _).new_ hb)
             have HB := Lib.hid (HB.out.trans (hbs.mono HB.out.size))
             have hsz4 := hbs.size
             clear t0 t1 t2 t3 t4 t5 t6 t7 t8 tz r0 r1 r2 rf0 rf1 rf2 rz a0 a1 a2 az hb hbs
             obtain ⟨t0, t1, t2, t3, t4, t5, t6, t7, t8⟩ := Kt.out.c9
             have tz := Kt.out.lt
             obtain ⟨r0, r1, r2⟩ := Kr.out.c3
             have rf0 := Kr.out.frozen 0
             have rf1 := Kr.out.frozen 1
             have rf2 := Kr.out.frozen 2
             have rz := Kr.out.lt
             obtain ⟨a0, a1, a2⟩ := Ka.out.c3
             have az := Ka.out.lt
             obtain ⟨b0, b1, b2⟩ := Kb.out.c3
             have bz := Kb.out.lt
             have HF := Lib.hid (show R = (zS, false) by rw [HV.out]; simp [hop, numB2, hva])
             go_wp2_with fail
             unfold SymTo
             rw [HF.out]
             exact bodyPost_ret (v := .tuple #[.agg #[.int .i64 0, .string ⟨#[]⟩, .int .i64 0], .bool false]) (by simp [results, Tryz.results12, go_sem, *]) rfl ⟨rfl, by (repeat (first | exact Below.refl _ _ | exact HB.out | refine Below.drew ?_ | refine Below.al ?_ _ | refine Below.sc ?_ _))⟩
           · skip
             have hc := fun W => rvalid_is ⟨2, ta, na⟩ W
             simp only [hva] at hc
             have HC := Lib.hid hc
             clear hc
             go_wp2_with fail
             with_reducible refine (HC.out _).mono ?_
             rintro e w4 ⟨rfl, hb⟩
             have hbs := Below.trans (show Below w3.heap.size w3 _ from (by (repeat (first | exact Below.refl _ _ | refine Below.drew ?_ | refine Below.al ?_ _ | refine Below.sc ?_ _)))) (hb.mono (by simp <;> omega))
             have Kt := Lib.hid (Kt.out.new_ hbs)
             have Kr := Lib.hid (Kr.out.new_ hbs)
             have Ka := Lib.hid (Ka.out.new_ hbs)
             have Kb := Lib.hid (show Blk w4 (w3.heap.size) 23 #[.int .i64 2, .string tb, .int .i64 nb] from (Blk.new _ _ _).new_ hb)
             have HB := Lib.hid (HB.out.trans (hbs.mono HB.out.size))
             have hsz4 := hbs.size
             clear t0 t1 t2 t3 t4 t5 t6 t7 t8 tz r0 r1 r2 rf0 rf1 rf2 rz a0 a1 a2 az hb hbs
             obtain ⟨t0, t1, t2, t3, t4, t5, t6, t7, t8⟩ := Kt.out.c9
             have tz := Kt.out.lt
             obtain ⟨r0, r1, r2⟩ := Kr.out.c3
             have rf0 := Kr.out.frozen 0
             have rf1 := Kr.out.frozen 1
             have rf2 := Kr.out.frozen 2
             have rz := Kr.out.lt
             obtain ⟨a0, a1, a2⟩ := Ka.out.c3
             have az := Ka.out.lt
             obtain ⟨b0, b1, b2⟩ := Kb.out.c3
             have bz := Kb.out.lt
             cases hvb : validB ⟨2, tb, nb⟩
             · skip
               have hc := fun W => rvalid_is ⟨2, tb, nb⟩ W
               simp only [hvb] at hc
               have HC := Lib.hid hc
               clear hc
               go_wp2_with fail
               with_reducible refine (HC.out _).mono ?_
               rintro e w5 ⟨rfl, hb⟩
               have hbs := Below.trans (show Below w4.heap.size w4 _ from (by (repeat (first | exact Below.refl _ _ | refine Below.drew ?_ | refine Below.al ?_ _ | refine Below.sc ?_ _)))) (hb.mono (by simp <;> omega))
               have Kt := Lib.hid (Kt.out.new_ hbs)
               have Kr := Lib.hid (Kr.out.new_ hbs)
               have Ka := Lib.hid (Ka.out.new_ hbs)
               have Kb := Lib.hid (Kb.out.new_ hbs)
               have HB := Lib.hid (HB.out.trans (hbs.mono HB.out.size))
               have hsz5 := hbs.size
               clear t0 t1 t2 t3 t4 t5 t6 t7 t8 tz r0 r1 r2 rf0 rf1 rf2 rz a0 a1 a2 az b0 b1 b2 bz hb hbs
               obtain ⟨t0, t1, t2, t3, t4, t5, t6, t7, t8⟩ := Kt.out.c9
               have tz := Kt.out.lt
               obtain ⟨r0, r1, r2⟩ := Kr.out.c3
               have rf0 := Kr.out.frozen 0
               have rf1 := Kr.out.frozen 1
               have rf2 := Kr.out.frozen 2
               have rz := Kr.out.lt
               obtain ⟨a0, a1, a2⟩ := Ka.out.c3
               have az := Ka.out.lt
               obtain ⟨b0, b1, b2⟩ := Kb.out.c3
               have bz := Kb.out.lt
               have HF := Lib.hid (show R = (zS, false) by rw [HV.out]; simp [hop, numB2, hvb])
               go_wp2_with fail
               unfold SymTo
               rw [HF.out]
               exact bodyPost_ret (v := .tuple #[.agg #[.int .i64 0, .string ⟨#[]⟩, .int .i64 0], .bool false]) (by simp [results, Tryz.results12, go_sem, *]) rfl ⟨rfl, by (repeat (first | exact Below.refl _ _ | exact HB.out | refine Below.drew ?_ | refine Below.al ?_ _ | refine Below.sc ?_ _))⟩
             · skip
               have hc := fun W => rvalid_is ⟨2, tb, nb⟩ W
               simp only [hvb] at hc
               have HC := Lib.hid hc
               clear hc
               go_wp2_with fail
               with_reducible refine (HC.out _).mono ?_
               rintro e w5 ⟨rfl, hb⟩
               have hbs := Below.trans (show Below w4.heap.size w4 _ from (by (repeat (first | exact Below.refl _ _ | refine Below.drew ?_ | refine Below.al ?_ _ | refine Below.sc ?_ _)))) (hb.mono (by simp <;> omega))
               have Kt := Lib.hid (Kt.out.new_ hbs)
               have Kr := Lib.hid (Kr.out.new_ hbs)
               have Ka := Lib.hid (Ka.out.new_ hbs)
               have Kb := Lib.hid (Kb.out.new_ hbs)
               have HB := Lib.hid (HB.out.trans (hbs.mono HB.out.size))
               have hsz5 := hbs.size
               clear t0 t1 t2 t3 t4 t5 t6 t7 t8 tz r0 r1 r2 rf0 rf1 rf2 rz a0 a1 a2 az b0 b1 b2 bz hb hbs
               obtain ⟨t0, t1, t2, t3, t4, t5, t6, t7, t8⟩ := Kt.out.c9
               have tz := Kt.out.lt
               obtain ⟨r0, r1, r2⟩ := Kr.out.c3
               have rf0 := Kr.out.frozen 0
               have rf1 := Kr.out.frozen 1
               have rf2 := Kr.out.frozen 2
               have rz := Kr.out.lt
               obtain ⟨a0, a1, a2⟩ := Ka.out.c3
               have az := Ka.out.lt
               obtain ⟨b0, b1, b2⟩ := Kb.out.c3
               have bz := Kb.out.lt
               have hna : numB2 ⟨2, ta, na⟩ = true := by simp [numB2, hva]
               have hnb : numB2 ⟨2, tb, nb⟩ = true := by simp [numB2, hvb]
               obtain ⟨n1, n2⟩ := numB2_le hna
               obtain ⟨n3, n4⟩ := numB2_le hnb
               dsimp only at n1 n2 n3 n4
               obtain ⟨n5, n6⟩ := mul_le62 n1 n2 n3 n4
               have v7 := wrap62 n5 n6
               by_cases h1 : t.op = 1
               · skip
                 have j1a : (t.op == 1) = true := by simp [h1]
                 have j1b : decide (t.op = 1) = true := by simp [h1]
                 have HF := Lib.hid (show R = numR (na + nb) by rw [HV.out]; simp [hna, hnb, h1])
                 clear hop hna hnb h1
                 go_wp2_with fail
                 with_reducible refine (big_is (na + nb) _).mono ?_
                 rintro e w0 ⟨rfl, rfl⟩
                 go_wp2_with fail
                 with_reducible refine (only_is ⟨2, ⟨#[]⟩, na + nb⟩ (!bigB (na + nb)) _).mono ?_
                 rintro e w6 ⟨rfl, hb⟩
                 have hbs := Below.trans (show Below w5.heap.size w5 _ from (by (repeat (first | exact Below.refl _ _ | refine Below.drew ?_ | refine Below.al ?_ _ | refine Below.sc ?_ _)))) (hb.mono (by simp <;> omega))
                 have Kt := Lib.hid (Kt.out.new_ hbs)
                 have Kr := Lib.hid (Kr.out.new_ hbs)
                 have Ka := Lib.hid (Ka.out.new_ hbs)
                 have Kb := Lib.hid (Kb.out.new_ hbs)
                 have HB := Lib.hid (HB.out.trans (hbs.mono HB.out.size))
                 have hsz6 := hbs.size
                 clear t0 t1 t2 t3 t4 t5 t6 t7 t8 tz r0 r1 r2 rf0 rf1 rf2 rz a0 a1 a2 az b0 b1 b2 bz hb hbs
                 obtain ⟨t0, t1, t2, t3, t4, t5, t6, t7, t8⟩ := Kt.out.c9
                 have tz := Kt.out.lt
                 obtain ⟨r0, r1, r2⟩ := Kr.out.c3
                 have rf0 := Kr.out.frozen 0
                 have rf1 := Kr.out.frozen 1
                 have rf2 := Kr.out.frozen 2
                 have rz := Kr.out.lt
                 obtain ⟨a0, a1, a2⟩ := Ka.out.c3
                 have az := Ka.out.lt
                 obtain ⟨b0, b1, b2⟩ := Kb.out.c3
                 have bz := Kb.out.lt
                 rw [onlyV_num]
                 obtain ⟨⟨ax, ox⟩, hx⟩ : ∃ r, r = numR (na + nb) := ⟨_, rfl⟩
                 rw [← hx] at HF ⊢
                 clear hx
                 dsimp only
                 go_wp2_with fail
                 unfold SymTo
                 rw [HF.out]
                 exact bodyPost_ret (v := .tuple #[.agg #[.int .i64 ax.kind, .string ax.text, .int .i64 ax.n], .bool ox]) (by simp [results, Tryz.results12, go_sem, *]) rfl ⟨rfl, by (repeat (first | exact Below.refl _ _ | exact HB.out | refine Below.drew ?_ | refine Below.al ?_ _ | refine Below.sc ?_ _))⟩
               · skip
                 by_cases h2 : t.op = 2
                 · skip
                   have j1a : (t.op == 1) = false := by simp [h2]
                   have j1b : decide (t.op = 1) = false := by simp [h2]
                   have j2a : (t.op == 2) = true := by simp [h2]
                   have j2b : decide (t.op = 2) = true := by simp [h2]
                   have HF := Lib.hid (show R = numR (na - nb) by rw [HV.out]; simp [hna, hnb, h2])
                   clear hop hna hnb h1 h2
                   go_wp2_with fail
                   with_reducible refine (big_is (na - nb) _).mono ?_
                   rintro e w0 ⟨rfl, rfl⟩
                   go_wp2_with fail
                   with_reducible refine (only_is ⟨2, ⟨#[]⟩, na - nb⟩ (!bigB (na - nb)) _).mono ?_
                   rintro e w6 ⟨rfl, hb⟩
                   have hbs := Below.trans (show Below w5.heap.size w5 _ from (by (repeat (first | exact Below.refl _ _ | refine Below.drew ?_ | refine Below.al ?_ _ | refine Below.sc ?_ _)))) (hb.mono (by simp <;> omega))
                   have Kt := Lib.hid (Kt.out.new_ hbs)
                   have Kr := Lib.hid (Kr.out.new_ hbs)
                   have Ka := Lib.hid (Ka.out.new_ hbs)
                   have Kb := Lib.hid (Kb.out.new_ hbs)
                   have HB := Lib.hid (HB.out.trans (hbs.mono HB.out.size))
                   have hsz6 := hbs.size
                   clear t0 t1 t2 t3 t4 t5 t6 t7 t8 tz r0 r1 r2 rf0 rf1 rf2 rz a0 a1 a2 az b0 b1 b2 bz hb hbs
                   obtain ⟨t0, t1, t2, t3, t4, t5, t6, t7, t8⟩ := Kt.out.c9
                   have tz := Kt.out.lt
                   obtain ⟨r0, r1, r2⟩ := Kr.out.c3
                   have rf0 := Kr.out.frozen 0
                   have rf1 := Kr.out.frozen 1
                   have rf2 := Kr.out.frozen 2
                   have rz := Kr.out.lt
                   obtain ⟨a0, a1, a2⟩ := Ka.out.c3
                   have az := Ka.out.lt
                   obtain ⟨b0, b1, b2⟩ := Kb.out.c3
                   have bz := Kb.out.lt
                   rw [onlyV_num]
                   obtain ⟨⟨ax, ox⟩, hx⟩ : ∃ r, r = numR (na - nb) := ⟨_, rfl⟩
                   rw [← hx] at HF ⊢
                   clear hx
                   dsimp only
                   go_wp2_with fail
                   unfold SymTo
                   rw [HF.out]
                   exact bodyPost_ret (v := .tuple #[.agg #[.int .i64 ax.kind, .string ax.text, .int .i64 ax.n], .bool ox]) (by simp [results, Tryz.results12, go_sem, *]) rfl ⟨rfl, by (repeat (first | exact Below.refl _ _ | exact HB.out | refine Below.drew ?_ | refine Below.al ?_ _ | refine Below.sc ?_ _))⟩
                 · skip
                   by_cases h3 : t.op = 3
                   · skip
                     have j1a : (t.op == 1) = false := by simp [h3]
                     have j1b : decide (t.op = 1) = false := by simp [h3]
                     have j2a : (t.op == 2) = false := by simp [h3]
                     have j2b : decide (t.op = 2) = false := by simp [h3]
                     have j3a : (t.op == 3) = true := by simp [h3]
                     have j3b : decide (t.op = 3) = true := by simp [h3]
                     have HF := Lib.hid (show R = numR (na * nb) by rw [HV.out]; simp [hna, hnb, h3])
                     clear hop hna hnb h1 h2 h3
                     go_wp2_with fail
                     with_reducible refine (big_is (na * nb) _).mono ?_
                     rintro e w0 ⟨rfl, rfl⟩
                     go_wp2_with fail
                     with_reducible refine (only_is ⟨2, ⟨#[]⟩, na * nb⟩ (!bigB (na * nb)) _).mono ?_
                     rintro e w6 ⟨rfl, hb⟩
                     have hbs := Below.trans (show Below w5.heap.size w5 _ from (by (repeat (first | exact Below.refl _ _ | refine Below.drew ?_ | refine Below.al ?_ _ | refine Below.sc ?_ _)))) (hb.mono (by simp <;> omega))
                     have Kt := Lib.hid (Kt.out.new_ hbs)
                     have Kr := Lib.hid (Kr.out.new_ hbs)
                     have Ka := Lib.hid (Ka.out.new_ hbs)
                     have Kb := Lib.hid (Kb.out.new_ hbs)
                     have HB := Lib.hid (HB.out.trans (hbs.mono HB.out.size))
                     have hsz6 := hbs.size
                     clear t0 t1 t2 t3 t4 t5 t6 t7 t8 tz r0 r1 r2 rf0 rf1 rf2 rz a0 a1 a2 az b0 b1 b2 bz hb hbs
                     obtain ⟨t0, t1, t2, t3, t4, t5, t6, t7, t8⟩ := Kt.out.c9
                     have tz := Kt.out.lt
                     obtain ⟨r0, r1, r2⟩ := Kr.out.c3
                     have rf0 := Kr.out.frozen 0
                     have rf1 := Kr.out.frozen 1
                     have rf2 := Kr.out.frozen 2
                     have rz := Kr.out.lt
                     obtain ⟨a0, a1, a2⟩ := Ka.out.c3
                     have az := Ka.out.lt
                     obtain ⟨b0, b1, b2⟩ := Kb.out.c3
                     have bz := Kb.out.lt
                     rw [onlyV_num]
                     obtain ⟨⟨ax, ox⟩, hx⟩ : ∃ r, r = numR (na * nb) := ⟨_, rfl⟩
                     rw [← hx] at HF ⊢
                     clear hx
                     dsimp only
                     go_wp2_with fail
                     unfold SymTo
                     rw [HF.out]
                     exact bodyPost_ret (v := .tuple #[.agg #[.int .i64 ax.kind, .string ax.text, .int .i64 ax.n], .bool ox]) (by simp [results, Tryz.results12, go_sem, *]) rfl ⟨rfl, by (repeat (first | exact Below.refl _ _ | exact HB.out | refine Below.drew ?_ | refine Below.al ?_ _ | refine Below.sc ?_ _))⟩
                   · skip
                     have j1a : (t.op == 1) = false := by simp [h1]
                     have j1b : decide (t.op = 1) = false := by simp [h1]
                     have j2a : (t.op == 2) = false := by simp [h2]
                     have j2b : decide (t.op = 2) = false := by simp [h2]
                     have j3a : (t.op == 3) = false := by simp [h3]
                     have j3b : decide (t.op = 3) = false := by simp [h3]
                     have HF := Lib.hid (show R = (zS, false) by rw [HV.out]; simp [hop, hna, hnb, h1, h2, h3])
                     go_wp2_with fail
                     unfold SymTo
                     rw [HF.out]
                     exact bodyPost_ret (v := .tuple #[.agg #[.int .i64 0, .string ⟨#[]⟩, .int .i64 0], .bool false]) (by simp [results, Tryz.results12, go_sem, *]) rfl ⟨rfl, by (repeat (first | exact Below.refl _ _ | exact HB.out | refine Below.drew ?_ | refine Below.al ?_ _ | refine Below.sc ?_ _))⟩
         · skip
           have qba : (b.kind == 2) = false := by simp [hkb]
           have qbb : decide (b.kind = 2) = false := by simp [hkb]
           have HF := Lib.hid (show R = (zS, false) by rw [HV.out]; simp [hop, numB2, hkb])
           go_wp2_with fail
           unfold SymTo
           rw [HF.out]
           exact bodyPost_ret (v := .tuple #[.agg #[.int .i64 0, .string ⟨#[]⟩, .int .i64 0], .bool false]) (by simp [results, Tryz.results12, go_sem, *]) rfl ⟨rfl, by (repeat (first | exact Below.refl _ _ | exact HB.out | refine Below.drew ?_ | refine Below.al ?_ _ | refine Below.sc ?_ _))⟩
       · skip
         have qaa : (a.kind == 2) = false := by simp [hka]
         have qab : decide (a.kind = 2) = false := by simp [hka]
         have HF := Lib.hid (show R = (zS, false) by rw [HV.out]; simp [hop, numB2, hka])
         go_wp2_with fail
         unfold SymTo
         rw [HF.out]
         exact bodyPost_ret (v := .tuple #[.agg #[.int .i64 0, .string ⟨#[]⟩, .int .i64 0], .bool false]) (by simp [results, Tryz.results12, go_sem, *]) rfl ⟨rfl, by (repeat (first | exact Below.refl _ _ | exact HB.out | refine Below.drew ?_ | refine Below.al ?_ _ | refine Below.sc ?_ _))⟩
end Go.Proofs.YtpndmjabjjbefaaGreat
namespace Go.Proofs.YtpndmjabjjbefaaGreat
open Go.RowKit Go.Shelf
def bindB (b : BindT) : Bool := decide (b.var.size ≤ 100) && decide (b.sym.text.size ≤ 100)
def bindsB (l : List BindT) : Bool := decide (l.length ≤ 40) && l.all bindB
set_option maxRecDepth 100000 in
set_option maxHeartbeats 2000000 in
theorem binds_is {D : Nat → Prop} {A : Option Addr} {c : Nat} (l : List BindT) (w : World) (h : RowR repBindT D w A c l) : Calls Tryz.prog 9 #[.slice A l.length c] w fun e w' => e = .returned (.bool (bindsB l)) ∧ w = w' := by
 have H := Lib.hid h
 have hlc := h.cap
 clear h
 go_enter Tryz.func9, Tryz.ntmps9
 by_cases h40 : l.length ≤ 40
 · have t1 : decide ((40 : Int) < (l.length : Int)) = false := by simp; omega
   have H40 := Lib.hid h40
   clear h40
   go_wp2_with fail
   go_loopw [3] (fun s wr => ∃ i : Nat, s = .int .i64 i ∧ i ≤ l.length ∧ (∀ k, (h : k < l.length) → k < i → bindB l[k] = true) ∧ wr = w) (fun s wr => l.length - (intOf s).toNat)
   case atStart => exact ⟨0, rfl, Nat.zero_le _, fun k _ h => absurd h (by omega), rfl⟩
   case round =>
    obtain ⟨i, rfl, hi, hall, rfl⟩ := hrel
    have HALL := Lib.hid hall
    clear hall t1
    by_cases hlt : i < l.length
    · obtain ⟨x, hx⟩ : ∃ x, x = l[i] := ⟨_, rfl⟩
      obtain ⟨g, off, rfl, _, hgs, q0, q1, q2, q3⟩ := at_BindT H.out hlt
      rw [← hx] at q0 q1 q2 q3
      have b1 : (0 : Int) ≤ (i : Int) := by omega
      have b2 : (i : Int) < (l.length : Int) := by omega
      have HX := Lib.hid hx
      clear hx
      have hno : bindB x = false → bindsB l = false := fun h => by
       unfold bindsB
       have : l.all bindB = false := by
        rw [List.all_eq_false]
        exact ⟨x, by rw [HX.out]; exact List.getElem_mem hlt, by simp [h]⟩
       rw [this, Bool.and_false]
      have HNO := Lib.hid hno
      clear hno
      by_cases h1 : x.var.size ≤ 100
      · by_cases h2 : x.sym.text.size ≤ 100
        · have t1 : decide ((100 : Int) < (x.var.size : Int)) = false := by simp; omega
          have t2 : decide ((100 : Int) < (x.sym.text.size : Int)) = false := by simp; omega
          have HBX := Lib.hid (show bindB x = true by simp [bindB, h1, h2])
          clear h1 h2
          go_wp2_with fail
          go_roundw
          case rel =>
           refine ⟨i + 1, by go_num, by omega, fun k h hk => ?_, by trivial⟩
           rcases Nat.lt_or_ge k i with h3 | h3
           · exact HALL.out k h h3
           · obtain rfl : k = i := by omega
             rw [← HX.out]
             exact HBX.out
          case measure => simp [intOf] <;> omega
        · have t1 : decide ((100 : Int) < (x.var.size : Int)) = false := by simp; omega
          have t2 : decide ((100 : Int) < (x.sym.text.size : Int)) = true := by simp; omega
          have HBX := Lib.hid (show bindB x = false by simp [bindB, h2])
          clear h1 h2
          go_wp2_with fail
          go_ret
          exact ⟨by rw [HNO.out HBX.out]; rfl, rfl⟩
      · have t1 : decide ((100 : Int) < (x.var.size : Int)) = true := by simp; omega
        have HBX := Lib.hid (show bindB x = false by simp [bindB, h1])
        clear h1
        go_wp2_with fail
        go_ret
        exact ⟨by rw [HNO.out HBX.out]; rfl, rfl⟩
    · have hie : i = l.length := by omega
      subst hie
      go_wp2_with fail
      go_ret
      refine ⟨?_, rfl⟩
      have : bindsB l = true := by
       have h1 : l.all bindB = true := by
        rw [List.all_eq_true]
        intro x hx
        obtain ⟨k, hk, rfl⟩ := List.getElem_of_mem hx
        exact HALL.out k hk hk
       simp [bindsB, H40.out, h1]
      rw [this]; rfl
 · have t1 : decide ((40 : Int) < (l.length : Int)) = true := by simp; omega
   have HR := Lib.hid (show bindsB l = false by simp [bindsB, h40])
   clear h40
   go_wp2_with fail
   go_ret
   exact ⟨by rw [HR.out]; rfl, rfl⟩
end Go.Proofs.YtpndmjabjjbefaaGreat
namespace Go.Proofs.YtpndmjabjjbefaaGreat
open Go.RowKit Go.Shelf
set_option maxRecDepth 100000 in
set_option maxHeartbeats 4000000 in
theorem values_walk (t : TermT) (A : Option Addr) (c : Nat) (l : List BindT) (w : World) (h : RowR repBindT (· < w.heap.size) w A c l) :
 Calls Tryz.prog 3 #[.agg #[.int .i64 t.op, .string t.a.var, .int .i64 t.a.sym.kind, .string t.a.sym.text, .int .i64 t.a.sym.n, .string t.b.var, .int .i64 t.b.sym.kind, .string t.b.sym.text, .int .i64 t.b.sym.n], .slice A l.length c] w fun e w' => e = .returned (.bool true) ∧ Below w.heap.size w w' := by
 have H := Lib.hid h
 clear h
 go_enter Tryz.func3, Tryz.ntmps3
 go_upto_region 1 with fail
 obtain ⟨w1, hw1⟩ : ∃ w1, w1 = (w.alloc (.cells #[.int .i64 t.op, .string t.a.var, .int .i64 t.a.sym.kind, .string t.a.sym.text, .int .i64 t.a.sym.n, .string t.b.var, .int .i64 t.b.sym.kind, .string t.b.sym.text, .int .i64 t.b.sym.n] 27)) := ⟨_, rfl⟩
 rw [← hw1]
 have HB := Lib.hid (show Below w.heap.size w w1 by rw [hw1]; exact (by repeat (first | exact Below.refl _ _ | refine Below.drew ?_ | refine Below.al ?_ _ | refine Below.sc ?_ _)))
 have Kt := Lib.hid (show Blk w1 (w.heap.size) 27 #[.int .i64 t.op, .string t.a.var, .int .i64 t.a.sym.kind, .string t.a.sym.text, .int .i64 t.a.sym.n, .string t.b.var, .int .i64 t.b.sym.kind, .string t.b.sym.text, .int .i64 t.b.sym.n] by rw [hw1]; exact (Blk.new w 27 #[.int .i64 t.op, .string t.a.var, .int .i64 t.a.sym.kind, .string t.a.sym.text, .int .i64 t.a.sym.n, .string t.b.var, .int .i64 t.b.sym.kind, .string t.b.sym.text, .int .i64 t.b.sym.n]))
 clear hw1
 obtain ⟨t0, t1, t2, t3, t4, t5, t6, t7, t8⟩ := Kt.out.c9
 have tz := Kt.out.lt
 have hb0 := fun W (hb : Below w.heap.size w W) => binds_is l W (H.out.new_ hb)
 cases hbl : bindsB l
 · skip
   rw [hbl] at hb0
   have HBI := Lib.hid hb0
   clear hb0 hbl
   go_wp2_with fail
   with_reducible refine (HBI.out _ (by (repeat (first | exact Below.refl _ _ | exact HB.out | refine Below.drew ?_ | refine Below.al ?_ _ | refine Below.sc ?_ _)))).mono ?_
   rintro e w0 ⟨rfl, rfl⟩
   go_wp2_with fail
   with_reducible refine (wakes15_is _).mono ?_
   rintro e w2 ⟨rfl, hb⟩
   have hbs := Below.trans (show Below w1.heap.size w1 _ from (by (repeat (first | exact Below.refl _ _ | refine Below.drew ?_ | refine Below.al ?_ _ | refine Below.sc ?_ _)))) (hb.mono (by simp <;> omega))
   have Kt := Lib.hid (Kt.out.new_ hbs)
   have HB := Lib.hid (HB.out.trans (hbs.mono HB.out.size))
   have hsz2 := hbs.size
   clear t0 t1 t2 t3 t4 t5 t6 t7 t8 tz hb hbs
   obtain ⟨t0, t1, t2, t3, t4, t5, t6, t7, t8⟩ := Kt.out.c9
   have tz := Kt.out.lt
   go_wp2_with fail
   go_ret
   exact ⟨rfl, by (repeat (first | exact Below.refl _ _ | exact HB.out | refine Below.drew ?_ | refine Below.al ?_ _ | refine Below.sc ?_ _))⟩
 · skip
   rw [hbl] at hb0
   have HBI := Lib.hid hb0
   clear hb0 hbl
   obtain ⟨⟨s, ok⟩, hs⟩ : ∃ r, r = valueV t l := ⟨_, rfl⟩
   have hc1 := fun W (hb : Below w.heap.size w W) => value_is t l W (H.out.new_ hb)
   have hc2 := fun W (hb : Below w.heap.size w W) => rvalue_is t l W (H.out.new_ hb)
   simp only [← hs] at hc1 hc2
   have HC1 := Lib.hid hc1
   have HC2 := Lib.hid hc2
   clear hc1 hc2 hs
   go_wp2_with fail
   with_reducible refine (HBI.out _ (by (repeat (first | exact Below.refl _ _ | exact HB.out | refine Below.drew ?_ | refine Below.al ?_ _ | refine Below.sc ?_ _)))).mono ?_
   rintro e w0 ⟨rfl, rfl⟩
   go_wp2_with fail
   with_reducible refine (HC1.out _ (by (repeat (first | exact Below.refl _ _ | exact HB.out | refine Below.drew ?_ | refine Below.al ?_ _ | refine Below.sc ?_ _)))).mono ?_
   rintro e w2 ⟨rfl, hb⟩
   have hbs := Below.trans (show Below w1.heap.size w1 _ from (by (repeat (first | exact Below.refl _ _ | refine Below.drew ?_ | refine Below.al ?_ _ | refine Below.sc ?_ _)))) (hb.mono (by simp <;> omega))
   have Kt := Lib.hid (Kt.out.new_ hbs)
   have HB := Lib.hid (HB.out.trans (hbs.mono HB.out.size))
   have hsz2 := hbs.size
   clear t0 t1 t2 t3 t4 t5 t6 t7 t8 tz hb hbs
   obtain ⟨t0, t1, t2, t3, t4, t5, t6, t7, t8⟩ := Kt.out.c9
   have tz := Kt.out.lt
   go_wp2_with fail
   with_reducible refine (HC2.out _ (by (repeat (first | exact Below.refl _ _ | exact HB.out | refine Below.drew ?_ | refine Below.al ?_ _ | refine Below.sc ?_ _)))).mono ?_
   rintro e w3 ⟨rfl, hb⟩
   have hbs := Below.trans (show Below w2.heap.size w2 _ from (by (repeat (first | exact Below.refl _ _ | refine Below.drew ?_ | refine Below.al ?_ _ | refine Below.sc ?_ _)))) (hb.mono (by simp <;> omega))
   have Kt := Lib.hid (Kt.out.new_ hbs)
   have Ka := Lib.hid (show Blk w3 (w2.heap.size) 23 #[.int .i64 s.kind, .string s.text, .int .i64 s.n] from (Blk.new _ _ _).new_ hb)
   have HB := Lib.hid (HB.out.trans (hbs.mono HB.out.size))
   have hsz3 := hbs.size
   clear t0 t1 t2 t3 t4 t5 t6 t7 t8 tz hb hbs
   obtain ⟨t0, t1, t2, t3, t4, t5, t6, t7, t8⟩ := Kt.out.c9
   have tz := Kt.out.lt
   obtain ⟨a0, a1, a2⟩ := Ka.out.c3
   have az := Ka.out.lt
   have he := fun W => eql_sym s s W
   simp only [decide_true] at he
   go_wp2_with fail
   with_reducible refine (wakes15_is _).mono ?_
   rintro e w4 ⟨rfl, hb⟩
   have hbs := Below.trans (show Below w3.heap.size w3 _ from (by (repeat (first | exact Below.refl _ _ | refine Below.drew ?_ | refine Below.al ?_ _ | refine Below.sc ?_ _)))) (hb.mono (by simp <;> omega))
   have Kt := Lib.hid (Kt.out.new_ hbs)
   have Ka := Lib.hid (Ka.out.new_ hbs)
   have HB := Lib.hid (HB.out.trans (hbs.mono HB.out.size))
   have hsz4 := hbs.size
   clear t0 t1 t2 t3 t4 t5 t6 t7 t8 tz a0 a1 a2 az hb hbs
   obtain ⟨t0, t1, t2, t3, t4, t5, t6, t7, t8⟩ := Kt.out.c9
   have tz := Kt.out.lt
   obtain ⟨a0, a1, a2⟩ := Ka.out.c3
   have az := Ka.out.lt
   go_wp2_with fail
   go_ret
   exact ⟨rfl, by (repeat (first | exact Below.refl _ _ | exact HB.out | refine Below.drew ?_ | refine Below.al ?_ _ | refine Below.sc ?_ _))⟩
end Go.Proofs.YtpndmjabjjbefaaGreat
namespace Go.Proofs.YtpndmjabjjbefaaGreat
open Go.RowKit Go.ChangeShapes Go.WideShapes Go.Deep
set_option maxRecDepth 100000 in
theorem open_TermT {H : Type} {enc : TypeId × Value → H} {w : World} {r : Reach} {b0 base : Nat} {spare : Nat → Bool} {held : Bool} {v : Value} {d : DataW H} {ps : List MemPlace}
 (hval : Value.okWide Tryz.prog w r b0 27 v) (h : DataW.Trod enc Tryz.prog w base spare held 27 v d ps) : ∃ x : TermT, v = .agg (TermT.cells x).toArray := by
 obtain ⟨cs, rfl, _⟩ := okWide_struct Tryz.underlying27 hval
 obtain ⟨fuel, hf⟩ := h
 obtain ⟨x, hx⟩ := opens_TermT.2 H enc w base spare held fuel _ _ hf
 have hx : _ = TermT.cells x := hx
 refine ⟨x, ?_⟩
 simp only [Value.cells] at hx
 rw [← hx]
set_option maxRecDepth 100000 in
theorem open_ProdT {H : Type} {enc : TypeId × Value → H} {w : World} {r : Reach} {b0 base : Nat} {spare : Nat → Bool} {held : Bool} {v : Value} {d : DataW H} {ps : List MemPlace}
 (hval : Value.okWide Tryz.prog w r b0 42 v) (h : DataW.Trod enc Tryz.prog w base spare held 42 v d ps) : ∃ (n : Nat) (x : ProdT) (A1 : Option Addr) (c1 : Nat) (A2 : Option Addr) (c2 : Nat), v = .agg #[.string x.name, .slice A1 x.conds.length c1, .slice A2 x.acts.length c2] ∧
  RowR (repCondT n) (· < w.heap.size) w A1 c1 x.conds ∧ RowR repActT (· < w.heap.size) w A2 c2 x.acts := by
 obtain ⟨cs, rfl, _⟩ := okWide_struct Tryz.underlying42 hval
 obtain ⟨fuel, hf⟩ := h
 obtain ⟨x, A1, c1, A2, c2, hx, h1, h2⟩ := openN_ProdT enc w base spare held fuel _ _ hf
 refine ⟨fuel, x, A1, c1, A2, c2, ?_, h1, h2⟩
 simp only [Value.cells] at hx
 have : cs = #[.string x.name, .slice A1 x.conds.length c1, .slice A2 x.acts.length c2] := by rw [← Array.toList_inj]; simpa using hx
 rw [this]
end Go.Proofs.YtpndmjabjjbefaaGreat
namespace Go.Proofs.YtpndmjabjjbefaaGreat
open Go.RowKit Go.Shelf
attribute [local go_sem] Oper.semAt_some
def strC (s : ByteArray) : List Value := [.string s]
theorem strC_len (s : ByteArray) : (strC s).length = 1 := rfl
theorem info_Str : (Tryz.prog.info? 9).map (fun i => (i.zero, i.size, i.bytes)) = some (some (.string ⟨#[]⟩), 1, 16) := by kernel_rfl
def StrsTo (W : World) (xs : List ByteArray) (e : Ending) (W' : World) : Prop :=
 ∃ A c, e = .returned (.slice A xs.length c) ∧ W'.ownsRow 0 9 1 (.slice A xs.length c) xs.length (xs.flatMap strC) ∧ AIn A (W.heap.size ≤ ·) ∧ Below W.heap.size W W'
def ColI (w : World) (ob : Nat) (D : Nat → Prop) (pre : List ByteArray) (X : World) : Prop :=
 ∃ A c, Own D X ob 47 #[.slice A pre.length c] ∧ OwnR D X 9 1 pre.length A c (pre.flatMap strC) ∧ AIn A (w.heap.size ≤ ·) ∧ Below w.heap.size w X ∧ (∀ k, D k → k < X.heap.size)
theorem ColI.step {w : World} {ob B : Nat} {D : Nat → Prop} {pre : List ByteArray} {X Y : World} (h : ColI w ob D pre X) (hB : w.heap.size ≤ B) (hF : Fr (FromB B D) X Y) : ColI w ob (Plus D X Y) pre Y := by
 obtain ⟨A, c, h1, h2, h3, h4, h5⟩ := h
 exact ⟨A, c, h1.step hF, h2.step hF, h3, h4.trans (hF.below h4.size (fun k hk hn => by have := hn.2; omega)), fun k hk => hk.elim (fun hk => Nat.lt_of_lt_of_le (h5 k hk) hF.size) (·.2)⟩
set_option maxRecDepth 100000 in
set_option maxHeartbeats 4000000 in
theorem listO_is {D : Nat → Prop} (gf : Nat) (lb : Array Value) (xs : List ByteArray) (w : World) (hD : ∀ k, D k → k < w.heap.size) (hit : ∀ W, Below w.heap.size w W → IterO Tryz.prog gf lb encStr xs W D)
 (hent : ∀ args w, (callFunc gf args).run Tryz.prog w = .ok (.enter gf args) w) (hlen : xs.length ≤ 1000000) :
 Calls Tryz.prog 21 #[.func (.func gf) #[] lb] w (StrsTo w xs) := by
 obtain ⟨i0, hi0, hz0, hz1, hz2⟩ := info_parts info_Str
 have hbe : ∀ W, (binOp .eql 50 (.func (.func gf) #[] lb) .nilFunc).run Tryz.prog W = .ok (.bool false) W := fun W => by kernel_rfl
 have HD := Lib.hid hD
 have HIT := Lib.hid hit
 have HENT := Lib.hid hent
 clear hD hit hent
 refine (callsIn_wide (n := 0)).1 ?_
 refine callsIn_of_wp_marks Tryz.func21 rfl trivial ?_
 refine wpIn_wide.2 ?_
 simp only [Tryz.ntmps21, List.size_toArray, List.length_cons, List.length_nil, Nat.reduceAdd, Nat.reduceSub, Array.replicate_succ, Array.replicate_zero, List.push_toArray, List.append_toArray, List.nil_append, List.cons_append]
 go_upto_region 2 with fail
 obtain ⟨w1, hw1⟩ : ∃ w1, w1 = (w.alloc (.cells #[.slice none 0 0] 47)) := ⟨_, rfl⟩
 rw [← hw1]
 have HB := Lib.hid (show Below w.heap.size w w1 by rw [hw1]; exact (by repeat (first | exact Below.refl _ _ | refine Below.drew ?_ | refine Below.al ?_ _ | refine Below.sc ?_ _)))
 have Ko := Lib.hid (show Blk w1 (w.heap.size) 47 #[.slice none 0 0] by rw [hw1]; exact (Blk.new w 47 #[.slice none 0 0]))
 clear hw1
 have o0 := Ko.out.c1
 have of0 := Ko.out.frozen 0
 have oz := Ko.out.lt
 go_wp2_with fail
 obtain ⟨I, hI⟩ : ∃ I : (Nat → Prop) → List ByteArray → World → Prop, I = fun D' pre X => ColI w (w.heap.size) D' pre X := ⟨_, rfl⟩
 obtain ⟨Ix, hIx⟩ : ∃ Ix : Code → (Nat → Prop) → List ByteArray → World → Prop, Ix = fun cd D' pre X => False := ⟨_, rfl⟩
 have hzs := HB.out.size
 have hst : Steady w1.heap.size I := by
  subst hI
  intro D' pre X Y h hF
  exact h.step HB.out.size hF
 have hstx : ∀ cd, Steady w1.heap.size (Ix cd) := by
  subst hIx
  intro cd D' pre X Y h hF
  exact h.elim
 have HST := Lib.hid hst
 have HZ1 := Lib.hid hzs
 refine (wpIn_wide (n := 0)).1 ?_
 refine wpIn_rangeO (w := w1) (by rfl) HENT.out (fun k hk => Nat.lt_of_lt_of_le (HD.out k hk) HZ1.out) (fun W hW => HIT.out W (HB.out.trans (hW.mono HZ1.out))) (fun x => by rfl) I Ix hst hstx ?_ ?_ ?_ ?_
 · subst hI
   exact ⟨none, 0, ⟨Ko.out, (fun hd => by have := HD.out _ hd; omega)⟩, ⟨owns_nil _ _ _ _, AIn.none_ _⟩, AIn.none_ _, HB.out, fun k hk => Nat.lt_of_lt_of_le (HD.out k hk) HZ1.out⟩
 · intro D' lo pre x post X hx hlo hDl hIX
   have hpl : pre.length + 1 ≤ 1000000 := by
    have := congrArg List.length hx
    simp at this
    omega
   simp only [encStr, Array.zip]
   gi_wp2_with fail
   refine ⟨Fr.refl _ _, fun X2 hF2 hz2 _ => ?_⟩
   have hI2 := hst.same hIX (hF2.mono (fun k _ e => by rw [e]; exact ⟨hDl, hlo⟩)) hz2
   have HI := Lib.hid hI
   have HIX := Lib.hid hIx
   rw [hI] at hI2
   clear hI hIx hst hstx hIX hF2 hz2 HST hx
   obtain ⟨A, c, hbo, hro, hao, hbl, hdl⟩ := hI2
   have b0 := (hbo.1.cell 0).trans rfl
   have bf := hbo.1.frozen 0
   have bz := hbo.1.lt
   obtain ⟨X9, hX9⟩ : ∃ X9, X9 = X2.alloc (.cells #[.string x] 9) := ⟨_, rfl⟩
   have hb9 : Below X2.heap.size X2 X9 := by rw [hX9]; exact (Below.refl _ _).alloc (Nat.le_refl _) _
   have HX9 := Lib.hid hX9
   have HB9 := Lib.hid hb9
   have HO9 := Lib.hid (ownsRow_new hro.1 hb9)
   have HN9 := Lib.hid (show ∀ (j : Nat) (u : Value), (strC x)[j]? = some u → X9.cell? ((⟨X2.heap.size, 0, none⟩ : Addr).add j) = some u by rw [hX9]; exact news_alloc rfl)
   have HBO := Lib.hid hbo
   have HRO := Lib.hid hro
   have HAO := Lib.hid hao
   have HBL := Lib.hid hbl
   have HDL := Lib.hid hdl
   have KBB := Lib.hid (hbo.1.new_ hb9)
   clear hX9 hb9 hbo hro hao hbl hdl
   gi_wp2_with (gi_at_builtin; rw [← HX9.out]; refine wpListIn_app X9 rfl (.tmp 9) (.tmp 11) 47 rfl 9 i0 _ 1 16 Tryz.underlying47 hi0 hz0 hz1 hz2 rfl (by decide) _ pre.length _ rfl HO9.out _ 1 1 (strC x) rfl rfl (fun _ => ⟨_, rfl, HN9.out⟩) (by intro u hu; simp only [strC, List.mem_cons, List.not_mem_nil, or_false] at hu; subst hu; rfl) (by unfold maxLen; omega) (by omega) ?_; intro v' w6 hown hg hnil hat; obtain ⟨A3, c3, rfl, hF3, hA3, hO3⟩ := grown_own (E := fun k => ∃ a, A = some a ∧ a.block = k) (fun a ha => ⟨a, ha, rfl⟩) hown hg hat; have HF3 := Lib.hid hF3; have HA3 := Lib.hid hA3; have HO3 := Lib.hid hO3; have hkb6 := KBB.out.grown hg (own_blk_ne HO9.out KBB.out (by decide)); have b0 := (hkb6.cell 0).trans rfl; have bf := hkb6.frozen 0; have bz := hkb6.lt; have KBB6 := Lib.hid hkb6; clear hkb6 hown hg hnil hat hF3 hA3 hO3)
   have hF7 : Fr (fun k => (∃ a, A = some a ∧ a.block = k) ∨ k = w.heap.size) X2 (w6.setCell ⟨w.heap.size, 0, none⟩ (.slice A3 (pre.length + 1) c3)) :=
    ((Fr.of_new HB9.out).trans (HF3.out.mono (fun k _ hk => .inl hk))).setCell (p := ⟨w.heap.size, 0, none⟩) (.inl (.inr rfl)) _
   have hnD : ∀ k, ((∃ a, A = some a ∧ a.block = k) ∨ k = w.heap.size) → ¬ D' k := by
    rintro k (⟨a, ha, rfl⟩ | rfl)
    · exact HRO.out.2 a ha
    · exact HBO.out.2
   have hz9' := HB9.out.size
   have hlow : w.heap.size ≤ X2.heap.size := HBL.out.size
   have hAn : ∀ a, A3 = some a → ((∃ b, A = some b ∧ b.block = a.block) ∨ X2.heap.size < a.block) := fun a ha => by
    rcases HA3.out a ha with h | h
    · exact .inl h
    · refine .inr ?_
      have : X9.heap.size = X2.heap.size + 1 := by rw [HX9.out]; simp
      omega
   have hcol : ColI w (w.heap.size) D' (pre ++ [x]) (w6.setCell ⟨w.heap.size, 0, none⟩ (.slice A3 (pre.length + 1) c3)) := by
    have e1 : (pre ++ [x]).length = pre.length + 1 := by simp
    refine ⟨A3, c3, ⟨?_, HBO.out.2⟩, ⟨?_, fun a ha hd => ?_⟩, fun a ha => ?_, HBL.out.trans (hF7.below hlow (fun k hk hn => ?_)), fun k hk => Nat.lt_of_lt_of_le (HDL.out k hk) hF7.size⟩
    · rw [e1]
      simpa using KBB6.out.set_ 0 (.slice A3 (pre.length + 1) c3)
    · rw [e1, List.flatMap_append]
      have := ownsRow_setCell_other (a := ⟨w.heap.size, 0, none⟩) HO3.out (own_blk_ne HO3.out KBB6.out (by decide)) (.slice A3 (pre.length + 1) c3)
      simpa [strC] using this
    · rcases hAn a ha with ⟨b, hb, e⟩ | h
      · exact HRO.out.2 b hb (e ▸ hd)
      · exact absurd (HDL.out _ hd) (by omega)
    · rcases hAn a ha with ⟨b, hb, e⟩ | h
      · have := HAO.out b hb
        show w.heap.size ≤ a.block
        omega
      · show w.heap.size ≤ a.block
        omega
    · rcases hn with ⟨a, ha, rfl⟩ | rfl
      · have := HAO.out a ha
        omega
      · omega
   refine ⟨hF7.mono (fun k _ hk => hnD k hk), ?_⟩
   rw [HI.out]
   exact hcol
 · intro D' d X hd hDd hIX hK
   rw [hI] at hIX
   obtain ⟨A, c, hbo, hro, hao, hbl, hdl⟩ := hIX
   have b0 := (hbo.1.cell 0).trans rfl
   have bz := hbo.1.lt
   have HRO := Lib.hid hro
   have HAO := Lib.hid hao
   have HBL := Lib.hid hbl
   have HK := Lib.hid hK
   have HBO := Lib.hid hbo
   clear hI hIx hst hstx HST hbo hro hao hbl hdl hK
   go_wp2_with fail
   refine ⟨by simp, .inl ⟨_, _, rfl, run_takeDeferred HK.out, ?_⟩⟩
   have hput : Fr (· = d) X (X.putObj d (.deferred none)) := (Fr.refl (· = d) X).putObj (.inl rfl) _
   refine ⟨_, results_tmp rfl _ _ _, ?_⟩
   exact ⟨A, c, rfl, ownsRow_fr HRO.out.1 hput (fun g hg e => by
    rcases A with _ | a
    · simp [Value.ownBlock] at hg
    · have e2 : a.block = g := by simpa [Value.ownBlock] using hg
      exact HRO.out.2 a rfl (by rw [e2, e]; exact hDd)), HAO.out, HBL.out.trans (hput.below HBL.out.size (fun k hk hn => by have := HZ1.out; omega))⟩
 · intro D' d cd pre post X hd hDd hx hIX hK
   rw [hIx] at hIX
   exact hIX.elim
set_option maxRecDepth 100000 in
set_option maxHeartbeats 4000000 in
theorem firstO_is {D : Nat → Prop} (gf : Nat) (lb : Array Value) (xs : List ByteArray) (w : World) (n : Int) (hD : ∀ k, D k → k < w.heap.size) (hit : ∀ W, Below w.heap.size w W → IterO Tryz.prog gf lb encStr xs W D)
 (hent : ∀ args w, (callFunc gf args).run Tryz.prog w = .ok (.enter gf args) w) (hlen : xs.length ≤ 1000000) :
 Calls Tryz.prog 20 #[.func (.func gf) #[] lb, .int .i64 n] w (StrsTo w (xs.take n.toNat)) := by
 obtain ⟨i0, hi0, hz0, hz1, hz2⟩ := info_parts info_Str
 have hbe : ∀ W, (binOp .eql 50 (.func (.func gf) #[] lb) .nilFunc).run Tryz.prog W = .ok (.bool false) W := fun W => by kernel_rfl
 have HD := Lib.hid hD
 have HIT := Lib.hid hit
 have HENT := Lib.hid hent
 clear hD hit hent
 by_cases h1 : n < 1
 · have t1 : decide (n < 1) = true := by simp; omega
   have HT := Lib.hid (show xs.take n.toNat = [] by rw [show n.toNat = 0 by omega, List.take_zero])
   clear h1
   refine (callsIn_wide (n := 0)).1 ?_
   refine callsIn_of_wp_marks Tryz.func20 rfl trivial ?_
   refine wpIn_wide.2 ?_
   simp only [Tryz.ntmps20, List.size_toArray, List.length_cons, List.length_nil, Nat.reduceAdd, Nat.reduceSub, Array.replicate_succ, Array.replicate_zero, List.push_toArray, List.append_toArray, List.nil_append, List.cons_append]
   go_upto_region 2 with fail
   obtain ⟨w1, hw1⟩ : ∃ w1, w1 = ((w.alloc (.cells #[.int .i64 n] 3)).alloc (.cells #[.slice none 0 0] 47)) := ⟨_, rfl⟩
   rw [← hw1]
   have HB := Lib.hid (show Below w.heap.size w w1 by rw [hw1]; exact (by repeat (first | exact Below.refl _ _ | refine Below.drew ?_ | refine Below.al ?_ _ | refine Below.sc ?_ _)))
   have Kn := Lib.hid (show Blk w1 (w.heap.size) 3 #[.int .i64 n] by rw [hw1]; exact ((Blk.new w 3 #[.int .i64 n]).alloc (.cells #[.slice none 0 0] 47)))
   have Ko := Lib.hid (show Blk w1 (w.heap.size + 1) 47 #[.slice none 0 0] by rw [hw1]; have hh := (Blk.new (w.alloc (.cells #[.int .i64 n] 3)) 47 #[.slice none 0 0]); simp only [World.size_alloc] at hh; exact hh)
   clear hw1
   have n0 := Kn.out.c1
   have nz := Kn.out.lt
   have o0 := Ko.out.c1
   have of0 := Ko.out.frozen 0
   have oz := Ko.out.lt
   go_wp2_with fail
   refine ⟨_, results_tmp rfl _ _ _, ?_⟩
   rw [HT.out]
   exact ⟨none, 0, rfl, owns_nil _ _ _ _, AIn.none_ _, HB.out⟩
 · have t1 : decide (n < 1) = false := by simp; omega
   obtain ⟨m, rfl⟩ : ∃ m : Nat, n = m := ⟨n.toNat, by omega⟩
   have hm : 1 ≤ m := by omega
   clear h1
   rw [Int.toNat_natCast]
   refine (callsIn_wide (n := 0)).1 ?_
   refine callsIn_of_wp_marks Tryz.func20 rfl trivial ?_
   refine wpIn_wide.2 ?_
   simp only [Tryz.ntmps20, List.size_toArray, List.length_cons, List.length_nil, Nat.reduceAdd, Nat.reduceSub, Array.replicate_succ, Array.replicate_zero, List.push_toArray, List.append_toArray, List.nil_append, List.cons_append]
   go_upto_region 2 with fail
   obtain ⟨w1, hw1⟩ : ∃ w1, w1 = ((w.alloc (.cells #[.int .i64 (m : Int)] 3)).alloc (.cells #[.slice none 0 0] 47)) := ⟨_, rfl⟩
   rw [← hw1]
   have HB := Lib.hid (show Below w.heap.size w w1 by rw [hw1]; exact (by repeat (first | exact Below.refl _ _ | refine Below.drew ?_ | refine Below.al ?_ _ | refine Below.sc ?_ _)))
   have Kn := Lib.hid (show Blk w1 (w.heap.size) 3 #[.int .i64 (m : Int)] by rw [hw1]; exact ((Blk.new w 3 #[.int .i64 (m : Int)]).alloc (.cells #[.slice none 0 0] 47)))
   have Ko := Lib.hid (show Blk w1 (w.heap.size + 1) 47 #[.slice none 0 0] by rw [hw1]; have hh := (Blk.new (w.alloc (.cells #[.int .i64 (m : Int)] 3)) 47 #[.slice none 0 0]); simp only [World.size_alloc] at hh; exact hh)
   clear hw1
   have n0 := Kn.out.c1
   have nz := Kn.out.lt
   have o0 := Ko.out.c1
   have of0 := Ko.out.frozen 0
   have oz := Ko.out.lt
   go_wp2_with fail
   obtain ⟨I, hI⟩ : ∃ I : (Nat → Prop) → List ByteArray → World → Prop, I = fun D' pre X => (ColI w (w.heap.size + 1) D' pre X) ∧ Own D' X w.heap.size 3 #[.int .i64 (m : Int)] ∧ pre.length < m := ⟨_, rfl⟩
   obtain ⟨Ix, hIx⟩ : ∃ Ix : Code → (Nat → Prop) → List ByteArray → World → Prop, Ix = fun cd D' pre X => cd = .exit 0 ∧ ColI w (w.heap.size + 1) D' pre X ∧ pre.length = m := ⟨_, rfl⟩
   have hzs := HB.out.size
   have hst : Steady w1.heap.size I := by
    subst hI
    intro D' pre X Y h hF
    exact ⟨h.1.step HB.out.size hF, h.2.1.step hF, h.2.2⟩
   have hstx : ∀ cd, Steady w1.heap.size (Ix cd) := by
    subst hIx
    intro cd D' pre X Y h hF
    exact ⟨h.1, h.2.1.step HB.out.size hF, h.2.2⟩
   have HST := Lib.hid hst
   have HZ1 := Lib.hid hzs
   refine (wpIn_wide (n := 0)).1 ?_
   refine wpIn_rangeO (w := w1) (by rfl) HENT.out (fun k hk => Nat.lt_of_lt_of_le (HD.out k hk) HZ1.out) (fun W hW => HIT.out W (HB.out.trans (hW.mono HZ1.out))) (fun x => by rfl) I Ix hst hstx ?_ ?_ ?_ ?_
   · subst hI
     exact ⟨⟨none, 0, ⟨Ko.out, (fun hd => by have := HD.out _ hd; omega)⟩, ⟨owns_nil _ _ _ _, AIn.none_ _⟩, AIn.none_ _, HB.out, fun k hk => Nat.lt_of_lt_of_le (HD.out k hk) HZ1.out⟩, ⟨Kn.out, (fun hd => by have := HD.out _ hd; omega)⟩, hm⟩
   · intro D' lo pre x post X hx hlo hDl hIX
     have hpl : pre.length + 1 ≤ 1000000 := by
      have := congrArg List.length hx
      simp at this
      omega
     simp only [encStr, Array.zip]
     gi_wp2_with fail
     refine ⟨Fr.refl _ _, fun X2 hF2 hz2 _ => ?_⟩
     have hI2 := hst.same hIX (hF2.mono (fun k _ e => by rw [e]; exact ⟨hDl, hlo⟩)) hz2
     have HI := Lib.hid hI
     have HIX := Lib.hid hIx
     rw [hI] at hI2
     clear hI hIx hst hstx hIX hF2 hz2 HST hx
     obtain ⟨⟨A, c, hbo, hro, hao, hbl, hdl⟩, hbn, hpm⟩ := hI2
     have b0 := (hbo.1.cell 0).trans rfl
     have bf := hbo.1.frozen 0
     have bz := hbo.1.lt
     obtain ⟨X9, hX9⟩ : ∃ X9, X9 = X2.alloc (.cells #[.string x] 9) := ⟨_, rfl⟩
     have hb9 : Below X2.heap.size X2 X9 := by rw [hX9]; exact (Below.refl _ _).alloc (Nat.le_refl _) _
     have HX9 := Lib.hid hX9
     have HB9 := Lib.hid hb9
     have HO9 := Lib.hid (ownsRow_new hro.1 hb9)
     have HN9 := Lib.hid (show ∀ (j : Nat) (u : Value), (strC x)[j]? = some u → X9.cell? ((⟨X2.heap.size, 0, none⟩ : Addr).add j) = some u by rw [hX9]; exact news_alloc rfl)
     have HBO := Lib.hid hbo
     have HRO := Lib.hid hro
     have HAO := Lib.hid hao
     have HBL := Lib.hid hbl
     have HDL := Lib.hid hdl
     have KBB := Lib.hid (hbo.1.new_ hb9)
     clear hX9 hb9 hbo hro hao hbl hdl
     have HBN := Lib.hid hbn
     have KN9 := Lib.hid (hbn.1.new_ HB9.out)
     have hz9 := HB9.out.size
     clear hbn
     by_cases hd : m ≤ pre.length + 1
     · have t2 : decide ((m : Int) ≤ ((pre.length + 1 : Nat) : Int)) = true := by simp; omega
       have t3 : decide ((m : Int) ≤ (pre.length : Int) + 1) = true := by simp; omega
       gi_wp2_with (gi_at_builtin; rw [← HX9.out]; refine wpListIn_app X9 rfl (.tmp 15) (.tmp 17) 47 rfl 9 i0 _ 1 16 Tryz.underlying47 hi0 hz0 hz1 hz2 rfl (by decide) _ pre.length _ rfl HO9.out _ 1 1 (strC x) rfl rfl (fun _ => ⟨_, rfl, HN9.out⟩) (by intro u hu; simp only [strC, List.mem_cons, List.not_mem_nil, or_false] at hu; subst hu; rfl) (by unfold maxLen; omega) (by omega) ?_; intro v' w6 hown hg hnil hat; obtain ⟨A3, c3, rfl, hF3, hA3, hO3⟩ := grown_own (E := fun k => ∃ a, A = some a ∧ a.block = k) (fun a ha => ⟨a, ha, rfl⟩) hown hg hat; have HF3 := Lib.hid hF3; have HA3 := Lib.hid hA3; have HO3 := Lib.hid hO3; have hkb6 := KBB.out.grown hg (own_blk_ne HO9.out KBB.out (by decide)); have b0 := (hkb6.cell 0).trans rfl; have bf := hkb6.frozen 0; have bz := hkb6.lt; have KBB6 := Lib.hid hkb6; have hkn := KN9.out.grown hg (own_blk_ne HO9.out KN9.out (by decide)); have n0 := (hkn.cell 0).trans rfl; have nz := hkn.lt; have KN6 := Lib.hid hkn; clear hkn; clear hkb6 hown hg hnil hat hF3 hA3 hO3)
       have hF7 : Fr (fun k => (∃ a, A = some a ∧ a.block = k) ∨ k = w.heap.size + 1) X2 (w6.setCell ⟨w.heap.size + 1, 0, none⟩ (.slice A3 (pre.length + 1) c3)) :=
        ((Fr.of_new HB9.out).trans (HF3.out.mono (fun k _ hk => .inl hk))).setCell (p := ⟨w.heap.size + 1, 0, none⟩) (.inl (.inr rfl)) _
       have hnD : ∀ k, ((∃ a, A = some a ∧ a.block = k) ∨ k = w.heap.size + 1) → ¬ D' k := by
        rintro k (⟨a, ha, rfl⟩ | rfl)
        · exact HRO.out.2 a ha
        · exact HBO.out.2
       have hz9' := HB9.out.size
       have hlow : w.heap.size ≤ X2.heap.size := HBL.out.size
       have hAn : ∀ a, A3 = some a → ((∃ b, A = some b ∧ b.block = a.block) ∨ X2.heap.size < a.block) := fun a ha => by
        rcases HA3.out a ha with h | h
        · exact .inl h
        · refine .inr ?_
          have : X9.heap.size = X2.heap.size + 1 := by rw [HX9.out]; simp
          omega
       have hcol : ColI w (w.heap.size + 1) D' (pre ++ [x]) (w6.setCell ⟨w.heap.size + 1, 0, none⟩ (.slice A3 (pre.length + 1) c3)) := by
        have e1 : (pre ++ [x]).length = pre.length + 1 := by simp
        refine ⟨A3, c3, ⟨?_, HBO.out.2⟩, ⟨?_, fun a ha hd => ?_⟩, fun a ha => ?_, HBL.out.trans (hF7.below hlow (fun k hk hn => ?_)), fun k hk => Nat.lt_of_lt_of_le (HDL.out k hk) hF7.size⟩
        · rw [e1]
          simpa using KBB6.out.set_ 0 (.slice A3 (pre.length + 1) c3)
        · rw [e1, List.flatMap_append]
          have := ownsRow_setCell_other (a := ⟨w.heap.size + 1, 0, none⟩) HO3.out (own_blk_ne HO3.out KBB6.out (by decide)) (.slice A3 (pre.length + 1) c3)
          simpa [strC] using this
        · rcases hAn a ha with ⟨b, hb, e⟩ | h
          · exact HRO.out.2 b hb (e ▸ hd)
          · exact absurd (HDL.out _ hd) (by omega)
        · rcases hAn a ha with ⟨b, hb, e⟩ | h
          · have := HAO.out b hb
            show w.heap.size ≤ a.block
            omega
          · show w.heap.size ≤ a.block
            omega
        · rcases hn with ⟨a, ha, rfl⟩ | rfl
          · have := HAO.out a ha
            omega
          · omega
       have hnn : Own D' (w6.setCell ⟨w.heap.size + 1, 0, none⟩ (.slice A3 (pre.length + 1) c3)) w.heap.size 3 #[.int .i64 (m : Int)] := ⟨KN6.out.far (p := ⟨w.heap.size + 1, 0, none⟩) (by dsimp only; omega) _, HBN.out.2⟩
       refine ⟨hF7.mono (fun k _ hk => hnD k hk), ?_⟩
       rw [HIX.out]
       exact ⟨rfl, hcol, by simp; omega⟩
     · have t2 : decide ((m : Int) ≤ ((pre.length + 1 : Nat) : Int)) = false := by simp; omega
       have t3 : decide ((m : Int) ≤ (pre.length : Int) + 1) = false := by simp; omega
       gi_wp2_with (gi_at_builtin; rw [← HX9.out]; refine wpListIn_app X9 rfl (.tmp 15) (.tmp 17) 47 rfl 9 i0 _ 1 16 Tryz.underlying47 hi0 hz0 hz1 hz2 rfl (by decide) _ pre.length _ rfl HO9.out _ 1 1 (strC x) rfl rfl (fun _ => ⟨_, rfl, HN9.out⟩) (by intro u hu; simp only [strC, List.mem_cons, List.not_mem_nil, or_false] at hu; subst hu; rfl) (by unfold maxLen; omega) (by omega) ?_; intro v' w6 hown hg hnil hat; obtain ⟨A3, c3, rfl, hF3, hA3, hO3⟩ := grown_own (E := fun k => ∃ a, A = some a ∧ a.block = k) (fun a ha => ⟨a, ha, rfl⟩) hown hg hat; have HF3 := Lib.hid hF3; have HA3 := Lib.hid hA3; have HO3 := Lib.hid hO3; have hkb6 := KBB.out.grown hg (own_blk_ne HO9.out KBB.out (by decide)); have b0 := (hkb6.cell 0).trans rfl; have bf := hkb6.frozen 0; have bz := hkb6.lt; have KBB6 := Lib.hid hkb6; have hkn := KN9.out.grown hg (own_blk_ne HO9.out KN9.out (by decide)); have n0 := (hkn.cell 0).trans rfl; have nz := hkn.lt; have KN6 := Lib.hid hkn; clear hkn; clear hkb6 hown hg hnil hat hF3 hA3 hO3)
       have hF7 : Fr (fun k => (∃ a, A = some a ∧ a.block = k) ∨ k = w.heap.size + 1) X2 (w6.setCell ⟨w.heap.size + 1, 0, none⟩ (.slice A3 (pre.length + 1) c3)) :=
        ((Fr.of_new HB9.out).trans (HF3.out.mono (fun k _ hk => .inl hk))).setCell (p := ⟨w.heap.size + 1, 0, none⟩) (.inl (.inr rfl)) _
       have hnD : ∀ k, ((∃ a, A = some a ∧ a.block = k) ∨ k = w.heap.size + 1) → ¬ D' k := by
        rintro k (⟨a, ha, rfl⟩ | rfl)
        · exact HRO.out.2 a ha
        · exact HBO.out.2
       have hz9' := HB9.out.size
       have hlow : w.heap.size ≤ X2.heap.size := HBL.out.size
       have hAn : ∀ a, A3 = some a → ((∃ b, A = some b ∧ b.block = a.block) ∨ X2.heap.size < a.block) := fun a ha => by
        rcases HA3.out a ha with h | h
        · exact .inl h
        · refine .inr ?_
          have : X9.heap.size = X2.heap.size + 1 := by rw [HX9.out]; simp
          omega
       have hcol : ColI w (w.heap.size + 1) D' (pre ++ [x]) (w6.setCell ⟨w.heap.size + 1, 0, none⟩ (.slice A3 (pre.length + 1) c3)) := by
        have e1 : (pre ++ [x]).length = pre.length + 1 := by simp
        refine ⟨A3, c3, ⟨?_, HBO.out.2⟩, ⟨?_, fun a ha hd => ?_⟩, fun a ha => ?_, HBL.out.trans (hF7.below hlow (fun k hk hn => ?_)), fun k hk => Nat.lt_of_lt_of_le (HDL.out k hk) hF7.size⟩
        · rw [e1]
          simpa using KBB6.out.set_ 0 (.slice A3 (pre.length + 1) c3)
        · rw [e1, List.flatMap_append]
          have := ownsRow_setCell_other (a := ⟨w.heap.size + 1, 0, none⟩) HO3.out (own_blk_ne HO3.out KBB6.out (by decide)) (.slice A3 (pre.length + 1) c3)
          simpa [strC] using this
        · rcases hAn a ha with ⟨b, hb, e⟩ | h
          · exact HRO.out.2 b hb (e ▸ hd)
          · exact absurd (HDL.out _ hd) (by omega)
        · rcases hAn a ha with ⟨b, hb, e⟩ | h
          · have := HAO.out b hb
            show w.heap.size ≤ a.block
            omega
          · show w.heap.size ≤ a.block
            omega
        · rcases hn with ⟨a, ha, rfl⟩ | rfl
          · have := HAO.out a ha
            omega
          · omega
       have hnn : Own D' (w6.setCell ⟨w.heap.size + 1, 0, none⟩ (.slice A3 (pre.length + 1) c3)) w.heap.size 3 #[.int .i64 (m : Int)] := ⟨KN6.out.far (p := ⟨w.heap.size + 1, 0, none⟩) (by dsimp only; omega) _, HBN.out.2⟩
       refine ⟨hF7.mono (fun k _ hk => hnD k hk), ?_⟩
       rw [HI.out]
       exact ⟨hcol, hnn, by simp; omega⟩
   · intro D' d X hd hDd hIX hK
     rw [hI] at hIX
     obtain ⟨⟨A, c, hbo, hro, hao, hbl, hdl⟩, hbn, hpm⟩ := hIX
     have b0 := (hbo.1.cell 0).trans rfl
     have bz := hbo.1.lt
     have HRO := Lib.hid hro
     have HAO := Lib.hid hao
     have HBL := Lib.hid hbl
     have HK := Lib.hid hK
     have HBO := Lib.hid hbo
     have HT := Lib.hid (show xs.take m = xs from List.take_of_length_le (by omega))
     clear hbn hI hIx hst hstx HST hbo hro hao hbl hdl hK
     go_wp2_with fail
     refine ⟨by simp, .inl ⟨_, _, rfl, run_takeDeferred HK.out, ?_⟩⟩
     have hput : Fr (· = d) X (X.putObj d (.deferred none)) := (Fr.refl (· = d) X).putObj (.inl rfl) _
     refine ⟨_, results_tmp rfl _ _ _, ?_⟩
     rw [HT.out]
     exact ⟨A, c, rfl, ownsRow_fr HRO.out.1 hput (fun g hg e => by
      rcases A with _ | a
      · simp [Value.ownBlock] at hg
      · have e2 : a.block = g := by simpa [Value.ownBlock] using hg
        exact HRO.out.2 a rfl (by rw [e2, e]; exact hDd)), HAO.out, HBL.out.trans (hput.below HBL.out.size (fun k hk hn => by have := HZ1.out; omega))⟩
   · intro D' d cd pre post X hd hDd hx hIX hK
     rw [hIx] at hIX
     obtain ⟨rfl, ⟨A, c, hbo, hro, hao, hbl, hdl⟩, hpm⟩ := hIX
     have b0 := (hbo.1.cell 0).trans rfl
     have bz := hbo.1.lt
     have HRO := Lib.hid hro
     have HAO := Lib.hid hao
     have HBL := Lib.hid hbl
     have HK := Lib.hid hK
     have HBO := Lib.hid hbo
     have HT := Lib.hid (show xs.take m = pre by rw [hx, ← hpm]; simp)
     clear hx hpm hI hIx hst hstx HST hbo hro hao hbl hdl hK
     gi_wp2_with fail
     go_wp2_with fail
     refine ⟨by simp, .inl ⟨_, _, rfl, run_takeDeferred HK.out, ?_⟩⟩
     have hput : Fr (· = d) X (X.putObj d (.deferred none)) := (Fr.refl (· = d) X).putObj (.inl rfl) _
     refine ⟨_, results_tmp rfl _ _ _, ?_⟩
     rw [HT.out]
     exact ⟨A, c, rfl, ownsRow_fr HRO.out.1 hput (fun g hg e => by
      rcases A with _ | a
      · simp [Value.ownBlock] at hg
      · have e2 : a.block = g := by simpa [Value.ownBlock] using hg
        exact HRO.out.2 a rfl (by rw [e2, e]; exact hDd)), HAO.out, HBL.out.trans (hput.below HBL.out.size (fun k hk hn => by have := HZ1.out; omega))⟩
end Go.Proofs.YtpndmjabjjbefaaGreat
namespace Go.Proofs.YtpndmjabjjbefaaGreat
open Go.RowKit Go.Shelf
theorem str_at {D : Nat → Prop} {w : World} {A : Option Addr} {c k : Nat} {l : List ByteArray} (h : RowR repStr D w A c l) (hk : k < l.length) : ∃ g off, A = some ⟨g, off, none⟩ ∧ g < w.heap.size ∧ w.cell? ⟨g, off + k, none⟩ = some (.string l[k]) := by
 obtain ⟨g, off, cs, hA, hD, hg, hr, hc⟩ := h.at_ hk
 have hr2 : cs = [Value.string l[k]] := hr
 subst hr2
 exact ⟨g, off, hA, hg, by simpa [repStr, RepT.flat] using hc 0 _ rfl⟩
theorem strs_row {w : World} {A : Option Addr} {c n : Nat} {l : List ByteArray} (hn : l.length = n) (h : w.ownsRow 0 9 1 (.slice A n c) n (l.flatMap strC)) : RowR repStr (fun _ => True) w A c l := by
 subst hn
 exact RowR.of_rd (ownsRow_rd strC_len h) (fun _ _ => trivial)
def inB (l : List ByteArray) (v : ByteArray) : Bool := l.any fun s => decide (s.toList = v.toList)
set_option maxRecDepth 100000 in
set_option maxHeartbeats 2000000 in
theorem inB_is {D : Nat → Prop} {A : Option Addr} {c : Nat} (l : List ByteArray) (v : ByteArray) (w : World) (h : RowR repStr D w A c l) : Calls Tryz.prog 47 #[.slice A l.length c, .string v] w fun e w' => e = .returned (.bool (inB l v)) ∧ w = w' := by
 have H := Lib.hid h
 have hlc := h.cap
 clear h
 go_enter Tryz.func47, Tryz.ntmps47
 go_wp2_with fail
 go_loopw [5] (fun s wr => ∃ i : Nat, s = .int .i64 i ∧ i ≤ l.length ∧ (∀ k, (h : k < l.length) → k < i → ¬ l[k].toList = v.toList) ∧ wr = w) (fun s wr => l.length - (intOf s).toNat)
 case atStart => exact ⟨0, rfl, Nat.zero_le _, fun k _ h => absurd h (by omega), rfl⟩
 case round =>
  obtain ⟨i, rfl, hi, hall, rfl⟩ := hrel
  have HALL := Lib.hid hall
  clear hall
  by_cases hlt : i < l.length
  · obtain ⟨x, hx⟩ : ∃ x, x = l[i] := ⟨_, rfl⟩
    obtain ⟨g, off, rfl, hgs, q0⟩ := str_at H.out hlt
    rw [← hx] at q0
    have b1 : (0 : Int) ≤ (i : Int) := by omega
    have b2 : (i : Int) < (l.length : Int) := by omega
    have HX := Lib.hid hx
    clear hx
    by_cases he : x.toList = v.toList
    · have t1 : (x.toList == v.toList) = true := by simp [he]
      have t2 : decide (x.toList = v.toList) = true := by simp [he]
      have HN := Lib.hid (show inB l v = true from List.any_eq_true.2 ⟨x, by rw [HX.out]; exact List.getElem_mem hlt, t2⟩)
      clear he
      go_wp2_with fail
      go_ret
      exact ⟨by rw [HN.out]; rfl, rfl⟩
    · have t1 : (x.toList == v.toList) = false := by simp [he]
      have t2 : decide (x.toList = v.toList) = false := by simp [he]
      have HE := Lib.hid he
      clear he
      go_wp2_with fail
      go_roundw
      case rel =>
       refine ⟨i + 1, by go_num, by omega, fun k h hk => ?_, by trivial⟩
       rcases Nat.lt_or_ge k i with h3 | h3
       · exact HALL.out k h h3
       · obtain rfl : k = i := by omega
         rw [← HX.out]
         exact HE.out
      case measure => simp [intOf] <;> omega
  · have hie : i = l.length := by omega
    subst hie
    have HN := Lib.hid (show inB l v = false by
     unfold inB
     rw [List.any_eq_false]
     intro x hx
     obtain ⟨k, hk, rfl⟩ := List.getElem_of_mem hx
     simpa using HALL.out k hk hk)
    go_wp2_with fail
    go_ret
    exact ⟨by rw [HN.out]; rfl, rfl⟩
set_option maxRecDepth 100000 in
set_option maxHeartbeats 2000000 in
theorem texts_is {D D' : Nat → Prop} {A B : Option Addr} {c d : Nat} (l m : List ByteArray) (w : World) (hl : RowR repStr D w A c l) (hm : RowR repStr D' w B d m) :
 Calls Tryz.prog 19 #[.slice A l.length c, .slice B m.length d] w fun e w' => e = .returned (.bool (decide (l = m))) ∧ Below w.heap.size w w' := by
 have HL := Lib.hid hl
 have HM := Lib.hid hm
 have hlc := hl.cap
 clear hl hm
 by_cases hlm : l.length = m.length
 · have t1 : ((l.length : Int) != (m.length : Int)) = false := by simp; omega
   have HLM := Lib.hid hlm
   clear hlm
   go_enter Tryz.func19, Tryz.ntmps19
   go_wp2_with fail
   go_loopw [5] (fun s wr => ∃ i : Nat, s = .int .i64 i ∧ i ≤ l.length ∧ (∀ k, (h : k < l.length) → (h' : k < m.length) → k < i → l[k] = m[k]) ∧ Below w.heap.size w wr) (fun s wr => l.length - (intOf s).toNat)
   case atStart => exact ⟨0, rfl, Nat.zero_le _, fun k _ _ h => absurd h (by omega), Below.refl _ _⟩
   case round =>
    obtain ⟨i, rfl, hi, hall, hB⟩ := hrel
    have HALL := Lib.hid hall
    have HB := Lib.hid hB
    clear hall hB
    by_cases hlt : i < l.length
    · have hlt2 : i < m.length := by have := HLM.out; omega
      obtain ⟨x, hx⟩ : ∃ x, x = l[i] := ⟨_, rfl⟩
      obtain ⟨y, hy⟩ : ∃ y, y = m[i] := ⟨_, rfl⟩
      obtain ⟨g, off, rfl, hgs, q0⟩ := str_at (HL.out.new_ HB.out) hlt
      obtain ⟨g2, off2, rfl, hgs2, p0⟩ := str_at (HM.out.new_ HB.out) hlt2
      rw [← hx] at q0
      rw [← hy] at p0
      have b1 : (0 : Int) ≤ (i : Int) := by omega
      have b2 : (i : Int) < (l.length : Int) := by omega
      have b3 : (i : Int) < (m.length : Int) := by omega
      have HX := Lib.hid hx
      have HY := Lib.hid hy
      clear hx hy
      by_cases he : x = y
      · have HE := Lib.hid he
        have t2 : (x.toList == y.toList) = true := by rw [he]; simp
        have t3 : decide (x.toList = y.toList) = true := by rw [he]; simp
        clear he
        go_wp2_with fail
        go_quiet (fail)
        have HB2 := Lib.hid (Below.drewN' HB.out nq)
        clear q0 p0
        go_wp2_with fail
        go_roundw
        case rel =>
         refine ⟨i + 1, by go_num, by omega, fun k h h' hk => ?_, HB2.out⟩
         rcases Nat.lt_or_ge k i with h3 | h3
         · exact HALL.out k h h' h3
         · obtain rfl : k = i := by omega
           rw [← HX.out, ← HY.out]
           exact HE.out
        case measure => simp [intOf] <;> omega
      · have HE := Lib.hid he
        have t2 : (x.toList == y.toList) = false := by simp; exact fun h => he (toList_inj h)
        have t3 : decide (x.toList = y.toList) = false := by simp; exact fun h => he (toList_inj h)
        clear he
        go_wp2_with fail
        go_quiet (fail)
        have HB2 := Lib.hid (Below.drewN' HB.out nq)
        clear q0 p0
        go_wp2_with fail
        go_ret
        refine ⟨?_, HB2.out⟩
        have : l ≠ m := by
         rintro rfl
         exact HE.out (HX.out.trans HY.out.symm)
        rw [decide_eq_false this]; rfl
    · have hie : i = l.length := by omega
      subst hie
      go_wp2_with fail
      go_ret
      refine ⟨?_, HB.out⟩
      have : l = m := List.ext_getElem HLM.out (fun k h h' => HALL.out k h h' h)
      rw [decide_eq_true this]; rfl
 · have t1 : ((l.length : Int) != (m.length : Int)) = true := by simp; omega
   have HLM := Lib.hid hlm
   clear hlm
   go_enter Tryz.func19, Tryz.ntmps19
   go_wp2_with fail
   go_ret
   refine ⟨?_, Below.refl _ _⟩
   have : l ≠ m := fun h => HLM.out (by rw [h])
   rw [decide_eq_false this]; rfl
end Go.Proofs.YtpndmjabjjbefaaGreat
namespace Go.Proofs.YtpndmjabjjbefaaGreat
open Go.RowKit Go.Shelf
attribute [local go_sem] Oper.semAt_some
def rnV (l : List BindT) : List ByteArray → List ByteArray → List ByteArray
 | out, [] => out
 | out, v :: r => rnV l (if v.toList ≠ [] ∧ (getB l v).2 = false ∧ inB out v = false then out ++ [v] else out) r
theorem rnV_snoc (l : List BindT) (v : ByteArray) : ∀ (vs out : List ByteArray), rnV l out (vs ++ [v]) = if v.toList ≠ [] ∧ (getB l v).2 = false ∧ inB (rnV l out vs) v = false then rnV l out vs ++ [v] else rnV l out vs
 | [], out => by rw [List.nil_append, rnV, rnV, rnV]
 | u :: vs, out => by rw [List.cons_append, rnV, rnV]; exact rnV_snoc l v vs _
theorem getB_more : ∀ (l : List BindT) (out : List ByteArray) (v : ByteArray), (getB (l ++ out.map mkB) v).2 = ((getB l v).2 || inB out v)
 | [], [], v => rfl
 | [], u :: out, v => by
   rw [List.nil_append, List.map_cons, getB_cons]
   by_cases h : u.toList = v.toList
   · rw [if_pos (show (mkB u).var.toList = v.toList from h)]
     simp [inB, h]
   · rw [if_neg (show ¬ (mkB u).var.toList = v.toList from h)]
     have := getB_more [] out v
     rw [List.nil_append] at this
     rw [this]
     simp [inB, h, getB]
 | b :: l, out, v => by
   rw [List.cons_append, getB_cons, getB_cons]
   by_cases h : b.var.toList = v.toList
   · rw [if_pos h, if_pos h]; simp
   · rw [if_neg h, if_neg h]
     exact getB_more l out v
theorem rnV_news (l : List BindT) : ∀ (vs out : List ByteArray), rnV l out vs = out ++ newsV (l ++ out.map mkB) vs
 | [], out => by rw [rnV, newsV_nil, List.append_nil]
 | v :: r, out => by
   rw [rnV]
   have hm := getB_more l out v
   by_cases h : v.toList ≠ [] ∧ (getB l v).2 = false ∧ inB out v = false
   · rw [if_pos h, rnV_news l r, newsV_take (by rw [hm, h.2.1, h.2.2]; rfl) h.1, List.map_append, ← List.append_assoc, List.append_assoc out]
     rfl
   · rw [if_neg h, rnV_news l r, newsV_skip]
     rw [hm]
     by_cases h1 : v.toList = []
     · exact .inr h1
     · refine .inl ?_
       cases h2 : (getB l v).2
       · cases h3 : inB out v
         · exact absurd ⟨h1, h2, h3⟩ h
         · rfl
       · rfl
theorem rnV_do (l : List BindT) (acts : List ActT) : rnV l [] (acts.flatMap needsA) = doNews l acts := by
 rw [rnV_news]; simp [doNews]
set_option maxRecDepth 100000 in
set_option maxHeartbeats 8000000 in
theorem rnews_is {D : Nat → Prop} (l : List BindT) (p : ProdT) (A1 A2 Al : Option Addr) (c1 c2 cl : Nat) (w : World) (h2 : RowR repActT D w A2 c2 p.acts) (h3 : RowR repBindT D w Al cl l) (hp : p.acts.length ≤ 1000) :
 Calls Tryz.prog 17 #[.agg #[.string p.name, .slice A1 p.conds.length c1, .slice A2 p.acts.length c2], .slice Al l.length cl] w (StrsTo w (doNews l p.acts)) := by
 obtain ⟨i0, hi0, hz0, hz1, hz2⟩ := info_parts info_Str
 have H2 := Lib.hid h2
 have H3 := Lib.hid h3
 have hac := h2.cap
 obtain ⟨R, hR⟩ : ∃ R, R = doNews l p.acts := ⟨_, rfl⟩
 rw [← hR]
 have HR := Lib.hid (show R = rnV l [] (p.acts.flatMap needsA) by rw [rnV_do, hR])
 clear h2 h3 hR
 go_enter Tryz.func17, Tryz.ntmps17
 go_upto_region 1 with fail
 obtain ⟨w1, hw1⟩ : ∃ w1, w1 = (w.alloc (.cells #[.string p.name, .slice A1 p.conds.length c1, .slice A2 p.acts.length c2] 42)) := ⟨_, rfl⟩
 rw [← hw1]
 have HB := Lib.hid (show Below w.heap.size w w1 by rw [hw1]; exact (by repeat (first | exact Below.refl _ _ | refine Below.drew ?_ | refine Below.al ?_ _ | refine Below.sc ?_ _)))
 have Kp := Lib.hid (show Blk w1 (w.heap.size) 42 #[.string p.name, .slice A1 p.conds.length c1, .slice A2 p.acts.length c2] by rw [hw1]; exact (Blk.new w 42 #[.string p.name, .slice A1 p.conds.length c1, .slice A2 p.acts.length c2]))
 clear hw1
 obtain ⟨p0, p1, p2⟩ := Kp.out.c3
 have pz := Kp.out.lt
 go_wp2_with fail
 go_loopw [5, 6] (fun so si wr => ∃ (i : Nat) (Ao : Option Addr) (co : Nat) (os : List ByteArray), si = .int .i64 i ∧ so = .slice Ao os.length co ∧ os = rnV l [] ((p.acts.take i).flatMap needsA) ∧ i ≤ p.acts.length ∧ os.length ≤ 3 * i ∧ Below w1.heap.size w1 wr ∧ wr.ownsRow 0 9 1 (.slice Ao os.length co) os.length (os.flatMap strC) ∧ AIn Ao (w1.heap.size ≤ ·)) (fun so si wr => p.acts.length - (intOf si).toNat)
 case atStart => exact ⟨0, none, 0, [], rfl, rfl, rfl, Nat.zero_le _, Nat.zero_le _, Below.refl _ _, owns_nil _ _ _ _, AIn.none_ _⟩
 case round =>
  obtain ⟨i, Ao, co, os, rfl, rfl, hos, hi, hol, hbr, hro, hao⟩ := hrel
  have HOS := Lib.hid hos
  have HBR := Lib.hid hbr
  have HRO := Lib.hid hro
  have HAO := Lib.hid hao
  have Kpr := Kp.out.new_ hbr
  have p2 := (Kpr.cell 2).trans rfl
  have pz := Kpr.lt
  have hz1r := hbr.size
  clear hos hbr hro hao Kpr p0 p1
  by_cases hlt : i < p.acts.length
  · obtain ⟨y, hy⟩ : ∃ y, y = p.acts[i] := ⟨_, rfl⟩
    have h2r := H2.out.new_ (HB.out.trans (HBR.out.mono HB.out.size))
    obtain ⟨gg, oo, hAA, _, hgg, _⟩ := at_ActT h2r hlt
    have hRG : wr.rangeAt gg (oo + i * 19) [.string y.id, .string y.attr.var, .int .i64 y.attr.sym.kind, .string y.attr.sym.text, .int .i64 y.attr.sym.n, .int .i64 y.value.op, .string y.value.a.var, .int .i64 y.value.a.sym.kind, .string y.value.a.sym.text, .int .i64 y.value.a.sym.n, .string y.value.b.var, .int .i64 y.value.b.sym.kind, .string y.value.b.sym.text, .int .i64 y.value.b.sym.n, .int .i64 y.pref, .string y.other.var, .int .i64 y.other.sym.kind, .string y.other.sym.text, .int .i64 y.other.sym.n] := fun j v hv => by
     obtain ⟨g', off', cs, e1, _, _, hr, hc⟩ := h2r.at_ hlt
     rw [hAA] at e1
     cases e1
     have hr2 : cs = ActT.cells p.acts[i] := hr
     subst hr2
     rw [← hy] at hc
     exact hc j v hv
    have HRG := Lib.hid hRG
    have HTK := Lib.hid (show p.acts.take (i + 1) = p.acts.take i ++ [y] by rw [List.take_succ_eq_append_getElem hlt, hy])
    subst hAA
    have b1 : (0 : Int) ≤ (i : Int) := by omega
    have b2 : (i : Int) < (p.acts.length : Int) := by omega
    obtain ⟨W6, hW6, hth, hrg, hb6, hz6⟩ := kept_new (w := wr) (t := 65) [.string ⟨#[]⟩, .string ⟨#[]⟩, .int .i64 0, .string ⟨#[]⟩, .int .i64 0, .int .i64 0, .string ⟨#[]⟩, .int .i64 0, .string ⟨#[]⟩, .int .i64 0, .string ⟨#[]⟩, .int .i64 0, .string ⟨#[]⟩, .int .i64 0, .int .i64 0, .string ⟨#[]⟩, .int .i64 0, .string ⟨#[]⟩, .int .i64 0] [.string y.id, .string y.attr.var, .int .i64 y.attr.sym.kind, .string y.attr.sym.text, .int .i64 y.attr.sym.n, .int .i64 y.value.op, .string y.value.a.var, .int .i64 y.value.a.sym.kind, .string y.value.a.sym.text, .int .i64 y.value.a.sym.n, .string y.value.b.var, .int .i64 y.value.b.sym.kind, .string y.value.b.sym.text, .int .i64 y.value.b.sym.n, .int .i64 y.pref, .string y.other.var, .int .i64 y.other.sym.kind, .string y.other.sym.text, .int .i64 y.other.sym.n] rfl
    have HW6 := Lib.hid hW6
    have HTH := Lib.hid hth
    have Ky := Lib.hid (show Blk W6 wr.heap.size 65 #[.string y.id, .string y.attr.var, .int .i64 y.attr.sym.kind, .string y.attr.sym.text, .int .i64 y.attr.sym.n, .int .i64 y.value.op, .string y.value.a.var, .int .i64 y.value.a.sym.kind, .string y.value.a.sym.text, .int .i64 y.value.a.sym.n, .string y.value.b.var, .int .i64 y.value.b.sym.kind, .string y.value.b.sym.text, .int .i64 y.value.b.sym.n, .int .i64 y.pref, .string y.other.var, .int .i64 y.other.sym.kind, .string y.other.sym.text, .int .i64 y.other.sym.n] from kept_blk (zs := [.string ⟨#[]⟩, .string ⟨#[]⟩, .int .i64 0, .string ⟨#[]⟩, .int .i64 0, .int .i64 0, .string ⟨#[]⟩, .int .i64 0, .string ⟨#[]⟩, .int .i64 0, .string ⟨#[]⟩, .int .i64 0, .string ⟨#[]⟩, .int .i64 0, .int .i64 0, .string ⟨#[]⟩, .int .i64 0, .string ⟨#[]⟩, .int .i64 0]) (vs := [.string y.id, .string y.attr.var, .int .i64 y.attr.sym.kind, .string y.attr.sym.text, .int .i64 y.attr.sym.n, .int .i64 y.value.op, .string y.value.a.var, .int .i64 y.value.a.sym.kind, .string y.value.a.sym.text, .int .i64 y.value.a.sym.n, .string y.value.b.var, .int .i64 y.value.b.sym.kind, .string y.value.b.sym.text, .int .i64 y.value.b.sym.n, .int .i64 y.pref, .string y.other.var, .int .i64 y.other.sym.kind, .string y.other.sym.text, .int .i64 y.other.sym.n]) rfl hW6 hrg)
    have HR_ := Lib.hid hb6
    clear hW6 hth hrg hb6 hy h2r hRG
    obtain ⟨y0, -, -, -, -, y5, y6, -, -, -, -, -, -, -, -, y15, -, -, -⟩ := Ky.out.c19
    have yz := Ky.out.lt
    go_upto_region 7 with (first
     | (with_reducible refine wpList_load_mid rfl 65 _ rfl gg (oo + i * 19) rfl [.string y.id, .string y.attr.var, .int .i64 y.attr.sym.kind, .string y.attr.sym.text, .int .i64 y.attr.sym.n, .int .i64 y.value.op, .string y.value.a.var, .int .i64 y.value.a.sym.kind, .string y.value.a.sym.text, .int .i64 y.value.a.sym.n, .string y.value.b.var, .int .i64 y.value.b.sym.kind, .string y.value.b.sym.text, .int .i64 y.value.b.sym.n, .int .i64 y.pref, .string y.other.var, .int .i64 y.other.sym.kind, .string y.other.sym.text, .int .i64 y.other.sym.n] _ HRG.out Tryz.underlying65 rfl (by kernel_rfl) ?_)
     | ((with_reducible refine wpList_store_mid rfl 65 _ _ rfl wr.heap.size 0 #[.string y.id, .string y.attr.var, .int .i64 y.attr.sym.kind, .string y.attr.sym.text, .int .i64 y.attr.sym.n, .int .i64 y.value.op, .string y.value.a.var, .int .i64 y.value.a.sym.kind, .string y.value.a.sym.text, .int .i64 y.value.a.sym.n, .string y.value.b.var, .int .i64 y.value.b.sym.kind, .string y.value.b.sym.text, .int .i64 y.value.b.sym.n, .int .i64 y.pref, .string y.other.var, .int .i64 y.other.sym.kind, .string y.other.sym.text, .int .i64 y.other.sym.n] rfl rfl HTH.out (by kernel_rfl) (by kernel_rfl) ?_); rw [← HW6.out]))
    by_cases h0 : y.value.op = 0
    · skip
      have qoa : (y.value.op == 0) = true := by simp [h0]
      have qob : decide (y.value.op = 0) = true := by simp [h0]
      have HND := Lib.hid (show needsA y = [y.id, y.value.a.var, y.other.var] by simp [needsA, h0])
      clear h0
      go_wp2_with fail
      obtain ⟨X7, hX7⟩ : ∃ X7, X7 = W6.alloc (.cells #[.string y.id, .string y.value.a.var, .string y.other.var] 9) := ⟨_, rfl⟩
      rw [← hX7]
      have hb67 : Below W6.heap.size W6 X7 := by rw [hX7]; exact (Below.refl _ _).alloc (Nat.le_refl _) _
      have hn7 : Blk X7 (wr.heap.size + 1) 9 #[.string y.id, .string y.value.a.var, .string y.other.var] := by rw [hX7, ← hz6]; exact Blk.new _ _ _
      have hB7 : Below w1.heap.size w1 X7 := HBR.out.trans ((HR_.out.trans (hb67.mono HR_.out.size)).mono hz1r)
      have HRO7 := Lib.hid (ownsRow_new HRO.out (HR_.out.trans (hb67.mono HR_.out.size)))
      have hao7 : AIn Ao (fun j => w1.heap.size ≤ j ∧ j ≠ wr.heap.size + 1) := fun a ha => ⟨HAO.out a ha, by have := row_low HRO.out a ha; omega⟩
      have HI7 := Lib.hid (show Below w1.heap.size w1 X7 ∧ Blk X7 (wr.heap.size + 1) 9 #[.string y.id, .string y.value.a.var, .string y.other.var] ∧ AIn Ao (fun j => w1.heap.size ≤ j ∧ j ≠ wr.heap.size + 1) from ⟨hB7, hn7, hao7⟩)
      have hnl := hn7.lt
      clear hX7 hb67 hn7 hB7 hao7
      generalize wr.heap.size + 1 = nb at HI7 hnl ⊢
      go_loopw [5, 9] (fun so sk wq => ∃ (k : Nat) (Ax : Option Addr) (cx : Nat) (xs : List ByteArray), sk = .int .i64 k ∧ so = .slice Ax xs.length cx ∧ xs = rnV l [] ((p.acts.take i).flatMap needsA ++ (needsA y).take k) ∧ k ≤ 3 ∧ xs.length ≤ 3 * i + k ∧ Below w1.heap.size w1 wq ∧ Blk wq (nb) 9 #[.string y.id, .string y.value.a.var, .string y.other.var] ∧ wq.ownsRow 0 9 1 (.slice Ax xs.length cx) xs.length (xs.flatMap strC) ∧ AIn Ax (fun j => w1.heap.size ≤ j ∧ j ≠ nb)) (fun so sk wq => 3 - (intOf sk).toNat)
      case atStart => exact ⟨0, Ao, co, os, rfl, rfl, by rw [HOS.out]; simp, by omega, by omega, HI7.out.1, HI7.out.2.1, HRO7.out, HI7.out.2.2⟩
      case round =>
       obtain ⟨k, Ax, cx, xs, rfl, rfl, hxs, hk3, hxl, hbq, hnq, hrq, haq⟩ := hrel
       have HXS := Lib.hid hxs
       have HBQ := Lib.hid hbq
       have HNQ := Lib.hid hnq
       have HRQ := Lib.hid hrq
       have HAQ := Lib.hid haq
       have nz := hnq.lt
       have hzq := hbq.size
       clear hxs hbq hnq hrq haq hnl
       by_cases hlk : k < 3
       · obtain ⟨v, hv⟩ : ∃ v, (needsA y)[k]? = some v := ⟨(needsA y)[k]'hlk, List.getElem?_eq_getElem hlk⟩
         have HTV := Lib.hid (show (needsA y).take (k + 1) = (needsA y).take k ++ [v] by rw [List.take_add_one, hv]; rfl)
         have hcell : (#[.string y.id, .string y.value.a.var, .string y.other.var] : Array Value)[k]? = some (.string v) := by
          have : (#[.string y.id, .string y.value.a.var, .string y.other.var] : Array Value)[k]? = ((needsA y)[k]?).map Value.string := by
           rw [HND.out]
           rcases k with _ | _ | _ | k <;> rfl
          rw [this, hv]; rfl
         have HVK := Lib.hid (show ∀ Y, Blk Y (nb) 9 #[.string y.id, .string y.value.a.var, .string y.other.var] → Y.cell? ⟨nb, k, none⟩ = some (.string v) from fun Y hY => (hY.cell k).trans hcell)
         obtain ⟨⟨s, ok⟩, hs⟩ : ∃ r, r = getB l v := ⟨_, rfl⟩
         have hc1 := fun Y (hY : Below w1.heap.size w1 Y) => rget_is l v Y (H3.out.new_ (HB.out.trans (hY.mono HB.out.size)))
         simp only [← hs] at hc1
         have HC1 := Lib.hid hc1
         have HNX := Lib.hid (show rnV l [] ((p.acts.take i).flatMap needsA ++ (needsA y).take (k + 1)) = if v.toList ≠ [] ∧ ok = false ∧ inB xs v = false then xs ++ [v] else xs by
          rw [HTV.out, ← List.append_assoc, rnV_snoc, ← HXS.out, ← hs])
         have k1 : (0 : Int) ≤ (k : Int) := by omega
         have k2 : (k : Int) < 3 := by omega
         have vk := HVK.out _ HNQ.out
         clear hv hcell hc1 hs
         go_wp2_with fail
         refine (HC1.out _ HBQ.out).mono ?_
         rintro e w8 ⟨rfl, hb8⟩
         have HN8 := Lib.hid (HNQ.out.new_ hb8)
         have HB8 := Lib.hid (HBQ.out.trans (hb8.mono hzq))
         have HR8 := Lib.hid (ownsRow_new HRQ.out hb8)
         have hz8 := hb8.size
         clear hb8 vk
         go_upto_region 13 with fail
         obtain ⟨Z, hZ⟩ : ∃ Z, Z = w8.alloc (.cells #[.int .i64 s.kind, .string s.text, .int .i64 s.n] 23) := ⟨_, rfl⟩
         rw [← hZ]
         have hbZ : Below w8.heap.size w8 Z := by rw [hZ]; exact (Below.refl _ _).alloc (Nat.le_refl _) _
         have HNZ := Lib.hid (HN8.out.new_ hbZ)
         have HBZ := Lib.hid (HB8.out.trans (hbZ.mono HB8.out.size))
         have HRZ := Lib.hid (ownsRow_new HR8.out hbZ)
         have vk := HVK.out _ HNZ.out
         have nz := HNZ.out.lt
         have hzz := HBZ.out.size
         have HRS := Lib.hid (strs_row rfl HRZ.out)
         clear hZ hbZ
         by_cases hve : v.toList = []
         · skip
           have vaa : (v.toList == []) = true := by simp [hve]
           have vab : v.toList.isEmpty = true := by simp [hve]
           have vac : decide (v.toList = []) = true := by simp [hve]
           have vd : (v.toList != []) = false := by simp [hve]
           have HNN := Lib.hid (show xs = rnV l [] ((p.acts.take i).flatMap needsA ++ (needsA y).take (k + 1)) by rw [HNX.out, if_neg (by simp [hve])])
           clear hve
           go_wp2_with fail
           go_roundw
           case rel => exact ⟨k + 1, Ax, cx, xs, by go_num, rfl, HNN.out, by omega, by omega, HBZ.out, HNZ.out, HRZ.out, HAQ.out⟩
           case measure => simp [intOf] <;> omega
         · skip
           have vaa : (v.toList == []) = false := by simp [hve]
           have vab : v.toList.isEmpty = false := by simp [hve]
           have vac : decide (v.toList = []) = false := by simp [hve]
           have vd : (v.toList != []) = true := by simp [hve]
           have HVE := Lib.hid hve
           clear hve
           cases ok
           · skip
             cases hin : inB xs v
             · skip
               have hc := fun Y (h : RowR repStr (fun _ => True) Y Ax cx xs) => inB_is xs v Y h
               simp only [hin] at hc
               have HC2 := Lib.hid hc
               clear hc
               have HNN := Lib.hid (show xs ++ [v] = rnV l [] ((p.acts.take i).flatMap needsA ++ (needsA y).take (k + 1)) by rw [HNX.out, if_pos ⟨HVE.out, rfl, hin⟩])
               clear hin
               go_wp2_with fail
               refine (HC2.out _ HRS.out).mono ?_
               rintro e w9 ⟨rfl, rfl⟩
               obtain ⟨Y9, hY9⟩ : ∃ Y9, Y9 = Z.alloc (.cells #[.string v] 9) := ⟨_, rfl⟩
               have hb9 : Below Z.heap.size Z Y9 := by rw [hY9]; exact (Below.refl _ _).alloc (Nat.le_refl _) _
               have HY9 := Lib.hid hY9
               have HB9 := Lib.hid hb9
               have HO9 := Lib.hid (ownsRow_new HRZ.out hb9)
               have HN9 := Lib.hid (show ∀ (j : Nat) (u : Value), (strC v)[j]? = some u → Y9.cell? ((⟨Z.heap.size, 0, none⟩ : Addr).add j) = some u by rw [hY9]; exact news_alloc rfl)
               clear hY9 hb9
               go_wp2_with (at_builtin; rw [← HY9.out]; refine wpList_append_src Y9 rfl (.tmp 73) (.tmp 78) 47 rfl 9 i0 _ 1 16 Tryz.underlying47 hi0 hz0 hz1 hz2 rfl (by decide) _ xs.length (xs.flatMap strC) rfl HO9.out _ 1 1 (strC v) rfl rfl (fun _ => ⟨_, rfl, HN9.out⟩) (by intro u hu; simp only [strC, List.mem_cons, List.not_mem_nil, or_false] at hu; subst hu; rfl) (by unfold maxLen; omega) (by omega) ?_; intro v' w10 hown hg hnil hat; obtain ⟨A8, c8, rfl, hF8, hA8, hO8⟩ := grown_own (E := fun k => ∃ a, Ax = some a ∧ a.block = k) (fun a ha => ⟨a, ha, rfl⟩) hown hg hat; have HF8 := Lib.hid hF8; have HA8 := Lib.hid hA8; have HO8 := Lib.hid hO8; clear hown hg hnil hat hF8 hA8 hO8)
               have hz9 := HB9.out.size
               have hE : ∀ j, (∃ a, Ax = some a ∧ a.block = j) → w1.heap.size ≤ j ∧ j ≠ nb := by
                rintro j ⟨a, ha, rfl⟩
                exact HAQ.out a ha
               have hbN : Below w1.heap.size w1 w10 := (HBZ.out.trans (HB9.out.mono hzz)).trans (HF8.out.below (by omega) (fun j hj hn => by have := (hE j hn).1; omega))
               have hnN : Blk w10 (nb) 9 #[.string y.id, .string y.value.a.var, .string y.other.var] := (HNZ.out.new_ HB9.out).fr HF8.out (fun hn => (hE _ hn).2 rfl)
               have hl9 : Y9.heap.size = Z.heap.size + 1 := by rw [HY9.out]; simp
               go_roundw
               case rel =>
                refine ⟨k + 1, A8, c8, xs ++ [v], by go_num, by simp, HNN.out, by omega, by simp; omega, hbN, hnN, ?_, fun a ha => ?_⟩
                · rw [List.flatMap_append]
                  simpa [strC] using HO8.out
                · rcases HA8.out a ha with h | h
                  · exact hE _ h
                  · have h2 := h.1
                    exact ⟨by omega, by omega⟩
               case measure => simp [intOf] <;> omega
             · skip
               have hc := fun Y (h : RowR repStr (fun _ => True) Y Ax cx xs) => inB_is xs v Y h
               simp only [hin] at hc
               have HC2 := Lib.hid hc
               clear hc
               have HNN := Lib.hid (show xs = rnV l [] ((p.acts.take i).flatMap needsA ++ (needsA y).take (k + 1)) by rw [HNX.out, if_neg (by rw [hin]; simp)])
               clear hin
               go_wp2_with fail
               refine (HC2.out _ HRS.out).mono ?_
               rintro e w9 ⟨rfl, rfl⟩
               go_wp2_with fail
               go_roundw
               case rel => exact ⟨k + 1, Ax, cx, xs, by go_num, rfl, HNN.out, by omega, by omega, HBZ.out, HNZ.out, HRZ.out, HAQ.out⟩
               case measure => simp [intOf] <;> omega
           · skip
             have HNN := Lib.hid (show xs = rnV l [] ((p.acts.take i).flatMap needsA ++ (needsA y).take (k + 1)) by rw [HNX.out, if_neg (by simp)])
             go_wp2_with fail
             go_roundw
             case rel => exact ⟨k + 1, Ax, cx, xs, by go_num, rfl, HNN.out, by omega, by omega, HBZ.out, HNZ.out, HRZ.out, HAQ.out⟩
             case measure => simp [intOf] <;> omega
       · have hke : k = 3 := by omega
         subst hke
         have HNN := Lib.hid (show xs = rnV l [] ((p.acts.take (i + 1)).flatMap needsA) by rw [HXS.out, HTK.out, List.flatMap_append, List.take_of_length_le (l := needsA y) (by rw [needs_len]; exact Nat.le_refl _)]; simp)
         go_wp2_with fail
         go_roundw
         case rel => exact ⟨i + 1, Ax, cx, xs, by go_num, rfl, HNN.out, by omega, by omega, HBQ.out, HRQ.out, HAQ.out.mono (fun _ h => h.1)⟩
         case measure => simp [intOf] <;> omega
    · skip
      have qoa : (y.value.op == 0) = false := by simp [h0]
      have qob : decide (y.value.op = 0) = false := by simp [h0]
      have HND := Lib.hid (show needsA y = [y.id, ⟨#[]⟩, y.other.var] by simp [needsA, h0])
      clear h0
      go_wp2_with fail
      obtain ⟨X7, hX7⟩ : ∃ X7, X7 = W6.alloc (.cells #[.string y.id, .string ⟨#[]⟩, .string y.other.var] 9) := ⟨_, rfl⟩
      rw [← hX7]
      have hb67 : Below W6.heap.size W6 X7 := by rw [hX7]; exact (Below.refl _ _).alloc (Nat.le_refl _) _
      have hn7 : Blk X7 (wr.heap.size + 1) 9 #[.string y.id, .string ⟨#[]⟩, .string y.other.var] := by rw [hX7, ← hz6]; exact Blk.new _ _ _
      have hB7 : Below w1.heap.size w1 X7 := HBR.out.trans ((HR_.out.trans (hb67.mono HR_.out.size)).mono hz1r)
      have HRO7 := Lib.hid (ownsRow_new HRO.out (HR_.out.trans (hb67.mono HR_.out.size)))
      have hao7 : AIn Ao (fun j => w1.heap.size ≤ j ∧ j ≠ wr.heap.size + 1) := fun a ha => ⟨HAO.out a ha, by have := row_low HRO.out a ha; omega⟩
      have HI7 := Lib.hid (show Below w1.heap.size w1 X7 ∧ Blk X7 (wr.heap.size + 1) 9 #[.string y.id, .string ⟨#[]⟩, .string y.other.var] ∧ AIn Ao (fun j => w1.heap.size ≤ j ∧ j ≠ wr.heap.size + 1) from ⟨hB7, hn7, hao7⟩)
      have hnl := hn7.lt
      clear hX7 hb67 hn7 hB7 hao7
      generalize wr.heap.size + 1 = nb at HI7 hnl ⊢
      go_loopw [5, 9] (fun so sk wq => ∃ (k : Nat) (Ax : Option Addr) (cx : Nat) (xs : List ByteArray), sk = .int .i64 k ∧ so = .slice Ax xs.length cx ∧ xs = rnV l [] ((p.acts.take i).flatMap needsA ++ (needsA y).take k) ∧ k ≤ 3 ∧ xs.length ≤ 3 * i + k ∧ Below w1.heap.size w1 wq ∧ Blk wq (nb) 9 #[.string y.id, .string ⟨#[]⟩, .string y.other.var] ∧ wq.ownsRow 0 9 1 (.slice Ax xs.length cx) xs.length (xs.flatMap strC) ∧ AIn Ax (fun j => w1.heap.size ≤ j ∧ j ≠ nb)) (fun so sk wq => 3 - (intOf sk).toNat)
      case atStart => exact ⟨0, Ao, co, os, rfl, rfl, by rw [HOS.out]; simp, by omega, by omega, HI7.out.1, HI7.out.2.1, HRO7.out, HI7.out.2.2⟩
      case round =>
       obtain ⟨k, Ax, cx, xs, rfl, rfl, hxs, hk3, hxl, hbq, hnq, hrq, haq⟩ := hrel
       have HXS := Lib.hid hxs
       have HBQ := Lib.hid hbq
       have HNQ := Lib.hid hnq
       have HRQ := Lib.hid hrq
       have HAQ := Lib.hid haq
       have nz := hnq.lt
       have hzq := hbq.size
       clear hxs hbq hnq hrq haq hnl
       by_cases hlk : k < 3
       · obtain ⟨v, hv⟩ : ∃ v, (needsA y)[k]? = some v := ⟨(needsA y)[k]'hlk, List.getElem?_eq_getElem hlk⟩
         have HTV := Lib.hid (show (needsA y).take (k + 1) = (needsA y).take k ++ [v] by rw [List.take_add_one, hv]; rfl)
         have hcell : (#[.string y.id, .string ⟨#[]⟩, .string y.other.var] : Array Value)[k]? = some (.string v) := by
          have : (#[.string y.id, .string ⟨#[]⟩, .string y.other.var] : Array Value)[k]? = ((needsA y)[k]?).map Value.string := by
           rw [HND.out]
           rcases k with _ | _ | _ | k <;> rfl
          rw [this, hv]; rfl
         have HVK := Lib.hid (show ∀ Y, Blk Y (nb) 9 #[.string y.id, .string ⟨#[]⟩, .string y.other.var] → Y.cell? ⟨nb, k, none⟩ = some (.string v) from fun Y hY => (hY.cell k).trans hcell)
         obtain ⟨⟨s, ok⟩, hs⟩ : ∃ r, r = getB l v := ⟨_, rfl⟩
         have hc1 := fun Y (hY : Below w1.heap.size w1 Y) => rget_is l v Y (H3.out.new_ (HB.out.trans (hY.mono HB.out.size)))
         simp only [← hs] at hc1
         have HC1 := Lib.hid hc1
         have HNX := Lib.hid (show rnV l [] ((p.acts.take i).flatMap needsA ++ (needsA y).take (k + 1)) = if v.toList ≠ [] ∧ ok = false ∧ inB xs v = false then xs ++ [v] else xs by
          rw [HTV.out, ← List.append_assoc, rnV_snoc, ← HXS.out, ← hs])
         have k1 : (0 : Int) ≤ (k : Int) := by omega
         have k2 : (k : Int) < 3 := by omega
         have vk := HVK.out _ HNQ.out
         clear hv hcell hc1 hs
         go_wp2_with fail
         refine (HC1.out _ HBQ.out).mono ?_
         rintro e w8 ⟨rfl, hb8⟩
         have HN8 := Lib.hid (HNQ.out.new_ hb8)
         have HB8 := Lib.hid (HBQ.out.trans (hb8.mono hzq))
         have HR8 := Lib.hid (ownsRow_new HRQ.out hb8)
         have hz8 := hb8.size
         clear hb8 vk
         go_upto_region 13 with fail
         obtain ⟨Z, hZ⟩ : ∃ Z, Z = w8.alloc (.cells #[.int .i64 s.kind, .string s.text, .int .i64 s.n] 23) := ⟨_, rfl⟩
         rw [← hZ]
         have hbZ : Below w8.heap.size w8 Z := by rw [hZ]; exact (Below.refl _ _).alloc (Nat.le_refl _) _
         have HNZ := Lib.hid (HN8.out.new_ hbZ)
         have HBZ := Lib.hid (HB8.out.trans (hbZ.mono HB8.out.size))
         have HRZ := Lib.hid (ownsRow_new HR8.out hbZ)
         have vk := HVK.out _ HNZ.out
         have nz := HNZ.out.lt
         have hzz := HBZ.out.size
         have HRS := Lib.hid (strs_row rfl HRZ.out)
         clear hZ hbZ
         by_cases hve : v.toList = []
         · skip
           have vaa : (v.toList == []) = true := by simp [hve]
           have vab : v.toList.isEmpty = true := by simp [hve]
           have vac : decide (v.toList = []) = true := by simp [hve]
           have vd : (v.toList != []) = false := by simp [hve]
           have HNN := Lib.hid (show xs = rnV l [] ((p.acts.take i).flatMap needsA ++ (needsA y).take (k + 1)) by rw [HNX.out, if_neg (by simp [hve])])
           clear hve
           go_wp2_with fail
           go_roundw
           case rel => exact ⟨k + 1, Ax, cx, xs, by go_num, rfl, HNN.out, by omega, by omega, HBZ.out, HNZ.out, HRZ.out, HAQ.out⟩
           case measure => simp [intOf] <;> omega
         · skip
           have vaa : (v.toList == []) = false := by simp [hve]
           have vab : v.toList.isEmpty = false := by simp [hve]
           have vac : decide (v.toList = []) = false := by simp [hve]
           have vd : (v.toList != []) = true := by simp [hve]
           have HVE := Lib.hid hve
           clear hve
           cases ok
           · skip
             cases hin : inB xs v
             · skip
               have hc := fun Y (h : RowR repStr (fun _ => True) Y Ax cx xs) => inB_is xs v Y h
               simp only [hin] at hc
               have HC2 := Lib.hid hc
               clear hc
               have HNN := Lib.hid (show xs ++ [v] = rnV l [] ((p.acts.take i).flatMap needsA ++ (needsA y).take (k + 1)) by rw [HNX.out, if_pos ⟨HVE.out, rfl, hin⟩])
               clear hin
               go_wp2_with fail
               refine (HC2.out _ HRS.out).mono ?_
               rintro e w9 ⟨rfl, rfl⟩
               obtain ⟨Y9, hY9⟩ : ∃ Y9, Y9 = Z.alloc (.cells #[.string v] 9) := ⟨_, rfl⟩
               have hb9 : Below Z.heap.size Z Y9 := by rw [hY9]; exact (Below.refl _ _).alloc (Nat.le_refl _) _
               have HY9 := Lib.hid hY9
               have HB9 := Lib.hid hb9
               have HO9 := Lib.hid (ownsRow_new HRZ.out hb9)
               have HN9 := Lib.hid (show ∀ (j : Nat) (u : Value), (strC v)[j]? = some u → Y9.cell? ((⟨Z.heap.size, 0, none⟩ : Addr).add j) = some u by rw [hY9]; exact news_alloc rfl)
               clear hY9 hb9
               go_wp2_with (at_builtin; rw [← HY9.out]; refine wpList_append_src Y9 rfl (.tmp 73) (.tmp 78) 47 rfl 9 i0 _ 1 16 Tryz.underlying47 hi0 hz0 hz1 hz2 rfl (by decide) _ xs.length (xs.flatMap strC) rfl HO9.out _ 1 1 (strC v) rfl rfl (fun _ => ⟨_, rfl, HN9.out⟩) (by intro u hu; simp only [strC, List.mem_cons, List.not_mem_nil, or_false] at hu; subst hu; rfl) (by unfold maxLen; omega) (by omega) ?_; intro v' w10 hown hg hnil hat; obtain ⟨A8, c8, rfl, hF8, hA8, hO8⟩ := grown_own (E := fun k => ∃ a, Ax = some a ∧ a.block = k) (fun a ha => ⟨a, ha, rfl⟩) hown hg hat; have HF8 := Lib.hid hF8; have HA8 := Lib.hid hA8; have HO8 := Lib.hid hO8; clear hown hg hnil hat hF8 hA8 hO8)
               have hz9 := HB9.out.size
               have hE : ∀ j, (∃ a, Ax = some a ∧ a.block = j) → w1.heap.size ≤ j ∧ j ≠ nb := by
                rintro j ⟨a, ha, rfl⟩
                exact HAQ.out a ha
               have hbN : Below w1.heap.size w1 w10 := (HBZ.out.trans (HB9.out.mono hzz)).trans (HF8.out.below (by omega) (fun j hj hn => by have := (hE j hn).1; omega))
               have hnN : Blk w10 (nb) 9 #[.string y.id, .string ⟨#[]⟩, .string y.other.var] := (HNZ.out.new_ HB9.out).fr HF8.out (fun hn => (hE _ hn).2 rfl)
               have hl9 : Y9.heap.size = Z.heap.size + 1 := by rw [HY9.out]; simp
               go_roundw
               case rel =>
                refine ⟨k + 1, A8, c8, xs ++ [v], by go_num, by simp, HNN.out, by omega, by simp; omega, hbN, hnN, ?_, fun a ha => ?_⟩
                · rw [List.flatMap_append]
                  simpa [strC] using HO8.out
                · rcases HA8.out a ha with h | h
                  · exact hE _ h
                  · have h2 := h.1
                    exact ⟨by omega, by omega⟩
               case measure => simp [intOf] <;> omega
             · skip
               have hc := fun Y (h : RowR repStr (fun _ => True) Y Ax cx xs) => inB_is xs v Y h
               simp only [hin] at hc
               have HC2 := Lib.hid hc
               clear hc
               have HNN := Lib.hid (show xs = rnV l [] ((p.acts.take i).flatMap needsA ++ (needsA y).take (k + 1)) by rw [HNX.out, if_neg (by rw [hin]; simp)])
               clear hin
               go_wp2_with fail
               refine (HC2.out _ HRS.out).mono ?_
               rintro e w9 ⟨rfl, rfl⟩
               go_wp2_with fail
               go_roundw
               case rel => exact ⟨k + 1, Ax, cx, xs, by go_num, rfl, HNN.out, by omega, by omega, HBZ.out, HNZ.out, HRZ.out, HAQ.out⟩
               case measure => simp [intOf] <;> omega
           · skip
             have HNN := Lib.hid (show xs = rnV l [] ((p.acts.take i).flatMap needsA ++ (needsA y).take (k + 1)) by rw [HNX.out, if_neg (by simp)])
             go_wp2_with fail
             go_roundw
             case rel => exact ⟨k + 1, Ax, cx, xs, by go_num, rfl, HNN.out, by omega, by omega, HBZ.out, HNZ.out, HRZ.out, HAQ.out⟩
             case measure => simp [intOf] <;> omega
       · have hke : k = 3 := by omega
         subst hke
         have HNN := Lib.hid (show xs = rnV l [] ((p.acts.take (i + 1)).flatMap needsA) by rw [HXS.out, HTK.out, List.flatMap_append, List.take_of_length_le (l := needsA y) (by rw [needs_len]; exact Nat.le_refl _)]; simp)
         go_wp2_with fail
         go_roundw
         case rel => exact ⟨i + 1, Ax, cx, xs, by go_num, rfl, HNN.out, by omega, by omega, HBQ.out, HRQ.out, HAQ.out.mono (fun _ h => h.1)⟩
         case measure => simp [intOf] <;> omega
  · have hie : i = p.acts.length := by omega
    subst hie
    have HRR := Lib.hid (show R = os by rw [HR.out, HOS.out, List.take_length])
    have hzw := HB.out.size
    go_wp2_with fail
    go_ret
    rw [HRR.out]
    exact ⟨Ao, co, rfl, HRO.out, HAO.out.mono (fun k hk => Nat.le_trans hzw hk), HB.out.trans (HBR.out.mono hzw)⟩
end Go.Proofs.YtpndmjabjjbefaaGreat
