/-
  The law on unions and meets: its walk.
-/
import Derived.Test.YthhhhjllpejpgaaSymLists
import Derived.Test.YthhhhjllpejpgaaMeetSym
import Derived.Test.YthhhhjllpejpgaaKitWakes
import Derived.Test.YthhhhjllpejpgaaRowSym
namespace Go.Proofs.Ythhhhjllpejpgaa
open Go.RowKit
set_option maxRecDepth 100000 in
set_option maxHeartbeats 8000000 in
theorem laws_walk (A B C : Option Addr) (ca cb cc : Nat) (a b d : List Sym) (w : World) (hla : RowRd w 3 Sym.cells A ca a) (hlb : RowRd w 3 Sym.cells B cb b) (hld : RowRd w 3 Sym.cells C cc d) :
    Calls Try.prog 10 #[.slice A a.length ca, .slice B b.length cb, .slice C d.length cc] w fun e w' => e = .returned (.bool true) ∧ Below w.heap.size w w' := by
  have HLA := Lib.hid hla
  have HLB := Lib.hid hlb
  have HLD := Lib.hid hld
  clear hla hlb hld
  by_cases h1 : 30 < a.length
  · have t1 : decide ((30 : Int) < (a.length : Int)) = true := by simp; omega
    clear h1
    go_enter Try.func10, Try.ntmps10
    go_wp2_with fail
    refine (wakes_is _).mono ?_
    rintro e w1 ⟨rfl, hB⟩
    have HB := Lib.hid hB
    clear hB
    go_wp2_with fail
    go_ret
    exact ⟨rfl, HB.out⟩
  by_cases h2 : 30 < b.length
  · have t1 : decide ((30 : Int) < (a.length : Int)) = false := by simp; omega
    have t2 : decide ((30 : Int) < (b.length : Int)) = true := by simp; omega
    clear h1 h2
    go_enter Try.func10, Try.ntmps10
    go_wp2_with fail
    refine (wakes_is _).mono ?_
    rintro e w1 ⟨rfl, hB⟩
    have HB := Lib.hid hB
    clear hB
    go_wp2_with fail
    go_ret
    exact ⟨rfl, HB.out⟩
  by_cases h3 : 30 < d.length
  · have t1 : decide ((30 : Int) < (a.length : Int)) = false := by simp; omega
    have t2 : decide ((30 : Int) < (b.length : Int)) = false := by simp; omega
    have t3 : decide ((30 : Int) < (d.length : Int)) = true := by simp; omega
    clear h1 h2 h3
    go_enter Try.func10, Try.ntmps10
    go_wp2_with fail
    refine (wakes_is _).mono ?_
    rintro e w1 ⟨rfl, hB⟩
    have HB := Lib.hid hB
    clear hB
    go_wp2_with fail
    go_ret
    exact ⟨rfl, HB.out⟩
  have t1 : decide ((30 : Int) < (a.length : Int)) = false := by simp; omega
  have t2 : decide ((30 : Int) < (b.length : Int)) = false := by simp; omega
  have t3 : decide ((30 : Int) < (d.length : Int)) = false := by simp; omega
  have ha30 : a.length ≤ 30 := by omega
  have hb30 : b.length ≤ 30 := by omega
  have hd30 : d.length ≤ 30 := by omega
  clear h1 h2 h3
  go_enter Try.func10, Try.ntmps10
  have H0 := Lib.hid (Sets.start 86 27 3 Sym.cells cmpSym w)
  have HB0 := Lib.hid (Below.refl w.heap.size w)
  go_wp2_with fail
  refine (sNew_Sym A ca a H0.out (HLA.out.new_ HB0.out) (by omega)).mono ?_
  rintro e w1 ⟨hm, _⟩
  obtain ⟨x, rfl, S1, σ1, hs, hk, hkeep, hF⟩ := made_open hm
  obtain ⟨X, hL⟩ : ∃ L, L = puts cmpSym [] a := ⟨_, rfl⟩
  rw [← hL] at hk
  have hlen : X.length ≤ 30 := by
    have := length_puts_le tc_sym a (Srt.nil (cmp := cmpSym))
    rw [hL]; simp at this; omega
  have LX := Lib.hid hL
  have NX := hlen
  have HG1 := Lib.hid (hk : S1 x = some X)
  have H1 := Lib.hid hs
  have HB1 := Lib.hid (HB0.out.trans (hF.below HB0.out.size (fun j hj hd => hd hj)))
  clear hm hs hk hkeep hF hL hlen H0 HB0
  go_wp2_with fail
  have g_x := HG1.out
  refine (sNew_Sym B cb b H1.out (HLB.out.new_ HB1.out) (by omega)).mono ?_
  rintro e w2 ⟨hm, _⟩
  obtain ⟨y, rfl, S2, σ2, hs, hk, hkeep, hF⟩ := made_open hm
  obtain ⟨Y, hL⟩ : ∃ L, L = puts cmpSym [] b := ⟨_, rfl⟩
  rw [← hL] at hk
  have hlen : Y.length ≤ 30 := by
    have := length_puts_le tc_sym b (Srt.nil (cmp := cmpSym))
    rw [hL]; simp at this; omega
  have LY := Lib.hid hL
  have NY := hlen
  have HG2 := Lib.hid (⟨hkeep _ _ g_x, hk⟩ : S2 x = some X ∧ S2 y = some Y)
  have H2 := Lib.hid hs
  have HB2 := Lib.hid (HB1.out.trans (hF.below HB1.out.size (fun j hj hd => hd hj)))
  clear hm hs hk hkeep hF hL hlen g_x HG1 H1 HB1
  go_wp2_with fail
  obtain ⟨g_x, g_y⟩ := HG2.out
  refine (sNew_Sym C cc d H2.out (HLD.out.new_ HB2.out) (by omega)).mono ?_
  rintro e w3 ⟨hm, _⟩
  obtain ⟨z, rfl, S3, σ3, hs, hk, hkeep, hF⟩ := made_open hm
  obtain ⟨Z, hL⟩ : ∃ L, L = puts cmpSym [] d := ⟨_, rfl⟩
  rw [← hL] at hk
  have hlen : Z.length ≤ 30 := by
    have := length_puts_le tc_sym d (Srt.nil (cmp := cmpSym))
    rw [hL]; simp at this; omega
  have LZ := Lib.hid hL
  have NZ := hlen
  have HG3 := Lib.hid (⟨hkeep _ _ g_x, hkeep _ _ g_y, hk⟩ : S3 x = some X ∧ S3 y = some Y ∧ S3 z = some Z)
  have H3 := Lib.hid hs
  have HB3 := Lib.hid (HB2.out.trans (hF.below HB2.out.size (fun j hj hd => hd hj)))
  clear hm hs hk hkeep hF hL hlen g_x g_y HG2 H2 HB2
  go_wp2_with fail
  obtain ⟨g_x, g_y, g_z⟩ := HG3.out
  refine (sUnion_Sym H3.out g_x g_y (by omega)).mono ?_
  intro e w4 hm
  obtain ⟨u1, rfl, S4, σ4, hs, hk, hkeep, hF⟩ := made_open hm
  obtain ⟨U1, hL⟩ : ∃ L, L = puts cmpSym X Y := ⟨_, rfl⟩
  rw [← hL] at hk
  have hlen : U1.length ≤ 60 := by
    have := length_puts_le tc_sym Y (H3.out.srt _ _ g_x)
    rw [hL]; omega
  have LU1 := Lib.hid hL
  have NU1 := hlen
  have HG4 := Lib.hid (⟨hkeep _ _ g_x, hkeep _ _ g_y, hkeep _ _ g_z, hk⟩ : S4 x = some X ∧ S4 y = some Y ∧ S4 z = some Z ∧ S4 u1 = some U1)
  have H4 := Lib.hid hs
  have HB4 := Lib.hid (HB3.out.trans (hF.below HB3.out.size (fun j hj hd => hd hj)))
  clear hm hs hk hkeep hF hL hlen g_x g_y g_z HG3 H3 HB3
  go_wp2_with fail
  obtain ⟨g_x, g_y, g_z, g_u1⟩ := HG4.out
  refine (sUnion_Sym H4.out g_y g_x (by omega)).mono ?_
  intro e w5 hm
  obtain ⟨u2, rfl, S5, σ5, hs, hk, hkeep, hF⟩ := made_open hm
  obtain ⟨U2, hL⟩ : ∃ L, L = puts cmpSym Y X := ⟨_, rfl⟩
  rw [← hL] at hk
  have hlen : U2.length ≤ 60 := by
    have := length_puts_le tc_sym X (H4.out.srt _ _ g_y)
    rw [hL]; omega
  have LU2 := Lib.hid hL
  have NU2 := hlen
  have HG5 := Lib.hid (⟨hkeep _ _ g_x, hkeep _ _ g_y, hkeep _ _ g_z, hkeep _ _ g_u1, hk⟩ : S5 x = some X ∧ S5 y = some Y ∧ S5 z = some Z ∧ S5 u1 = some U1 ∧ S5 u2 = some U2)
  have H5 := Lib.hid hs
  have HB5 := Lib.hid (HB4.out.trans (hF.below HB4.out.size (fun j hj hd => hd hj)))
  clear hm hs hk hkeep hF hL hlen g_x g_y g_z g_u1 HG4 H4 HB4
  go_wp2_with fail
  obtain ⟨g_x, g_y, g_z, g_u1, g_u2⟩ := HG5.out
  refine (same_Sym _ _ _ _ _ _ _ _ U1 U2 _ (H5.out.at_ _ _ g_u1) (H5.out.at_ _ _ g_u2) (by omega)).mono ?_
  rintro e w6 ⟨r, rfl, hr, hB⟩
  have heq : U1 = U2 := by
    refine sym_ext (H5.out.srt _ _ g_u1) (H5.out.srt _ _ g_u2) (fun y => ?_)
    rw [LU1.out, LU2.out]; simp only [mem_puts_iff, List.mem_filter, has_mem, Bool.not_eq_true', has_not]; exact or_comm
  have hrt : r = true := hr.2 (same_of heq)
  subst hrt
  have H6 := Lib.hid (H5.out.below hB)
  have HB6 := Lib.hid (HB5.out.trans (hB.mono HB5.out.size))
  have HG6 := Lib.hid HG5.out
  clear hr hB heq HG5 H5 HB5 g_x g_y g_z g_u1 g_u2
  go_wp2_with fail
  obtain ⟨g_x, g_y, g_z, g_u1, g_u2⟩ := HG6.out
  refine (sMeet_Sym H6.out g_x g_y (by omega) (by omega)).mono ?_
  intro e w7 hm
  obtain ⟨m1, rfl, S7, σ7, hs, hk, hkeep, hF⟩ := made_open hm
  obtain ⟨M1, hL⟩ : ∃ L, L = X.filter fun x => has cmpSym Y x := ⟨_, rfl⟩
  rw [← hL] at hk
  have hlen : M1.length ≤ 30 := by
    have := List.length_filter_le (fun x => has cmpSym Y x) X
    rw [hL]; omega
  have LM1 := Lib.hid hL
  have NM1 := hlen
  have HG7 := Lib.hid (⟨hkeep _ _ g_x, hkeep _ _ g_y, hkeep _ _ g_z, hkeep _ _ g_u1, hkeep _ _ g_u2, hk⟩ : S7 x = some X ∧ S7 y = some Y ∧ S7 z = some Z ∧ S7 u1 = some U1 ∧ S7 u2 = some U2 ∧ S7 m1 = some M1)
  have H7 := Lib.hid hs
  have HB7 := Lib.hid (HB6.out.trans (hF.below HB6.out.size (fun j hj hd => hd hj)))
  clear hm hs hk hkeep hF hL hlen g_x g_y g_z g_u1 g_u2 HG6 H6 HB6
  go_wp2_with fail
  obtain ⟨g_x, g_y, g_z, g_u1, g_u2, g_m1⟩ := HG7.out
  refine (sMeet_Sym H7.out g_y g_x (by omega) (by omega)).mono ?_
  intro e w8 hm
  obtain ⟨m2, rfl, S8, σ8, hs, hk, hkeep, hF⟩ := made_open hm
  obtain ⟨M2, hL⟩ : ∃ L, L = Y.filter fun x => has cmpSym X x := ⟨_, rfl⟩
  rw [← hL] at hk
  have hlen : M2.length ≤ 30 := by
    have := List.length_filter_le (fun x => has cmpSym X x) Y
    rw [hL]; omega
  have LM2 := Lib.hid hL
  have NM2 := hlen
  have HG8 := Lib.hid (⟨hkeep _ _ g_x, hkeep _ _ g_y, hkeep _ _ g_z, hkeep _ _ g_u1, hkeep _ _ g_u2, hkeep _ _ g_m1, hk⟩ : S8 x = some X ∧ S8 y = some Y ∧ S8 z = some Z ∧ S8 u1 = some U1 ∧ S8 u2 = some U2 ∧ S8 m1 = some M1 ∧ S8 m2 = some M2)
  have H8 := Lib.hid hs
  have HB8 := Lib.hid (HB7.out.trans (hF.below HB7.out.size (fun j hj hd => hd hj)))
  clear hm hs hk hkeep hF hL hlen g_x g_y g_z g_u1 g_u2 g_m1 HG7 H7 HB7
  go_wp2_with fail
  obtain ⟨g_x, g_y, g_z, g_u1, g_u2, g_m1, g_m2⟩ := HG8.out
  refine (same_Sym _ _ _ _ _ _ _ _ M1 M2 _ (H8.out.at_ _ _ g_m1) (H8.out.at_ _ _ g_m2) (by omega)).mono ?_
  rintro e w9 ⟨r, rfl, hr, hB⟩
  have heq : M1 = M2 := by
    refine sym_ext (H8.out.srt _ _ g_m1) (H8.out.srt _ _ g_m2) (fun y => ?_)
    rw [LM1.out, LM2.out]; simp only [mem_puts_iff, List.mem_filter, has_mem, Bool.not_eq_true', has_not]; exact and_comm
  have hrt : r = true := hr.2 (same_of heq)
  subst hrt
  have H9 := Lib.hid (H8.out.below hB)
  have HB9 := Lib.hid (HB8.out.trans (hB.mono HB8.out.size))
  have HG9 := Lib.hid HG8.out
  clear hr hB heq HG8 H8 HB8 g_x g_y g_z g_u1 g_u2 g_m1 g_m2
  go_wp2_with fail
  obtain ⟨g_x, g_y, g_z, g_u1, g_u2, g_m1, g_m2⟩ := HG9.out
  refine (sUnion_Sym H9.out g_x g_y (by omega)).mono ?_
  intro e w10 hm
  obtain ⟨v1, rfl, S10, σ10, hs, hk, hkeep, hF⟩ := made_open hm
  obtain ⟨V1, hL⟩ : ∃ L, L = puts cmpSym X Y := ⟨_, rfl⟩
  rw [← hL] at hk
  have hlen : V1.length ≤ 60 := by
    have := length_puts_le tc_sym Y (H9.out.srt _ _ g_x)
    rw [hL]; omega
  have LV1 := Lib.hid hL
  have NV1 := hlen
  have HG10 := Lib.hid (⟨hkeep _ _ g_x, hkeep _ _ g_y, hkeep _ _ g_z, hkeep _ _ g_u1, hkeep _ _ g_u2, hkeep _ _ g_m1, hkeep _ _ g_m2, hk⟩ : S10 x = some X ∧ S10 y = some Y ∧ S10 z = some Z ∧ S10 u1 = some U1 ∧ S10 u2 = some U2 ∧ S10 m1 = some M1 ∧ S10 m2 = some M2 ∧ S10 v1 = some V1)
  have H10 := Lib.hid hs
  have HB10 := Lib.hid (HB9.out.trans (hF.below HB9.out.size (fun j hj hd => hd hj)))
  clear hm hs hk hkeep hF hL hlen g_x g_y g_z g_u1 g_u2 g_m1 g_m2 HG9 H9 HB9
  go_wp2_with fail
  obtain ⟨g_x, g_y, g_z, g_u1, g_u2, g_m1, g_m2, g_v1⟩ := HG10.out
  refine (sUnion_Sym H10.out g_v1 g_z (by omega)).mono ?_
  intro e w11 hm
  obtain ⟨v2, rfl, S11, σ11, hs, hk, hkeep, hF⟩ := made_open hm
  obtain ⟨V2, hL⟩ : ∃ L, L = puts cmpSym V1 Z := ⟨_, rfl⟩
  rw [← hL] at hk
  have hlen : V2.length ≤ 90 := by
    have := length_puts_le tc_sym Z (H10.out.srt _ _ g_v1)
    rw [hL]; omega
  have LV2 := Lib.hid hL
  have NV2 := hlen
  have HG11 := Lib.hid (⟨hkeep _ _ g_x, hkeep _ _ g_y, hkeep _ _ g_z, hkeep _ _ g_u1, hkeep _ _ g_u2, hkeep _ _ g_m1, hkeep _ _ g_m2, hkeep _ _ g_v1, hk⟩ : S11 x = some X ∧ S11 y = some Y ∧ S11 z = some Z ∧ S11 u1 = some U1 ∧ S11 u2 = some U2 ∧ S11 m1 = some M1 ∧ S11 m2 = some M2 ∧ S11 v1 = some V1 ∧ S11 v2 = some V2)
  have H11 := Lib.hid hs
  have HB11 := Lib.hid (HB10.out.trans (hF.below HB10.out.size (fun j hj hd => hd hj)))
  clear hm hs hk hkeep hF hL hlen g_x g_y g_z g_u1 g_u2 g_m1 g_m2 g_v1 HG10 H10 HB10
  go_wp2_with fail
  obtain ⟨g_x, g_y, g_z, g_u1, g_u2, g_m1, g_m2, g_v1, g_v2⟩ := HG11.out
  refine (sUnion_Sym H11.out g_y g_z (by omega)).mono ?_
  intro e w12 hm
  obtain ⟨v3, rfl, S12, σ12, hs, hk, hkeep, hF⟩ := made_open hm
  obtain ⟨V3, hL⟩ : ∃ L, L = puts cmpSym Y Z := ⟨_, rfl⟩
  rw [← hL] at hk
  have hlen : V3.length ≤ 60 := by
    have := length_puts_le tc_sym Z (H11.out.srt _ _ g_y)
    rw [hL]; omega
  have LV3 := Lib.hid hL
  have NV3 := hlen
  have HG12 := Lib.hid (⟨hkeep _ _ g_x, hkeep _ _ g_y, hkeep _ _ g_z, hkeep _ _ g_u1, hkeep _ _ g_u2, hkeep _ _ g_m1, hkeep _ _ g_m2, hkeep _ _ g_v1, hkeep _ _ g_v2, hk⟩ : S12 x = some X ∧ S12 y = some Y ∧ S12 z = some Z ∧ S12 u1 = some U1 ∧ S12 u2 = some U2 ∧ S12 m1 = some M1 ∧ S12 m2 = some M2 ∧ S12 v1 = some V1 ∧ S12 v2 = some V2 ∧ S12 v3 = some V3)
  have H12 := Lib.hid hs
  have HB12 := Lib.hid (HB11.out.trans (hF.below HB11.out.size (fun j hj hd => hd hj)))
  clear hm hs hk hkeep hF hL hlen g_x g_y g_z g_u1 g_u2 g_m1 g_m2 g_v1 g_v2 HG11 H11 HB11
  go_wp2_with fail
  obtain ⟨g_x, g_y, g_z, g_u1, g_u2, g_m1, g_m2, g_v1, g_v2, g_v3⟩ := HG12.out
  refine (sUnion_Sym H12.out g_x g_v3 (by omega)).mono ?_
  intro e w13 hm
  obtain ⟨v4, rfl, S13, σ13, hs, hk, hkeep, hF⟩ := made_open hm
  obtain ⟨V4, hL⟩ : ∃ L, L = puts cmpSym X V3 := ⟨_, rfl⟩
  rw [← hL] at hk
  have hlen : V4.length ≤ 90 := by
    have := length_puts_le tc_sym V3 (H12.out.srt _ _ g_x)
    rw [hL]; omega
  have LV4 := Lib.hid hL
  have NV4 := hlen
  have HG13 := Lib.hid (⟨hkeep _ _ g_x, hkeep _ _ g_y, hkeep _ _ g_z, hkeep _ _ g_u1, hkeep _ _ g_u2, hkeep _ _ g_m1, hkeep _ _ g_m2, hkeep _ _ g_v1, hkeep _ _ g_v2, hkeep _ _ g_v3, hk⟩ : S13 x = some X ∧ S13 y = some Y ∧ S13 z = some Z ∧ S13 u1 = some U1 ∧ S13 u2 = some U2 ∧ S13 m1 = some M1 ∧ S13 m2 = some M2 ∧ S13 v1 = some V1 ∧ S13 v2 = some V2 ∧ S13 v3 = some V3 ∧ S13 v4 = some V4)
  have H13 := Lib.hid hs
  have HB13 := Lib.hid (HB12.out.trans (hF.below HB12.out.size (fun j hj hd => hd hj)))
  clear hm hs hk hkeep hF hL hlen g_x g_y g_z g_u1 g_u2 g_m1 g_m2 g_v1 g_v2 g_v3 HG12 H12 HB12
  go_wp2_with fail
  obtain ⟨g_x, g_y, g_z, g_u1, g_u2, g_m1, g_m2, g_v1, g_v2, g_v3, g_v4⟩ := HG13.out
  refine (same_Sym _ _ _ _ _ _ _ _ V2 V4 _ (H13.out.at_ _ _ g_v2) (H13.out.at_ _ _ g_v4) (by omega)).mono ?_
  rintro e w14 ⟨r, rfl, hr, hB⟩
  have heq : V2 = V4 := by
    refine sym_ext (H13.out.srt _ _ g_v2) (H13.out.srt _ _ g_v4) (fun y => ?_)
    rw [LV2.out, LV4.out, LV1.out, LV3.out]; simp only [mem_puts_iff, List.mem_filter, has_mem, Bool.not_eq_true', has_not]; exact or_assoc
  have hrt : r = true := hr.2 (same_of heq)
  subst hrt
  have H14 := Lib.hid (H13.out.below hB)
  have HB14 := Lib.hid (HB13.out.trans (hB.mono HB13.out.size))
  have HG14 := Lib.hid HG13.out
  clear hr hB heq HG13 H13 HB13 g_x g_y g_z g_u1 g_u2 g_m1 g_m2 g_v1 g_v2 g_v3 g_v4
  go_wp2_with fail
  obtain ⟨g_x, g_y, g_z, g_u1, g_u2, g_m1, g_m2, g_v1, g_v2, g_v3, g_v4⟩ := HG14.out
  refine (sUnion_Sym H14.out g_y g_z (by omega)).mono ?_
  intro e w15 hm
  obtain ⟨p1, rfl, S15, σ15, hs, hk, hkeep, hF⟩ := made_open hm
  obtain ⟨P1, hL⟩ : ∃ L, L = puts cmpSym Y Z := ⟨_, rfl⟩
  rw [← hL] at hk
  have hlen : P1.length ≤ 60 := by
    have := length_puts_le tc_sym Z (H14.out.srt _ _ g_y)
    rw [hL]; omega
  have LP1 := Lib.hid hL
  have NP1 := hlen
  have HG15 := Lib.hid (⟨hkeep _ _ g_x, hkeep _ _ g_y, hkeep _ _ g_z, hkeep _ _ g_u1, hkeep _ _ g_u2, hkeep _ _ g_m1, hkeep _ _ g_m2, hkeep _ _ g_v1, hkeep _ _ g_v2, hkeep _ _ g_v3, hkeep _ _ g_v4, hk⟩ : S15 x = some X ∧ S15 y = some Y ∧ S15 z = some Z ∧ S15 u1 = some U1 ∧ S15 u2 = some U2 ∧ S15 m1 = some M1 ∧ S15 m2 = some M2 ∧ S15 v1 = some V1 ∧ S15 v2 = some V2 ∧ S15 v3 = some V3 ∧ S15 v4 = some V4 ∧ S15 p1 = some P1)
  have H15 := Lib.hid hs
  have HB15 := Lib.hid (HB14.out.trans (hF.below HB14.out.size (fun j hj hd => hd hj)))
  clear hm hs hk hkeep hF hL hlen g_x g_y g_z g_u1 g_u2 g_m1 g_m2 g_v1 g_v2 g_v3 g_v4 HG14 H14 HB14
  go_wp2_with fail
  obtain ⟨g_x, g_y, g_z, g_u1, g_u2, g_m1, g_m2, g_v1, g_v2, g_v3, g_v4, g_p1⟩ := HG15.out
  refine (sMeet_Sym H15.out g_x g_p1 (by omega) (by omega)).mono ?_
  intro e w16 hm
  obtain ⟨p2, rfl, S16, σ16, hs, hk, hkeep, hF⟩ := made_open hm
  obtain ⟨P2, hL⟩ : ∃ L, L = X.filter fun x => has cmpSym P1 x := ⟨_, rfl⟩
  rw [← hL] at hk
  have hlen : P2.length ≤ 30 := by
    have := List.length_filter_le (fun x => has cmpSym P1 x) X
    rw [hL]; omega
  have LP2 := Lib.hid hL
  have NP2 := hlen
  have HG16 := Lib.hid (⟨hkeep _ _ g_x, hkeep _ _ g_y, hkeep _ _ g_z, hkeep _ _ g_u1, hkeep _ _ g_u2, hkeep _ _ g_m1, hkeep _ _ g_m2, hkeep _ _ g_v1, hkeep _ _ g_v2, hkeep _ _ g_v3, hkeep _ _ g_v4, hkeep _ _ g_p1, hk⟩ : S16 x = some X ∧ S16 y = some Y ∧ S16 z = some Z ∧ S16 u1 = some U1 ∧ S16 u2 = some U2 ∧ S16 m1 = some M1 ∧ S16 m2 = some M2 ∧ S16 v1 = some V1 ∧ S16 v2 = some V2 ∧ S16 v3 = some V3 ∧ S16 v4 = some V4 ∧ S16 p1 = some P1 ∧ S16 p2 = some P2)
  have H16 := Lib.hid hs
  have HB16 := Lib.hid (HB15.out.trans (hF.below HB15.out.size (fun j hj hd => hd hj)))
  clear hm hs hk hkeep hF hL hlen g_x g_y g_z g_u1 g_u2 g_m1 g_m2 g_v1 g_v2 g_v3 g_v4 g_p1 HG15 H15 HB15
  go_wp2_with fail
  obtain ⟨g_x, g_y, g_z, g_u1, g_u2, g_m1, g_m2, g_v1, g_v2, g_v3, g_v4, g_p1, g_p2⟩ := HG16.out
  refine (sMeet_Sym H16.out g_x g_y (by omega) (by omega)).mono ?_
  intro e w17 hm
  obtain ⟨p3, rfl, S17, σ17, hs, hk, hkeep, hF⟩ := made_open hm
  obtain ⟨P3, hL⟩ : ∃ L, L = X.filter fun x => has cmpSym Y x := ⟨_, rfl⟩
  rw [← hL] at hk
  have hlen : P3.length ≤ 30 := by
    have := List.length_filter_le (fun x => has cmpSym Y x) X
    rw [hL]; omega
  have LP3 := Lib.hid hL
  have NP3 := hlen
  have HG17 := Lib.hid (⟨hkeep _ _ g_x, hkeep _ _ g_y, hkeep _ _ g_z, hkeep _ _ g_u1, hkeep _ _ g_u2, hkeep _ _ g_m1, hkeep _ _ g_m2, hkeep _ _ g_v1, hkeep _ _ g_v2, hkeep _ _ g_v3, hkeep _ _ g_v4, hkeep _ _ g_p1, hkeep _ _ g_p2, hk⟩ : S17 x = some X ∧ S17 y = some Y ∧ S17 z = some Z ∧ S17 u1 = some U1 ∧ S17 u2 = some U2 ∧ S17 m1 = some M1 ∧ S17 m2 = some M2 ∧ S17 v1 = some V1 ∧ S17 v2 = some V2 ∧ S17 v3 = some V3 ∧ S17 v4 = some V4 ∧ S17 p1 = some P1 ∧ S17 p2 = some P2 ∧ S17 p3 = some P3)
  have H17 := Lib.hid hs
  have HB17 := Lib.hid (HB16.out.trans (hF.below HB16.out.size (fun j hj hd => hd hj)))
  clear hm hs hk hkeep hF hL hlen g_x g_y g_z g_u1 g_u2 g_m1 g_m2 g_v1 g_v2 g_v3 g_v4 g_p1 g_p2 HG16 H16 HB16
  go_wp2_with fail
  obtain ⟨g_x, g_y, g_z, g_u1, g_u2, g_m1, g_m2, g_v1, g_v2, g_v3, g_v4, g_p1, g_p2, g_p3⟩ := HG17.out
  refine (sMeet_Sym H17.out g_x g_z (by omega) (by omega)).mono ?_
  intro e w18 hm
  obtain ⟨p4, rfl, S18, σ18, hs, hk, hkeep, hF⟩ := made_open hm
  obtain ⟨P4, hL⟩ : ∃ L, L = X.filter fun x => has cmpSym Z x := ⟨_, rfl⟩
  rw [← hL] at hk
  have hlen : P4.length ≤ 30 := by
    have := List.length_filter_le (fun x => has cmpSym Z x) X
    rw [hL]; omega
  have LP4 := Lib.hid hL
  have NP4 := hlen
  have HG18 := Lib.hid (⟨hkeep _ _ g_x, hkeep _ _ g_y, hkeep _ _ g_z, hkeep _ _ g_u1, hkeep _ _ g_u2, hkeep _ _ g_m1, hkeep _ _ g_m2, hkeep _ _ g_v1, hkeep _ _ g_v2, hkeep _ _ g_v3, hkeep _ _ g_v4, hkeep _ _ g_p1, hkeep _ _ g_p2, hkeep _ _ g_p3, hk⟩ : S18 x = some X ∧ S18 y = some Y ∧ S18 z = some Z ∧ S18 u1 = some U1 ∧ S18 u2 = some U2 ∧ S18 m1 = some M1 ∧ S18 m2 = some M2 ∧ S18 v1 = some V1 ∧ S18 v2 = some V2 ∧ S18 v3 = some V3 ∧ S18 v4 = some V4 ∧ S18 p1 = some P1 ∧ S18 p2 = some P2 ∧ S18 p3 = some P3 ∧ S18 p4 = some P4)
  have H18 := Lib.hid hs
  have HB18 := Lib.hid (HB17.out.trans (hF.below HB17.out.size (fun j hj hd => hd hj)))
  clear hm hs hk hkeep hF hL hlen g_x g_y g_z g_u1 g_u2 g_m1 g_m2 g_v1 g_v2 g_v3 g_v4 g_p1 g_p2 g_p3 HG17 H17 HB17
  go_wp2_with fail
  obtain ⟨g_x, g_y, g_z, g_u1, g_u2, g_m1, g_m2, g_v1, g_v2, g_v3, g_v4, g_p1, g_p2, g_p3, g_p4⟩ := HG18.out
  refine (sUnion_Sym H18.out g_p3 g_p4 (by omega)).mono ?_
  intro e w19 hm
  obtain ⟨p5, rfl, S19, σ19, hs, hk, hkeep, hF⟩ := made_open hm
  obtain ⟨P5, hL⟩ : ∃ L, L = puts cmpSym P3 P4 := ⟨_, rfl⟩
  rw [← hL] at hk
  have hlen : P5.length ≤ 60 := by
    have := length_puts_le tc_sym P4 (H18.out.srt _ _ g_p3)
    rw [hL]; omega
  have LP5 := Lib.hid hL
  have NP5 := hlen
  have HG19 := Lib.hid (⟨hkeep _ _ g_x, hkeep _ _ g_y, hkeep _ _ g_z, hkeep _ _ g_u1, hkeep _ _ g_u2, hkeep _ _ g_m1, hkeep _ _ g_m2, hkeep _ _ g_v1, hkeep _ _ g_v2, hkeep _ _ g_v3, hkeep _ _ g_v4, hkeep _ _ g_p1, hkeep _ _ g_p2, hkeep _ _ g_p3, hkeep _ _ g_p4, hk⟩ : S19 x = some X ∧ S19 y = some Y ∧ S19 z = some Z ∧ S19 u1 = some U1 ∧ S19 u2 = some U2 ∧ S19 m1 = some M1 ∧ S19 m2 = some M2 ∧ S19 v1 = some V1 ∧ S19 v2 = some V2 ∧ S19 v3 = some V3 ∧ S19 v4 = some V4 ∧ S19 p1 = some P1 ∧ S19 p2 = some P2 ∧ S19 p3 = some P3 ∧ S19 p4 = some P4 ∧ S19 p5 = some P5)
  have H19 := Lib.hid hs
  have HB19 := Lib.hid (HB18.out.trans (hF.below HB18.out.size (fun j hj hd => hd hj)))
  clear hm hs hk hkeep hF hL hlen g_x g_y g_z g_u1 g_u2 g_m1 g_m2 g_v1 g_v2 g_v3 g_v4 g_p1 g_p2 g_p3 g_p4 HG18 H18 HB18
  go_wp2_with fail
  obtain ⟨g_x, g_y, g_z, g_u1, g_u2, g_m1, g_m2, g_v1, g_v2, g_v3, g_v4, g_p1, g_p2, g_p3, g_p4, g_p5⟩ := HG19.out
  refine (same_Sym _ _ _ _ _ _ _ _ P2 P5 _ (H19.out.at_ _ _ g_p2) (H19.out.at_ _ _ g_p5) (by omega)).mono ?_
  rintro e w20 ⟨r, rfl, hr, hB⟩
  have heq : P2 = P5 := by
    refine sym_ext (H19.out.srt _ _ g_p2) (H19.out.srt _ _ g_p5) (fun y => ?_)
    rw [LP2.out, LP5.out, LP1.out, LP3.out, LP4.out]; simp only [mem_puts_iff, List.mem_filter, has_mem, Bool.not_eq_true', has_not]; exact and_or_left
  have hrt : r = true := hr.2 (same_of heq)
  subst hrt
  have H20 := Lib.hid (H19.out.below hB)
  have HB20 := Lib.hid (HB19.out.trans (hB.mono HB19.out.size))
  have HG20 := Lib.hid HG19.out
  clear hr hB heq HG19 H19 HB19 g_x g_y g_z g_u1 g_u2 g_m1 g_m2 g_v1 g_v2 g_v3 g_v4 g_p1 g_p2 g_p3 g_p4 g_p5
  go_wp2_with fail
  obtain ⟨g_x, g_y, g_z, g_u1, g_u2, g_m1, g_m2, g_v1, g_v2, g_v3, g_v4, g_p1, g_p2, g_p3, g_p4, g_p5⟩ := HG20.out
  refine (sMeet_Sym H20.out g_x g_y (by omega) (by omega)).mono ?_
  intro e w21 hm
  obtain ⟨q1, rfl, S21, σ21, hs, hk, hkeep, hF⟩ := made_open hm
  obtain ⟨Q1, hL⟩ : ∃ L, L = X.filter fun x => has cmpSym Y x := ⟨_, rfl⟩
  rw [← hL] at hk
  have hlen : Q1.length ≤ 30 := by
    have := List.length_filter_le (fun x => has cmpSym Y x) X
    rw [hL]; omega
  have LQ1 := Lib.hid hL
  have NQ1 := hlen
  have HG21 := Lib.hid (⟨hkeep _ _ g_x, hkeep _ _ g_y, hkeep _ _ g_z, hkeep _ _ g_u1, hkeep _ _ g_u2, hkeep _ _ g_m1, hkeep _ _ g_m2, hkeep _ _ g_v1, hkeep _ _ g_v2, hkeep _ _ g_v3, hkeep _ _ g_v4, hkeep _ _ g_p1, hkeep _ _ g_p2, hkeep _ _ g_p3, hkeep _ _ g_p4, hkeep _ _ g_p5, hk⟩ : S21 x = some X ∧ S21 y = some Y ∧ S21 z = some Z ∧ S21 u1 = some U1 ∧ S21 u2 = some U2 ∧ S21 m1 = some M1 ∧ S21 m2 = some M2 ∧ S21 v1 = some V1 ∧ S21 v2 = some V2 ∧ S21 v3 = some V3 ∧ S21 v4 = some V4 ∧ S21 p1 = some P1 ∧ S21 p2 = some P2 ∧ S21 p3 = some P3 ∧ S21 p4 = some P4 ∧ S21 p5 = some P5 ∧ S21 q1 = some Q1)
  have H21 := Lib.hid hs
  have HB21 := Lib.hid (HB20.out.trans (hF.below HB20.out.size (fun j hj hd => hd hj)))
  clear hm hs hk hkeep hF hL hlen g_x g_y g_z g_u1 g_u2 g_m1 g_m2 g_v1 g_v2 g_v3 g_v4 g_p1 g_p2 g_p3 g_p4 g_p5 HG20 H20 HB20
  go_wp2_with fail
  obtain ⟨g_x, g_y, g_z, g_u1, g_u2, g_m1, g_m2, g_v1, g_v2, g_v3, g_v4, g_p1, g_p2, g_p3, g_p4, g_p5, g_q1⟩ := HG21.out
  refine (sLess_Sym H21.out g_x g_y (by omega) (by omega)).mono ?_
  intro e w22 hm
  obtain ⟨q2, rfl, S22, σ22, hs, hk, hkeep, hF⟩ := made_open hm
  obtain ⟨Q2, hL⟩ : ∃ L, L = X.filter fun x => !has cmpSym Y x := ⟨_, rfl⟩
  rw [← hL] at hk
  have hlen : Q2.length ≤ 30 := by
    have := List.length_filter_le (fun x => !has cmpSym Y x) X
    rw [hL]; omega
  have LQ2 := Lib.hid hL
  have NQ2 := hlen
  have HG22 := Lib.hid (⟨hkeep _ _ g_x, hkeep _ _ g_y, hkeep _ _ g_z, hkeep _ _ g_u1, hkeep _ _ g_u2, hkeep _ _ g_m1, hkeep _ _ g_m2, hkeep _ _ g_v1, hkeep _ _ g_v2, hkeep _ _ g_v3, hkeep _ _ g_v4, hkeep _ _ g_p1, hkeep _ _ g_p2, hkeep _ _ g_p3, hkeep _ _ g_p4, hkeep _ _ g_p5, hkeep _ _ g_q1, hk⟩ : S22 x = some X ∧ S22 y = some Y ∧ S22 z = some Z ∧ S22 u1 = some U1 ∧ S22 u2 = some U2 ∧ S22 m1 = some M1 ∧ S22 m2 = some M2 ∧ S22 v1 = some V1 ∧ S22 v2 = some V2 ∧ S22 v3 = some V3 ∧ S22 v4 = some V4 ∧ S22 p1 = some P1 ∧ S22 p2 = some P2 ∧ S22 p3 = some P3 ∧ S22 p4 = some P4 ∧ S22 p5 = some P5 ∧ S22 q1 = some Q1 ∧ S22 q2 = some Q2)
  have H22 := Lib.hid hs
  have HB22 := Lib.hid (HB21.out.trans (hF.below HB21.out.size (fun j hj hd => hd hj)))
  clear hm hs hk hkeep hF hL hlen g_x g_y g_z g_u1 g_u2 g_m1 g_m2 g_v1 g_v2 g_v3 g_v4 g_p1 g_p2 g_p3 g_p4 g_p5 g_q1 HG21 H21 HB21
  go_wp2_with fail
  obtain ⟨g_x, g_y, g_z, g_u1, g_u2, g_m1, g_m2, g_v1, g_v2, g_v3, g_v4, g_p1, g_p2, g_p3, g_p4, g_p5, g_q1, g_q2⟩ := HG22.out
  refine (sUnion_Sym H22.out g_q1 g_q2 (by omega)).mono ?_
  intro e w23 hm
  obtain ⟨q3, rfl, S23, σ23, hs, hk, hkeep, hF⟩ := made_open hm
  obtain ⟨Q3, hL⟩ : ∃ L, L = puts cmpSym Q1 Q2 := ⟨_, rfl⟩
  rw [← hL] at hk
  have hlen : Q3.length ≤ 60 := by
    have := length_puts_le tc_sym Q2 (H22.out.srt _ _ g_q1)
    rw [hL]; omega
  have LQ3 := Lib.hid hL
  have NQ3 := hlen
  have HG23 := Lib.hid (⟨hkeep _ _ g_x, hkeep _ _ g_y, hkeep _ _ g_z, hkeep _ _ g_u1, hkeep _ _ g_u2, hkeep _ _ g_m1, hkeep _ _ g_m2, hkeep _ _ g_v1, hkeep _ _ g_v2, hkeep _ _ g_v3, hkeep _ _ g_v4, hkeep _ _ g_p1, hkeep _ _ g_p2, hkeep _ _ g_p3, hkeep _ _ g_p4, hkeep _ _ g_p5, hkeep _ _ g_q1, hkeep _ _ g_q2, hk⟩ : S23 x = some X ∧ S23 y = some Y ∧ S23 z = some Z ∧ S23 u1 = some U1 ∧ S23 u2 = some U2 ∧ S23 m1 = some M1 ∧ S23 m2 = some M2 ∧ S23 v1 = some V1 ∧ S23 v2 = some V2 ∧ S23 v3 = some V3 ∧ S23 v4 = some V4 ∧ S23 p1 = some P1 ∧ S23 p2 = some P2 ∧ S23 p3 = some P3 ∧ S23 p4 = some P4 ∧ S23 p5 = some P5 ∧ S23 q1 = some Q1 ∧ S23 q2 = some Q2 ∧ S23 q3 = some Q3)
  have H23 := Lib.hid hs
  have HB23 := Lib.hid (HB22.out.trans (hF.below HB22.out.size (fun j hj hd => hd hj)))
  clear hm hs hk hkeep hF hL hlen g_x g_y g_z g_u1 g_u2 g_m1 g_m2 g_v1 g_v2 g_v3 g_v4 g_p1 g_p2 g_p3 g_p4 g_p5 g_q1 g_q2 HG22 H22 HB22
  go_wp2_with fail
  obtain ⟨g_x, g_y, g_z, g_u1, g_u2, g_m1, g_m2, g_v1, g_v2, g_v3, g_v4, g_p1, g_p2, g_p3, g_p4, g_p5, g_q1, g_q2, g_q3⟩ := HG23.out
  refine (same_Sym _ _ _ _ _ _ _ _ Q3 X _ (H23.out.at_ _ _ g_q3) (H23.out.at_ _ _ g_x) (by omega)).mono ?_
  rintro e w24 ⟨r, rfl, hr, hB⟩
  have heq : Q3 = X := by
    refine sym_ext (H23.out.srt _ _ g_q3) (H23.out.srt _ _ g_x) (fun y => ?_)
    rw [LQ3.out, LQ1.out, LQ2.out]; simp only [mem_puts_iff, List.mem_filter, has_mem, Bool.not_eq_true', has_not]; exact ⟨fun h => h.elim And.left And.left, fun h => (Classical.em (y ∈ Y)).elim (fun h2 => .inl ⟨h, h2⟩) (fun h2 => .inr ⟨h, h2⟩)⟩
  have hrt : r = true := hr.2 (same_of heq)
  subst hrt
  have H24 := Lib.hid (H23.out.below hB)
  have HB24 := Lib.hid (HB23.out.trans (hB.mono HB23.out.size))
  have HG24 := Lib.hid HG23.out
  clear hr hB heq HG23 H23 HB23 g_x g_y g_z g_u1 g_u2 g_m1 g_m2 g_v1 g_v2 g_v3 g_v4 g_p1 g_p2 g_p3 g_p4 g_p5 g_q1 g_q2 g_q3
  go_wp2_with fail
  obtain ⟨g_x, g_y, g_z, g_u1, g_u2, g_m1, g_m2, g_v1, g_v2, g_v3, g_v4, g_p1, g_p2, g_p3, g_p4, g_p5, g_q1, g_q2, g_q3⟩ := HG24.out
  refine (sLess_Sym H24.out g_x g_y (by omega) (by omega)).mono ?_
  intro e w25 hm
  obtain ⟨r1, rfl, S25, σ25, hs, hk, hkeep, hF⟩ := made_open hm
  obtain ⟨R1, hL⟩ : ∃ L, L = X.filter fun x => !has cmpSym Y x := ⟨_, rfl⟩
  rw [← hL] at hk
  have hlen : R1.length ≤ 30 := by
    have := List.length_filter_le (fun x => !has cmpSym Y x) X
    rw [hL]; omega
  have LR1 := Lib.hid hL
  have NR1 := hlen
  have HG25 := Lib.hid (⟨hkeep _ _ g_x, hkeep _ _ g_y, hkeep _ _ g_z, hkeep _ _ g_u1, hkeep _ _ g_u2, hkeep _ _ g_m1, hkeep _ _ g_m2, hkeep _ _ g_v1, hkeep _ _ g_v2, hkeep _ _ g_v3, hkeep _ _ g_v4, hkeep _ _ g_p1, hkeep _ _ g_p2, hkeep _ _ g_p3, hkeep _ _ g_p4, hkeep _ _ g_p5, hkeep _ _ g_q1, hkeep _ _ g_q2, hkeep _ _ g_q3, hk⟩ : S25 x = some X ∧ S25 y = some Y ∧ S25 z = some Z ∧ S25 u1 = some U1 ∧ S25 u2 = some U2 ∧ S25 m1 = some M1 ∧ S25 m2 = some M2 ∧ S25 v1 = some V1 ∧ S25 v2 = some V2 ∧ S25 v3 = some V3 ∧ S25 v4 = some V4 ∧ S25 p1 = some P1 ∧ S25 p2 = some P2 ∧ S25 p3 = some P3 ∧ S25 p4 = some P4 ∧ S25 p5 = some P5 ∧ S25 q1 = some Q1 ∧ S25 q2 = some Q2 ∧ S25 q3 = some Q3 ∧ S25 r1 = some R1)
  have H25 := Lib.hid hs
  have HB25 := Lib.hid (HB24.out.trans (hF.below HB24.out.size (fun j hj hd => hd hj)))
  clear hm hs hk hkeep hF hL hlen g_x g_y g_z g_u1 g_u2 g_m1 g_m2 g_v1 g_v2 g_v3 g_v4 g_p1 g_p2 g_p3 g_p4 g_p5 g_q1 g_q2 g_q3 HG24 H24 HB24
  go_wp2_with fail
  obtain ⟨g_x, g_y, g_z, g_u1, g_u2, g_m1, g_m2, g_v1, g_v2, g_v3, g_v4, g_p1, g_p2, g_p3, g_p4, g_p5, g_q1, g_q2, g_q3, g_r1⟩ := HG25.out
  refine (sMeet_Sym H25.out g_r1 g_y (by omega) (by omega)).mono ?_
  intro e w26 hm
  obtain ⟨r2, rfl, S26, σ26, hs, hk, hkeep, hF⟩ := made_open hm
  obtain ⟨R2, hL⟩ : ∃ L, L = R1.filter fun x => has cmpSym Y x := ⟨_, rfl⟩
  rw [← hL] at hk
  have hlen : R2.length ≤ 30 := by
    have := List.length_filter_le (fun x => has cmpSym Y x) R1
    rw [hL]; omega
  have LR2 := Lib.hid hL
  have NR2 := hlen
  have HG26 := Lib.hid (⟨hkeep _ _ g_x, hkeep _ _ g_y, hkeep _ _ g_z, hkeep _ _ g_u1, hkeep _ _ g_u2, hkeep _ _ g_m1, hkeep _ _ g_m2, hkeep _ _ g_v1, hkeep _ _ g_v2, hkeep _ _ g_v3, hkeep _ _ g_v4, hkeep _ _ g_p1, hkeep _ _ g_p2, hkeep _ _ g_p3, hkeep _ _ g_p4, hkeep _ _ g_p5, hkeep _ _ g_q1, hkeep _ _ g_q2, hkeep _ _ g_q3, hkeep _ _ g_r1, hk⟩ : S26 x = some X ∧ S26 y = some Y ∧ S26 z = some Z ∧ S26 u1 = some U1 ∧ S26 u2 = some U2 ∧ S26 m1 = some M1 ∧ S26 m2 = some M2 ∧ S26 v1 = some V1 ∧ S26 v2 = some V2 ∧ S26 v3 = some V3 ∧ S26 v4 = some V4 ∧ S26 p1 = some P1 ∧ S26 p2 = some P2 ∧ S26 p3 = some P3 ∧ S26 p4 = some P4 ∧ S26 p5 = some P5 ∧ S26 q1 = some Q1 ∧ S26 q2 = some Q2 ∧ S26 q3 = some Q3 ∧ S26 r1 = some R1 ∧ S26 r2 = some R2)
  have H26 := Lib.hid hs
  have HB26 := Lib.hid (HB25.out.trans (hF.below HB25.out.size (fun j hj hd => hd hj)))
  clear hm hs hk hkeep hF hL hlen g_x g_y g_z g_u1 g_u2 g_m1 g_m2 g_v1 g_v2 g_v3 g_v4 g_p1 g_p2 g_p3 g_p4 g_p5 g_q1 g_q2 g_q3 g_r1 HG25 H25 HB25
  go_wp2_with fail
  obtain ⟨g_x, g_y, g_z, g_u1, g_u2, g_m1, g_m2, g_v1, g_v2, g_v3, g_v4, g_p1, g_p2, g_p3, g_p4, g_p5, g_q1, g_q2, g_q3, g_r1, g_r2⟩ := HG26.out
  refine (len_Sym _ _ _ _ R2 _ (H26.out.at_ _ _ g_r2)).mono ?_
  rintro e w27 ⟨rfl, rfl⟩
  have hnil : R2 = [] := by
    rw [List.eq_nil_iff_forall_not_mem]
    intro y hy
    rw [LR2.out, LR1.out] at hy
    simp only [List.mem_filter, has_mem, Bool.not_eq_true', has_not] at hy
    exact hy.1.2 hy.2
  subst hnil
  simp only [List.length_nil]
  clear g_x g_y g_z g_u1 g_u2 g_m1 g_m2 g_v1 g_v2 g_v3 g_v4 g_p1 g_p2 g_p3 g_p4 g_p5 g_q1 g_q2 g_q3 g_r1 g_r2
  go_wp2_with fail
  refine (wakes_is _).mono ?_
  rintro e w28 ⟨rfl, hB⟩
  have HBZ := Lib.hid (HB26.out.trans (hB.mono HB26.out.size))
  clear hB
  go_wp2_with fail
  go_ret
  exact ⟨rfl, HBZ.out⟩
end Go.Proofs.Ythhhhjllpejpgaa
