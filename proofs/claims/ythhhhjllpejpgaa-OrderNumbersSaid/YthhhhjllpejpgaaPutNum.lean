/-
  The walk of (*Set[T]).Put at ponder/ponderlaw01.Num: x is in the set behind it; whether it was not there; nothing else is touched.
-/
import Derived.Test.YthhhhjllpejpgaaOpsNum
namespace Go.Proofs.Ythhhhjllpejpgaa
open Go.RowKit

/-- Behind Put. -/
def PutPostNum (w : World) (b : Nat) (sn : Bool) (A : Option Addr) (l : List Num) (x : Num) (e : Ending) (w' : World) : Prop :=
  e = .returned (.bool (!has cmpNum l x)) ∧ ∃ sn' A' c', NumSet w' b sn' A' c' (put cmpNum l x) ∧ Fr (SetMod b sn A) w w' ∧ Moved w sn A sn' A'
set_option maxRecDepth 100000 in
set_option maxHeartbeats 1000000 in
theorem put_there_Num (b c : Nat) (sn : Bool) (A : Option Addr) (l : List Num) (x : Num) (w : World) (hS : NumSet w b sn A c l) (hs : Srt cmpNum l) (hl : (l.length : Int) ≤ 100000000) (hh : has cmpNum l x = true) :
    Calls Try.prog 22 #[.pointer (some ⟨b, 0, none⟩), .int .i64 x] w (PutPostNum w b sn A l x) := by
  have HS := Lib.hid hS
  have HO := Lib.hid hs
  clear hS hs
  go_enter Try.func22, Try.ntmps22
  go_wp2_with fail
  refine (find_Num b c sn A l x _ (HS.out.new_ (Below.refl _ _)) HO.out (by omega)).mono ?_
  rintro e w1 ⟨rfl, hb1⟩
  go_wp2_with fail
  go_ret
  refine ⟨by rw [hh]; rfl, sn, A, c, ?_, Fr.of_new ((Below.refl _ _).trans (hb1.mono (by simp))), .inl ⟨rfl, rfl⟩⟩
  rw [put_has hh]
  exact HS.out.new_ ((Below.refl _ _).trans (hb1.mono (by simp)))

set_option maxRecDepth 100000 in
set_option maxHeartbeats 4000000 in
theorem put_new_Num (b c : Nat) (sn : Bool) (A : Option Addr) (l : List Num) (x : Num) (w : World) (hS : NumSet w b sn A c l) (hs : Srt cmpNum l) (hl : (l.length : Int) ≤ 100000000) (hh : has cmpNum l x = false) :
    Calls Try.prog 22 #[.pointer (some ⟨b, 0, none⟩), .int .i64 x] w (PutPostNum w b sn A l x) := by
  obtain ⟨i0, hi, hz0, hz1, hz2⟩ := info_parts info_Num
  have HS := Lib.hid hS
  have HO := Lib.hid hs
  have hb := hS.lt
  clear hS hs
  have hrk := rank_le (cmp := cmpNum) l x
  go_enter Try.func22, Try.ntmps22
  go_wp2_with fail
  have hSa := HS.out.new_ (Below.refl w.heap.size w)
  have HSa := Lib.hid hSa
  clear hSa
  refine (find_Num b c sn A l x _ HSa.out HO.out (by omega)).mono ?_
  rintro e w1 ⟨rfl, hb1⟩
  have HS1 := Lib.hid (HSa.out.new_ hb1)
  have hsz1 : w.heap.size ≤ w1.heap.size := by have := hb1.size; (try simp at this); omega
  have HB1 := Lib.hid hb1
  clear hb1
  go_wp2_with fail
  refine (own_Num b c sn A l _ HS1.out (by omega)).mono ?_
  rintro e w2 ⟨rfl, A1, c1, hS2, hF2, hM2⟩
  have hsz2 : w1.heap.size ≤ w2.heap.size := hF2.size
  have s0 := hS2.cell0
  have f0 := hS2.blk.frozen 0
  have hb2 : b < w2.heap.size := by omega
  have HS2 := Lib.hid hS2
  have HF2 := Lib.hid hF2
  have HM2 := Lib.hid hM2
  clear hS2 hF2 hM2 
  go_upto_region 8 with
    (at_builtin; refine wpList_append_src (w2.alloc (.cells #[Value.int IntKind.i64 x] 39)) rfl (.tmp 23) (.tmp 25) 41 rfl 39 i0 _ 1 8 Try.underlying41 hi hz0 hz1 hz2 rfl (by omega) (.slice A1 l.length c1) l.length (l.flatMap Num.cells) rfl (ownsRow_new HS2.out.row ((Below.refl _ _).alloc (Nat.le_refl _) _)) (some ⟨w2.heap.size, 0, none⟩) 1 1 (Num.cells x) rfl rfl (fun _ => ⟨_, rfl, World.news_of_block (heap_alloc_new _ _)⟩) (Num.one x) (by unfold maxLen; omega) (by omega) ?_;
     intro v2 w3 hown hgr hnil hat;
     obtain ⟨g, c2, rfl⟩ : ∃ g c2, v2 = .slice (some ⟨g, 0, none⟩) (l.length + 1) c2 := (by
       rcases ownsRow_form hown with ⟨_, h0, _⟩ | ⟨g, c2, h, _⟩
       · omega
       · exact ⟨g, c2, h⟩);
     have HB3' := (HS2.out.blk.alloc (.cells #[Value.int IntKind.i64 x] 39)).grown hgr (own_blk_ne HS2.out.row HS2.out.blk (by decide));
     have c0 := (HB3'.cell 0).trans rfl;
     have z0 := HB3'.frozen 0;
     have HB3 := Lib.hid HB3';
     have HOWN := Lib.hid hown;
     have HGR := Lib.hid hgr;
     clear HB3' hown hgr)
  have hlg : ((l.length + 1 : Nat) : Int) = (l.length : Int) + 1 := by omega
  have hG : (SetMod b sn A g ∨ w.heap.size ≤ g) ∧ Moved w sn A false (some ⟨g, 0, none⟩) ∧ True ∧ g ≠ b := by
    rcases hat with h | h
    · rcases A1 with _ | a1
      · simp [Value.ownBlock] at h
      · obtain ⟨A', c', hv, _, _, hz⟩ := own_form2 HS2.out.row
        injection hv with hv _ _
        obtain ⟨g', rfl⟩ := hz a1 hv.symm
        have hgg : g' = g := by simpa [Value.ownBlock] using h.symm
        subst hgg
        have hne : g' ≠ b := HS2.out.row_ne (by decide) _ rfl
        rcases HM2.out with ⟨hsn, hA⟩ | ⟨_, g2, hg2, hA⟩
        · have h1 := HS.out.row_lt _ hA.symm
          exact ⟨.inl (.inr ⟨hsn.symm, _, hA.symm, rfl⟩), .inl ⟨hsn, hA⟩, True.intro, hne⟩
        · injection hA with hA
          injection hA with hA
          subst hA
          exact ⟨.inr (by omega), .inr ⟨rfl, _, by omega, rfl⟩, True.intro, hne⟩
    · have hgg : g = w2.heap.size + 1 := by simpa [Value.ownBlock] using h
      subst hgg
      exact ⟨.inr (by omega), .inr ⟨rfl, _, by omega, rfl⟩, True.intro, by omega⟩
  obtain ⟨hgM, hgMv, hgk1, hgb⟩ := hG
  obtain ⟨w4, hw4⟩ : ∃ w4, w4 = w3.setCell ⟨b, 0, none⟩ (.slice (some ⟨g, 0, none⟩) (l.length + 1) c2) := ⟨_, rfl⟩
  have hB4 : Blk w4 b 90 #[.slice (some ⟨g, 0, none⟩) (l.length + 1) c2, .bool false] := by rw [hw4]; exact HB3.out.set_ 0 _
  have hR4 : w4.ownsRow 0 39 1 (.slice (some ⟨g, 0, none⟩) (l.length + 1) c2) (l.length + 1) ((shiftAt l x l.length).flatMap Num.cells) := by
    rw [hw4, shiftAt_start]
    refine ownsRow_setCell_other (a := ⟨b, 0, none⟩) ?_ (by simpa [Value.ownBlock] using hgb) _
    rw [List.flatMap_append, List.flatMap_singleton]
    exact HOWN.out
  have hF4 : Fr (SetMod b sn A) w w4 := by
    rw [hw4]
    have h1 : Fr (SetMod b sn A) w w1 := Fr.of_new ((Below.refl _ _).trans (HB1.out.mono (by simp)))
    have h2 : Fr (SetMod b sn A) w w2 := h1.trans (HF2.out.mono (fun k _ h => .inl h))
    refine ((h2.alloc _).grown HGR.out (fun k hk => ?_)).setCell (p := ⟨b, 0, none⟩) (.inl (.inl rfl)) _
    rcases A1 with _ | a1
    · cases hk
    · simp only [Value.ownBlock, Option.some.injEq] at hk
      subst hk
      rcases HM2.out with ⟨hsn, hA⟩ | ⟨_, g', hg', hA⟩
      · left; right; exact ⟨hsn.symm, a1, hA.symm, rfl⟩
      · injection hA with hA
        subst hA
        right; dsimp only; omega
  rw [← hw4]
  have HgM := Lib.hid hgM
  have HgMv := Lib.hid hgMv
  have HB4 := Lib.hid hB4
  have HR4 := Lib.hid hR4
  have HF4 := Lib.hid hF4
  have s4 := hB4.cell 0
  have s4' : w4.cell? ⟨b, 0, none⟩ = some (.slice (some ⟨g, 0, none⟩) (l.length + 1) c2) := s4
  clear s4 hw4 hB4 hR4 hF4 hat hgM hgMv hnil  s0 f0
  go_wp2_with fail
  go_loopw [7] (fun s wr => ∃ i : Nat, s = .int .i64 i ∧ rank cmpNum l x ≤ i ∧ i ≤ l.length ∧ wr.ownsRow 0 39 1 (.slice (some ⟨g, 0, none⟩) (l.length + 1) c2) (l.length + 1) ((shiftAt l x i).flatMap Num.cells) ∧ Fr (· = g) w4 wr) (fun s wr => (intOf s).toNat)
  case atStart => exact ⟨l.length, by go_num, hrk, Nat.le_refl _, HR4.out, Fr.refl _ _⟩
  case round =>
    obtain ⟨i, rfl, hi1, hi2, hown, hfr⟩ := hrel
    have hgw : g < wr.heap.size := (hown.lt g rfl).2
    have r0 : wr.cell? ⟨b, 0, none⟩ = some (.slice (some ⟨g, 0, none⟩) (l.length + 1) c2) := (hfr.cell (p := ⟨b, 0, none⟩) HB4.out.lt (fun h => hgb h.symm)).trans s4'
    have fz : ∀ o, wr.frozen? ⟨g, o, none⟩ = false := fun o => hown.frozenAt o
    have HOW := Lib.hid hown
    have HFR := Lib.hid hfr
    clear hown hfr
    by_cases hlt : rank cmpNum l x < i
    · obtain ⟨j, rfl⟩ : ∃ j, i = j + 1 := ⟨i - 1, by omega⟩
      have hj : j < l.length := by omega
      have hrd := ownsRow_rd (A := some ⟨g, 0, none⟩) (c := c2) (l := shiftAt l x (j + 1)) Num.cells_length (by rw [shiftAt_length l x hi2]; exact HOW.out)
      obtain ⟨g', o', hgo, _, hcell⟩ := hrd.at_ (k := j) (by rw [shiftAt_length l x hi2]; omega)
      injection hgo with hgo
      injection hgo with hg1 hg2
      subst hg1; subst hg2
      rw [shiftAt_read l x hj] at hcell
      have q0 : wr.cell? ⟨g, j, none⟩ = some (.int .i64 l[j]) := by simpa using hcell 0 _ rfl
      have rmj : Room wr g 39 (c2 * 1) ∧ l.length + 1 ≤ c2 := by
        rcases ownsRow_form HOW.out with ⟨hv, _⟩ | ⟨g', cap, hv, hn, _, hr, _⟩
        · cases hv
        · injection hv with hA _ hc
          injection hA with hA
          injection hA with hA
          subst hA; subst hc
          exact ⟨hr, hn⟩
      obtain ⟨hrm, hcap⟩ := rmj
      obtain ⟨u0, t0⟩ := hrm.cell (i := (j + 1)) (by omega)
      have b0 : (0 : Int) ≤ (j : Int) + 1 := by omega
      have b1 : (0 : Int) ≤ (j : Int) := by omega
      have b4 : (j : Int) < (l.length : Int) := by omega
      have b2 : (j : Int) < (l.length : Int) + 1 := by omega
      have b3 : (j : Int) + 1 < (l.length : Int) + 1 := by omega
      have w1 : IntKind.i64.wrap ((j : Int)) = (j : Int) := IntWalk.i64_in _ (by omega)
      have w2 : IntKind.i64.wrap ((j : Int) + 1 - 1) = (j : Int) := by rw [IntWalk.i64_in _ (by omega)]; omega
      clear hcell hrd hrm
      obtain ⟨y, hy⟩ : ∃ y, y = l[j] := ⟨_, rfl⟩
      rw [← hy] at q0
      have HY := Lib.hid hy
      have hbw : b < wr.heap.size := World.block_lt_of_cell? wr _ r0
      clear hy
      go_wp2_with fail
      refine wp_region_E (fun w9 => Below wr.heap.size wr w9) [(0, 0), (1, 0), (2, 0), (3, 1), (4, 0), (5, 0), (6, 0), (7, 0), (8, 1), (9, 0), (10, 0), (11, 0), (12, 1), (13, 0), (14, 2)] (by kernel_rfl) (by kernel_rfl) (fun KK hKK => ?_)
      simp only [beside, List.filterMap_cons, List.filterMap_nil, List.getElem?_toArray, List.getElem?_cons_zero, List.getElem?_cons_succ, Option.map_some]
      repeat (first | (refine wpX_w ?_ (Or.inl ⟨by rfl, fun w9 => ?_⟩) ?_; rotate_left 1; go_simp; with_reducible rfl; simp only [Act.put, List.setIfInBounds_toArray, List.set_cons_zero, List.set_cons_succ]) | (refine wpX_l ?_ (((Below.refl _ _).drew)) (Or.inl ⟨by rfl, fun w9 hw9 => ?_⟩) ?_; rotate_left 1; obtain ⟨hc9, hf9⟩ := bcell hw9; go_simp; with_reducible rfl; simp only [Act.put, List.setIfInBounds_toArray, List.set_cons_zero, List.set_cons_succ]) | (refine wpX_w undef (Or.inr ⟨by rfl, rfl⟩) ?_; simp only [Act.put, List.setIfInBounds_toArray, List.set_cons_zero, List.set_cons_succ]))
      refine wpX_e (by kernel_rfl) (fun K9 hK9 => ?_)
      go_simp
      refine hK9 _ _ ?_
      clear hK9 K9
      refine wpX_nil ?_
      simp only [OnlyN_normal]
      refine hKK _ _ ?_
      clear hKK KK
      go_wp2_with fail
      go_roundw
      case rel =>
        refine ⟨j, by go_num, by omega, by omega, ?_, Fr.drew ((HFR.out).setCell (p := ⟨g, (j + 1), none⟩) (.inl rfl) (_))⟩
        have hst := ((HOW.out).stored ((j + 1)) (.int .i64 y)).1
        have he : setAll ((shiftAt l x (j + 1)).flatMap Num.cells) ((j + 1)) (Num.cells y) = (shiftAt l x j).flatMap Num.cells := by
          rw [flat_set1 Num.cells_length (by omega) _ (j + 1) (by rw [shiftAt_length l x hi2]; omega), HY.out, shiftAt_step l x hj]
        rw [← he]
        exact hst
      case measure => simp [intOf] <;> omega
    · obtain rfl : i = rank cmpNum l x := by omega
      have rmj : Room wr g 39 (c2 * 1) ∧ l.length + 1 ≤ c2 := by
        rcases ownsRow_form HOW.out with ⟨hv, _⟩ | ⟨g', cap, hv, hn, _, hr, _⟩
        · cases hv
        · injection hv with hA _ hc
          injection hA with hA
          injection hA with hA
          subst hA; subst hc
          exact ⟨hr, hn⟩
      obtain ⟨hrm, hcap⟩ := rmj
      obtain ⟨k, hk⟩ : ∃ k, k = rank cmpNum l x := ⟨_, rfl⟩
      rw [← hk] at hi2 hlt ⊢
      obtain ⟨u0, t0⟩ := hrm.cell (i := k) (by omega)
      have b1 : (0 : Int) ≤ (k : Int) := by omega
      have b2 : (k : Int) < (l.length : Int) + 1 := by omega
      have HK := Lib.hid hk
      have hbw : b < wr.heap.size := World.block_lt_of_cell? wr _ r0
      clear hrm hk 
      go_wp2_with fail
      go_ret
      have HOWk := HOW.out
      rw [← HK.out] at HOWk
      have hst := ((HOWk).stored (k) (.int .i64 x)).1
      have he : setAll ((shiftAt l x k).flatMap Num.cells) (k) (Num.cells x) = (put cmpNum l x).flatMap Num.cells := by
        rw [flat_set1 Num.cells_length (by omega) _ k (by rw [shiftAt_length l x hi2]; omega), shiftAt_end l x hi2, put_eq tc_num HO.out hh, HK.out]
      have hln := length_put tc_num HO.out hh
      refine ⟨by rw [hh]; rfl, false, some ⟨g, 0, none⟩, c2, ⟨?_, ?_⟩, ?_, ?_⟩
      · rw [hln]
        exact (HB4.out.fr HFR.out (fun h => hgb h.symm)).far (p := ⟨g, k, none⟩) (fun h => hgb h.symm) _
      · rw [hln, ← he]
        exact hst
      · exact HF4.out.into (((HFR.out).setCell (p := ⟨g, k, none⟩) (.inl rfl) (_))) (fun k hk => by subst hk; exact HgM.out)
      · exact HgMv.out

theorem put_Num (b c : Nat) (sn : Bool) (A : Option Addr) (l : List Num) (x : Num) (w : World) (hS : NumSet w b sn A c l) (hs : Srt cmpNum l) (hl : (l.length : Int) ≤ 100000000) :
    Calls Try.prog 22 #[.pointer (some ⟨b, 0, none⟩), .int .i64 x] w (PutPostNum w b sn A l x) := by
  cases hh : has cmpNum l x
  · exact put_new_Num b c sn A l x w hS hs hl hh
  · exact put_there_Num b c sn A l x w hS hs hl hh
end Go.Proofs.Ythhhhjllpejpgaa
