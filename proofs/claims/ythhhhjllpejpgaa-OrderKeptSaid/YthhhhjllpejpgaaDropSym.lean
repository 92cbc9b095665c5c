/-
  The walk of (*Set[T]).Drop at ponder/api.Sym: x is not in the set behind it; whether it was; nothing else is touched.
-/
import Derived.Test.YthhhhjllpejpgaaPutSym
namespace Go.Proofs.Ythhhhjllpejpgaa
open Go.RowKit

/-- Behind Drop. -/
def DropPostSym (w : World) (b : Nat) (sn : Bool) (A : Option Addr) (l : List Sym) (x : Sym) (e : Ending) (w' : World) : Prop :=
  e = .returned (.bool (has cmpSym l x)) ∧ ∃ sn' A' c', SymSet w' b sn' A' c' (drop cmpSym l x) ∧ Fr (SetMod b sn A) w w' ∧ Moved w sn A sn' A'
set_option maxRecDepth 100000 in
set_option maxHeartbeats 1000000 in
theorem drop_not_Sym (b c : Nat) (sn : Bool) (A : Option Addr) (l : List Sym) (x : Sym) (w : World) (hS : SymSet w b sn A c l) (hs : Srt cmpSym l) (hl : (l.length : Int) ≤ 100000000) (hh : has cmpSym l x = false) :
    Calls Try.prog 16 #[.pointer (some ⟨b, 0, none⟩), .agg #[.int .i64 x.kind, .string x.text, .int .i64 x.n]] w (DropPostSym w b sn A l x) := by
  have HS := Lib.hid hS
  have HO := Lib.hid hs
  clear hS hs
  go_enter Try.func16, Try.ntmps16
  go_wp2_with fail
  refine (find_Sym b c sn A l x _ (HS.out.new_ ((Below.refl _ _).alloc (Nat.le_refl _) _)) HO.out (by omega)).mono ?_
  rintro e w1 ⟨rfl, hb1⟩
  go_wp2_with fail
  go_ret
  refine ⟨by rw [hh]; rfl, sn, A, c, ?_, Fr.of_new (((Below.refl _ _).alloc (Nat.le_refl _) _).trans (hb1.mono (by simp))), .inl ⟨rfl, rfl⟩⟩
  rw [drop_self hh]
  exact HS.out.new_ (((Below.refl _ _).alloc (Nat.le_refl _) _).trans (hb1.mono (by simp)))

set_option maxRecDepth 100000 in
set_option maxHeartbeats 4000000 in
theorem drop_is_Sym (b c : Nat) (sn : Bool) (A : Option Addr) (l : List Sym) (x : Sym) (w : World) (hS : SymSet w b sn A c l) (hs : Srt cmpSym l) (hl : (l.length : Int) ≤ 100000000) (hh : has cmpSym l x = true) :
    Calls Try.prog 16 #[.pointer (some ⟨b, 0, none⟩), .agg #[.int .i64 x.kind, .string x.text, .int .i64 x.n]] w (DropPostSym w b sn A l x) := by
  obtain ⟨hrk, hde, _, _⟩ := drop_eq tc_sym hs hh
  have HDE := Lib.hid hde
  have HS := Lib.hid hS
  have HO := Lib.hid hs
  have hb := hS.lt
  clear hS hs hde
  go_enter Try.func16, Try.ntmps16
  go_wp2_with fail
  have hSa := HS.out.new_ ((Below.refl w.heap.size w).alloc (Nat.le_refl _) (.cells #[Value.int IntKind.i64 x.kind, Value.string x.text, Value.int IntKind.i64 x.n] 27))
  have HSa := Lib.hid hSa
  clear hSa
  refine (find_Sym b c sn A l x _ HSa.out HO.out (by omega)).mono ?_
  rintro e w1 ⟨rfl, hb1⟩
  have HS1 := Lib.hid (HSa.out.new_ hb1)
  have hsz1 : w.heap.size + 1 ≤ w1.heap.size := by have := hb1.size; simp at this; omega
  have HB1 := Lib.hid hb1
  clear hb1
  go_wp2_with fail
  refine (own_Sym b c sn A l _ HS1.out (by omega)).mono ?_
  rintro e w2 ⟨rfl, A1, c1, hS2, hF2, hM2⟩
  have hsz2 : w1.heap.size ≤ w2.heap.size := hF2.size
  obtain ⟨g, rfl⟩ : ∃ g, A1 = some ⟨g, 0, none⟩ := by
    rcases ownsRow_form hS2.row with ⟨_, h0, _⟩ | ⟨g, cap, hv, _⟩
    · omega
    · injection hv with hv; exact ⟨g, hv⟩
  have hgb : g ≠ b := hS2.row_ne (by decide) _ rfl
  obtain ⟨hroom, hcap, hcm⟩ := ownsRow_room hS2.row
  unfold maxLen at hcm
  have hgM : SetMod b sn A g ∨ w.heap.size ≤ g := by
    rcases hM2 with ⟨hsn, hA⟩ | ⟨_, g', hg', hA⟩
    · exact .inl (.inr ⟨hsn.symm, _, hA.symm, rfl⟩)
    · injection hA with hA
      injection hA with hA
      subst hA
      exact .inr (by omega)
  have hgMv : Moved w sn A false (some ⟨g, 0, none⟩) := by
    rcases hM2 with ⟨hsn, hA⟩ | ⟨_, g', hg', hA⟩
    · exact .inl ⟨hsn, hA⟩
    · injection hA with hA
      injection hA with hA
      subst hA
      exact .inr ⟨rfl, _, by omega, rfl⟩
  have hF : Fr (SetMod b sn A) w w2 := (Fr.of_new (((Below.refl _ _).alloc (Nat.le_refl _) _).trans (HB1.out.mono (by simp)))).into hF2 (fun k hk => .inl (.inl hk))
  have s0 := hS2.cell0
  have HgM := Lib.hid hgM
  have HgMv := Lib.hid hgMv
  have HF := Lib.hid hF
  have HBk := Lib.hid hS2.blk
  have HRo := Lib.hid hS2.row
  have hb2 : b < w2.heap.size := by omega
  clear hgM hgMv hF hS2 hF2 hM2 hroom
  go_wp2_with fail
  go_loopw [7] (fun s wr => ∃ i : Nat, s = .int .i64 i ∧ rank cmpSym l x ≤ i ∧ i < l.length ∧ wr.ownsRow 0 27 3 (.slice (some ⟨g, 0, none⟩) l.length c1) l.length ((downAt l (rank cmpSym l x) i).flatMap Sym.cells) ∧ Fr (· = g) w2 wr) (fun s wr => l.length - (intOf s).toNat)
  case atStart => exact ⟨rank cmpSym l x, rfl, Nat.le_refl _, hrk, by rw [downAt_start]; exact HRo.out, Fr.refl _ _⟩
  case round =>
    obtain ⟨i, rfl, hi1, hi2, hown, hfr⟩ := hrel
    have hgw : g < wr.heap.size := (hown.lt g rfl).2
    have r0 : wr.cell? ⟨b, 0, none⟩ = some (.slice (some ⟨g, 0, none⟩) l.length c1) := (hfr.cell (p := ⟨b, 0, none⟩) hb2 (fun h => hgb h.symm)).trans s0
    have fz : ∀ o, wr.frozen? ⟨g, o, none⟩ = false := fun o => hown.frozenAt o
    have hbw : b < wr.heap.size := World.block_lt_of_cell? wr _ r0
    obtain ⟨hrm, _, _⟩ := ownsRow_room hown
    have HOW := Lib.hid hown
    have HFR := Lib.hid hfr
    clear hown hfr
    by_cases hlt : i + 1 < l.length
    · have hrd := ownsRow_rd (A := some ⟨g, 0, none⟩) (c := c1) (l := downAt l (rank cmpSym l x) i) Sym.cells_length (by rw [downAt_length l hi1 hi2]; exact HOW.out)
      obtain ⟨g', o', hgo, _, hcell⟩ := hrd.at_ (k := i + 1) (by rw [downAt_length l hi1 hi2]; omega)
      injection hgo with hgo
      injection hgo with hg1 hg2
      subst hg1; subst hg2
      rw [downAt_read l hi1 hlt] at hcell
      have q0 : wr.cell? ⟨g, (i + 1) * 3, none⟩ = some (.int .i64 l[i + 1].kind) := by simpa using hcell 0 _ rfl
      have q1 : wr.cell? ⟨g, (i + 1) * 3 + 1, none⟩ = some (.string l[i + 1].text) := by simpa using hcell 1 _ rfl
      have q2 : wr.cell? ⟨g, (i + 1) * 3 + 2, none⟩ = some (.int .i64 l[i + 1].n) := by simpa using hcell 2 _ rfl
      obtain ⟨u0, t0⟩ := hrm.cell (i := i * 3) (by omega)
      obtain ⟨u1, t1⟩ := hrm.cell (i := i * 3 + 1) (by omega)
      obtain ⟨u2, t2⟩ := hrm.cell (i := i * 3 + 2) (by omega)
      have b0 : (0 : Int) ≤ (i : Int) + 1 := by omega
      have b1 : (0 : Int) ≤ (i : Int) := by omega
      have b2 : (i : Int) < (l.length : Int) := by omega
      have b3 : (i : Int) + 1 < (l.length : Int) := by omega
      have v1 : IntKind.i64.wrap ((i : Int) + 1) = (i : Int) + 1 := IntWalk.i64_in _ (by omega)
      clear hcell hrd hrm
      obtain ⟨y, hy⟩ : ∃ y, y = l[i + 1] := ⟨_, rfl⟩
      rw [← hy] at q0 q1 q2
      have HY := Lib.hid hy
      clear hy
      go_wp2_with fail
      refine wp_region_E (fun w9 => Below wr.heap.size wr w9) [(0, 0), (1, 0), (2, 0), (3, 1), (4, 0), (5, 0), (6, 0), (7, 0), (8, 1), (9, 0), (10, 0), (11, 0), (12, 1), (13, 0), (14, 2)] (by kernel_rfl) (by kernel_rfl) (fun KK hKK => ?_)
      simp only [beside, List.filterMap_cons, List.filterMap_nil, List.getElem?_toArray, List.getElem?_cons_zero, List.getElem?_cons_succ, Option.map_some]
      repeat (first | (refine wpX_w ?_ (Or.inl ⟨by rfl, fun w9 => ?_⟩) ?_; rotate_left 1; go_simp; with_reducible rfl; simp only [Act.put, List.setIfInBounds_toArray, List.set_cons_zero, List.set_cons_succ]) | (refine wpX_l ?_ (((Below.refl _ _).drew)) (Or.inl ⟨by rfl, fun w9 hw9 => ?_⟩) ?_; rotate_left 1; obtain ⟨hc9, hf9⟩ := bcell hw9; go_simp; with_reducible rfl; simp only [Act.put, List.setIfInBounds_toArray, List.set_cons_zero, List.set_cons_succ]) | (refine wpX_w undef (Or.inr ⟨by rfl, rfl⟩) ?_; simp only [Act.put, List.setIfInBounds_toArray, List.set_cons_zero, List.set_cons_succ]) | (refine wpX_l undef (((Below.refl _ _).drew)) (Or.inr ⟨by rfl, rfl⟩) ?_; simp only [Act.put, List.setIfInBounds_toArray, List.set_cons_zero, List.set_cons_succ]))
      refine wpX_e (by kernel_rfl) (fun K9 hK9 => ?_)
      go_simp
      refine hK9 _ _ ?_
      clear hK9 K9
      refine wpX_nil ?_
      simp only [OnlyN_normal]
      refine hKK _ _ ?_
      clear hKK KK
      go_wp2_with fail
      go_roundw
      case rel =>
        refine ⟨i + 1, by go_num, by omega, by omega, ?_, Fr.drew ((((HFR.out).setCell (p := ⟨g, i * 3, none⟩) (.inl rfl) (_)).setCell (p := ⟨g, i * 3 + 1, none⟩) (.inl rfl) (_)).setCell (p := ⟨g, i * 3 + 2, none⟩) (.inl rfl) (_))⟩
        have hst := ((((((HOW.out).stored (i * 3) (.int .i64 y.kind)).1).stored (i * 3 + 1) (.string y.text)).1).stored (i * 3 + 2) (.int .i64 y.n)).1
        have he : setAll ((downAt l (rank cmpSym l x) i).flatMap Sym.cells) (i * 3) (Sym.cells y) = (downAt l (rank cmpSym l x) (i + 1)).flatMap Sym.cells := by
          rw [flat_set Sym.cells_length (by omega) _ i (by rw [downAt_length l hi1 hi2]; omega), HY.out, downAt_step l hi1 hlt]
        rw [← he]
        exact hst
      case measure => simp [intOf] <;> omega
    · have hin : i = l.length - 1 := by omega
      have HIN := Lib.hid hin
      have b1 : (0 : Int) ≤ (l.length : Int) - 1 := by omega
      have b2 : (l.length : Int) - 1 ≤ (c1 : Int) := by omega
      have b3 : ¬ c1 = 0 := by omega
      have v1 : IntKind.i64.wrap ((l.length : Int) - 1) = (l.length : Int) - 1 := IntWalk.i64_in _ (by omega)
      have v2 : ((l.length : Int) - 1).toNat = l.length - 1 := by omega
      have b4 : (1 : Int) ≤ (l.length : Int) := by omega
      have b5 : l.length - 1 ≤ c1 := by omega
      have f0 : wr.frozen? ⟨b, 0, none⟩ = false := (HBk.out.fr HFR.out (fun h => hgb h.symm)).frozen 0
      clear hin hrm
      go_wp2_with fail
      refine wp_region_E (fun w9 => Below wr.heap.size wr w9) [(0, 0), (1, 0), (2, 0), (3, 0), (4, 1), (5, 0), (6, 0), (7, 0), (8, 1), (9, 0), (10, 0), (11, 0), (12, 0), (13, 0), (14, 2)] (by kernel_rfl) (by kernel_rfl) (fun KK hKK => ?_)
      simp only [beside, List.filterMap_cons, List.filterMap_nil, List.getElem?_toArray, List.getElem?_cons_zero, List.getElem?_cons_succ, Option.map_some]
      repeat (first | (refine wpX_w ?_ (Or.inl ⟨by rfl, fun w9 => ?_⟩) ?_; rotate_left 1; go_simp; with_reducible rfl; simp only [Act.put, List.setIfInBounds_toArray, List.set_cons_zero, List.set_cons_succ]) | (refine wpX_l ?_ (((Below.refl _ _).drew)) (Or.inl ⟨by rfl, fun w9 hw9 => ?_⟩) ?_; rotate_left 1; obtain ⟨hc9, hf9⟩ := bcell hw9; go_simp; with_reducible rfl; simp only [Act.put, List.setIfInBounds_toArray, List.set_cons_zero, List.set_cons_succ]) | (refine wpX_w undef (Or.inr ⟨by rfl, rfl⟩) ?_; simp only [Act.put, List.setIfInBounds_toArray, List.set_cons_zero, List.set_cons_succ]) | (refine wpX_l undef (((Below.refl _ _).drew)) (Or.inr ⟨by rfl, rfl⟩) ?_; simp only [Act.put, List.setIfInBounds_toArray, List.set_cons_zero, List.set_cons_succ]))
      refine wpX_e (by kernel_rfl) (fun K9 hK9 => ?_)
      go_simp
      refine hK9 _ _ ?_
      clear hK9 K9
      refine wpX_nil ?_
      simp only [OnlyN_normal]
      refine hKK _ _ ?_
      clear hKK KK
      go_wp2_with fail
      go_ret
      have hdl : (drop cmpSym l x).length = l.length - 1 := by rw [HDE.out]; simp; omega
      refine ⟨by rw [hh]; rfl, false, some ⟨g, 0, none⟩, c1, ⟨?_, ?_⟩, ?_, HgMv.out⟩
      · rw [hdl]
        exact (HBk.out.fr HFR.out (fun h => hgb h.symm)).set_ 0 _
      · rw [hdl]
        refine ownsRow_setCell_other (a := ⟨b, 0, none⟩) ?_ (by simpa [Value.ownBlock] using hgb) _
        have h1 := HOW.out
        rw [HIN.out] at h1
        have h2 := ownsRow_prefix Sym.cells_length (by omega) h1 (m := l.length - 1) (by omega) (downAt_length l (by omega) (by omega))
        rw [downAt_end l hrk, ← HDE.out] at h2
        exact h2
      · exact (HF.out.into HFR.out (fun k hk => by subst hk; exact HgM.out)).drew.setCell (p := ⟨b, 0, none⟩) (.inl (.inl rfl)) _
theorem drop_Sym (b c : Nat) (sn : Bool) (A : Option Addr) (l : List Sym) (x : Sym) (w : World) (hS : SymSet w b sn A c l) (hs : Srt cmpSym l) (hl : (l.length : Int) ≤ 100000000) :
    Calls Try.prog 16 #[.pointer (some ⟨b, 0, none⟩), .agg #[.int .i64 x.kind, .string x.text, .int .i64 x.n]] w (DropPostSym w b sn A l x) := by
  cases hh : has cmpSym l x
  · exact drop_not_Sym b c sn A l x w hS hs hl hh
  · exact drop_is_Sym b c sn A l x w hS hs hl hh
end Go.Proofs.Ythhhhjllpejpgaa
