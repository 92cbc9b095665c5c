/-
  The walk of (*Set[T]).Put at ponder/api.Sym: x is in the set behind it; whether it was not there; nothing else is touched.
-/
import Derived.Test.YthhhhjllpejpgaaOpsSym
namespace Go.Proofs.Ythhhhjllpejpgaa
open Go.RowKit

/-- Behind Put. -/
def PutPostSym (w : World) (b : Nat) (sn : Bool) (A : Option Addr) (l : List Sym) (x : Sym) (e : Ending) (w' : World) : Prop :=
  e = .returned (.bool (!has cmpSym l x)) ∧ ∃ sn' A' c', SymSet w' b sn' A' c' (put cmpSym l x) ∧ Fr (SetMod b sn A) w w' ∧ Moved w sn A sn' A'
set_option maxRecDepth 100000 in
set_option maxHeartbeats 1000000 in
theorem put_there_Sym (b c : Nat) (sn : Bool) (A : Option Addr) (l : List Sym) (x : Sym) (w : World) (hS : SymSet w b sn A c l) (hs : Srt cmpSym l) (hl : (l.length : Int) ≤ 100000000) (hh : has cmpSym l x = true) :
    Calls Try.prog 15 #[.pointer (some ⟨b, 0, none⟩), .agg #[.int .i64 x.kind, .string x.text, .int .i64 x.n]] w (PutPostSym w b sn A l x) := by
  have HS := Lib.hid hS
  have HO := Lib.hid hs
  clear hS hs
  go_enter Try.func15, Try.ntmps15
  go_wp2_with fail
  refine (find_Sym b c sn A l x _ (HS.out.new_ ((Below.refl _ _).alloc (Nat.le_refl _) _)) HO.out (by omega)).mono ?_
  rintro e w1 ⟨rfl, hb1⟩
  go_wp2_with fail
  go_ret
  refine ⟨by rw [hh]; rfl, sn, A, c, ?_, Fr.of_new (((Below.refl _ _).alloc (Nat.le_refl _) _).trans (hb1.mono (by simp))), .inl ⟨rfl, rfl⟩⟩
  rw [put_has hh]
  exact HS.out.new_ (((Below.refl _ _).alloc (Nat.le_refl _) _).trans (hb1.mono (by simp)))

set_option maxRecDepth 100000 in
set_option maxHeartbeats 4000000 in
theorem put_new_Sym (b c : Nat) (sn : Bool) (A : Option Addr) (l : List Sym) (x : Sym) (w : World) (hS : SymSet w b sn A c l) (hs : Srt cmpSym l) (hl : (l.length : Int) ≤ 100000000) (hh : has cmpSym l x = false) :
    Calls Try.prog 15 #[.pointer (some ⟨b, 0, none⟩), .agg #[.int .i64 x.kind, .string x.text, .int .i64 x.n]] w (PutPostSym w b sn A l x) := by
  obtain ⟨i0, hi, hz0, hz1, hz2⟩ := info_parts info_Sym
  have HS := Lib.hid hS
  have HO := Lib.hid hs
  have hb := hS.lt
  clear hS hs
  have hrk := rank_le (cmp := cmpSym) l x
  go_enter Try.func15, Try.ntmps15
  go_wp2_with fail
  have hSa := HS.out.new_ ((Below.refl w.heap.size w).alloc (Nat.le_refl _) (.cells #[Value.int IntKind.i64 x.kind, Value.string x.text, Value.int IntKind.i64 x.n] 27))
  have HSa := Lib.hid hSa
  clear hSa
  refine (find_Sym b c sn A l x _ HSa.out HO.out (by omega)).mono ?_
  rintro e w1 ⟨rfl, hb1⟩
  have HS1 := Lib.hid (HSa.out.new_ hb1)
  have hsz1 : w.heap.size + 1 ≤ w1.heap.size := by have := hb1.size; (try simp at this); omega
  have y0 := (hb1.cell (p := ⟨w.heap.size, 0, none⟩) (by simp)).trans ((Blk.new w 27 #[Value.int IntKind.i64 x.kind, Value.string x.text, Value.int IntKind.i64 x.n]).cell 0)
  have y1 := (hb1.cell (p := ⟨w.heap.size, 1, none⟩) (by simp)).trans ((Blk.new w 27 #[Value.int IntKind.i64 x.kind, Value.string x.text, Value.int IntKind.i64 x.n]).cell 1)
  have y2 := (hb1.cell (p := ⟨w.heap.size, 2, none⟩) (by simp)).trans ((Blk.new w 27 #[Value.int IntKind.i64 x.kind, Value.string x.text, Value.int IntKind.i64 x.n]).cell 2)
  have HB1 := Lib.hid hb1
  clear hb1
  go_wp2_with fail
  refine (own_Sym b c sn A l _ HS1.out (by omega)).mono ?_
  rintro e w2 ⟨rfl, A1, c1, hS2, hF2, hM2⟩
  have hsz2 : w1.heap.size ≤ w2.heap.size := hF2.size
  have x0 : w2.cell? ⟨w.heap.size, 0, none⟩ = some (.int .i64 x.kind) := (hF2.cell (p := ⟨w.heap.size, 0, none⟩) (by dsimp only; omega) (by dsimp only; omega)).trans y0
  have x1 : w2.cell? ⟨w.heap.size, 1, none⟩ = some (.string x.text) := (hF2.cell (p := ⟨w.heap.size, 1, none⟩) (by dsimp only; omega) (by dsimp only; omega)).trans y1
  have x2 : w2.cell? ⟨w.heap.size, 2, none⟩ = some (.int .i64 x.n) := (hF2.cell (p := ⟨w.heap.size, 2, none⟩) (by dsimp only; omega) (by dsimp only; omega)).trans y2
  have s0 := hS2.cell0
  have f0 := hS2.blk.frozen 0
  have hb2 : b < w2.heap.size := by omega
  have hk2 : w.heap.size < w2.heap.size := by omega
  have HS2 := Lib.hid hS2
  have HF2 := Lib.hid hF2
  have HM2 := Lib.hid hM2
  clear hS2 hF2 hM2 y0 y1 y2
  go_wp2_with fail
  refine wp_region_E (fun w9 => Below w2.heap.size w2 w9) [(0, 0), (1, 0), (2, 0), (3, 0), (4, 1), (5, 1), (6, 2), (7, 2), (8, 0), (9, 0), (10, 2)] (by kernel_rfl) (by kernel_rfl) (fun KK hKK => ?_)
  simp only [beside, List.filterMap_cons, List.filterMap_nil, List.getElem?_toArray, List.getElem?_cons_zero, List.getElem?_cons_succ, Option.map_some]
  repeat (first | (refine wpX_w ?_ (Or.inl ⟨by rfl, fun w9 => ?_⟩) ?_; rotate_left 1; go_simp; with_reducible rfl; simp only [Act.put, List.setIfInBounds_toArray, List.set_cons_zero, List.set_cons_succ]) | (refine wpX_l ?_ (((Below.refl _ _).drew)) (Or.inl ⟨by rfl, fun w9 hw9 => ?_⟩) ?_; rotate_left 1; obtain ⟨hc9, hf9⟩ := bcell hw9; go_simp; with_reducible rfl; simp only [Act.put, List.setIfInBounds_toArray, List.set_cons_zero, List.set_cons_succ]) | (refine wpX_w undef (Or.inr ⟨by rfl, rfl⟩) ?_; simp only [Act.put, List.setIfInBounds_toArray, List.set_cons_zero, List.set_cons_succ]) | (refine wpX_l undef (((Below.refl _ _).drew)) (Or.inr ⟨by rfl, rfl⟩) ?_; simp only [Act.put, List.setIfInBounds_toArray, List.set_cons_zero, List.set_cons_succ]))
  refine wpX_es (fun K9 hK9 => ?_)
  go_simp
  refine hK9 _ _ (((Below.refl _ _).drew).alloc (Nat.le_refl _) _) ?_
  clear hK9 K9
  refine wpX_e (by kernel_rfl) (fun K9 hK9 => ?_)
  refine step_append_src _ (by rfl) _ _ _ (by rfl) 27 i0 _ 3 32 Try.underlying22 hi hz0 hz1 hz2 rfl (by omega) _ l.length (l.flatMap Sym.cells) (by rfl) (ownsRow_new HS2.out.row (((Below.refl _ _).drew).alloc (Nat.le_refl _) _)) (some ⟨w2.heap.size, 0, none⟩) 1 1 (Sym.cells x) (by rfl) (by rfl)
    (fun _ => ⟨_, rfl, World.news_of_block (heap_alloc_new _ _)⟩) (Sym.one x) (by unfold maxLen; omega) (by omega) ?_
  intro v2 w3 hown hgr hnil hat
  refine hK9 _ _ ?_
  clear hK9 K9
  obtain ⟨g, c2, rfl⟩ : ∃ g c2, v2 = .slice (some ⟨g, 0, none⟩) (l.length + 1) c2 := by
    rcases ownsRow_form hown with ⟨_, h0, _⟩ | ⟨g, c2, h, _⟩
    · omega
    · exact ⟨g, c2, h⟩
  have HXN : (Value.slice A1 l.length c1).ownBlock ≠ some w.heap.size := by
    intro h
    rcases HM2.out with ⟨hsn, hA⟩ | ⟨_, g2, hg2, hA⟩
    · rcases A1 with _ | a1
      · cases h
      · have h1 := HS.out.row_lt _ hA.symm
        simp only [Value.ownBlock, Option.some.injEq] at h
        omega
    · subst hA
      simp only [Value.ownBlock, Option.some.injEq] at h
      omega
  have HB3' := (HS2.out.blk.drew.alloc (.cells #[Value.int IntKind.i64 x.kind, Value.string x.text, Value.int IntKind.i64 x.n] 27)).grown hgr (own_blk_ne HS2.out.row HS2.out.blk (by decide))
  have c0 := (HB3'.cell 0).trans rfl
  have z0 := HB3'.frozen 0
  have HB3 := Lib.hid HB3'
  have HOWN := Lib.hid hown
  have HGR := Lib.hid hgr
  clear HB3' hown hgr
  repeat (first | (refine wpX_w ?_ (Or.inl ⟨by rfl, fun w9 => ?_⟩) ?_; rotate_left 1; go_simp; with_reducible rfl; simp only [Act.put, List.setIfInBounds_toArray, List.set_cons_zero, List.set_cons_succ]) | (refine wpX_l ?_ (((Below.refl _ _).drew).alloc (Nat.le_refl _) _) (Or.inl ⟨by rfl, fun w9 hw9 => ?_⟩) ?_; rotate_left 1; obtain ⟨hc9, hf9⟩ := bcell hw9; go_simp; with_reducible rfl; simp only [Act.put, List.setIfInBounds_toArray, List.set_cons_zero, List.set_cons_succ]) | (refine wpX_w undef (Or.inr ⟨by rfl, rfl⟩) ?_; simp only [Act.put, List.setIfInBounds_toArray, List.set_cons_zero, List.set_cons_succ]) | (refine wpX_l undef (((Below.refl _ _).drew).alloc (Nat.le_refl _) _) (Or.inr ⟨by rfl, rfl⟩) ?_; simp only [Act.put, List.setIfInBounds_toArray, List.set_cons_zero, List.set_cons_succ]))
  refine wpX_e (by kernel_rfl) (fun K9 hK9 => ?_)
  go_simp
  refine hK9 _ _ ?_
  clear hK9 K9
  refine wpX_nil ?_
  simp only [OnlyN_normal]
  refine hKK _ _ ?_
  clear hKK KK
  have hlg : ((l.length + 1 : Nat) : Int) = (l.length : Int) + 1 := by omega
  have hG : (SetMod b sn A g ∨ w.heap.size ≤ g) ∧ Moved w sn A false (some ⟨g, 0, none⟩) ∧ g ≠ w.heap.size ∧ g ≠ b := by
    rcases hat with h | h
    · rcases A1 with _ | a1
      · simp [Value.ownBlock] at h
      · obtain ⟨A', c', hv, _, _, hz⟩ := own_form2 HS2.out.row
        injection hv with hv _ _
        obtain ⟨g', rfl⟩ := hz a1 hv.symm
        have hgg : g' = g := by simpa [Value.ownBlock] using h.symm
        subst hgg
        have hne : g' ≠ b := HS2.out.row_ne (by decide) _ rfl
        rcases HM2.out with ⟨hsn, hA⟩ | ⟨_, g2, hg2, hA⟩
        · have h1 := HS.out.row_lt _ hA.symm
          exact ⟨.inl (.inr ⟨hsn.symm, _, hA.symm, rfl⟩), .inl ⟨hsn, hA⟩, by dsimp only at h1; omega, hne⟩
        · injection hA with hA
          injection hA with hA
          subst hA
          exact ⟨.inr (by omega), .inr ⟨rfl, _, by omega, rfl⟩, by omega, hne⟩
    · have hgg : g = w2.heap.size + 1 := by simpa [Value.ownBlock] using h
      subst hgg
      exact ⟨.inr (by omega), .inr ⟨rfl, _, by omega, rfl⟩, by omega, by omega⟩
  obtain ⟨hgM, hgMv, hgk1, hgb⟩ := hG
  obtain ⟨w4, hw4⟩ : ∃ w4, w4 = w3.setCell ⟨b, 0, none⟩ (.slice (some ⟨g, 0, none⟩) (l.length + 1) c2) := ⟨_, rfl⟩
  have hB4 : Blk w4 b 86 #[.slice (some ⟨g, 0, none⟩) (l.length + 1) c2, .bool false] := by rw [hw4]; exact HB3.out.set_ 0 _
  have hR4 : w4.ownsRow 0 27 3 (.slice (some ⟨g, 0, none⟩) (l.length + 1) c2) (l.length + 1) ((shiftAt l x l.length).flatMap Sym.cells) := by
    rw [hw4, shiftAt_start]
    refine ownsRow_setCell_other (a := ⟨b, 0, none⟩) ?_ (by simpa [Value.ownBlock] using hgb) _
    rw [List.flatMap_append, List.flatMap_singleton]
    exact HOWN.out
  have hF4 : Fr (SetMod b sn A) w w4 := by
    rw [hw4]
    have h1 : Fr (SetMod b sn A) w w1 := Fr.of_new (((Below.refl _ _).alloc (Nat.le_refl _) _).trans (HB1.out.mono (by simp)))
    have h2 : Fr (SetMod b sn A) w w2 := h1.trans (HF2.out.mono (fun k _ h => .inl h))
    refine ((h2.drew.alloc _).grown HGR.out (fun k hk => ?_)).setCell (p := ⟨b, 0, none⟩) (.inl (.inl rfl)) _
    rcases A1 with _ | a1
    · cases hk
    · simp only [Value.ownBlock, Option.some.injEq] at hk
      subst hk
      rcases HM2.out with ⟨hsn, hA⟩ | ⟨_, g', hg', hA⟩
      · left; right; exact ⟨hsn.symm, a1, hA.symm, rfl⟩
      · injection hA with hA
        subst hA
        right; dsimp only; omega
  have z0 : w4.cell? ⟨w.heap.size, 0, none⟩ = some (.int .i64 x.kind) := by
    rw [hw4, World.cell?_setCell_other _ _ _ _ (by intro h; injection h; omega)]
    refine HGR.out.cell ((World.cell?_alloc_lt w2.drew _ ⟨w.heap.size, 0, none⟩ hk2).trans x0) ?_
    intro h
    exact HXN (by simpa using h.symm)
  have z1 : w4.cell? ⟨w.heap.size, 1, none⟩ = some (.string x.text) := by
    rw [hw4, World.cell?_setCell_other _ _ _ _ (by intro h; injection h; omega)]
    refine HGR.out.cell ((World.cell?_alloc_lt w2.drew _ ⟨w.heap.size, 1, none⟩ hk2).trans x1) ?_
    intro h
    exact HXN (by simpa using h.symm)
  have z2 : w4.cell? ⟨w.heap.size, 2, none⟩ = some (.int .i64 x.n) := by
    rw [hw4, World.cell?_setCell_other _ _ _ _ (by intro h; injection h; omega)]
    refine HGR.out.cell ((World.cell?_alloc_lt w2.drew _ ⟨w.heap.size, 2, none⟩ hk2).trans x2) ?_
    intro h
    exact HXN (by simpa using h.symm)
  have hk4 : w.heap.size < w4.heap.size := by rw [hw4]; have := HGR.out.size; simp at this ⊢; omega
  rw [← hw4]
  have HgM := Lib.hid hgM
  have HgMv := Lib.hid hgMv
  have HB4 := Lib.hid hB4
  have HR4 := Lib.hid hR4
  have HF4 := Lib.hid hF4
  have s4 := hB4.cell 0
  have s4' : w4.cell? ⟨b, 0, none⟩ = some (.slice (some ⟨g, 0, none⟩) (l.length + 1) c2) := s4
  clear s4 hw4 hB4 hR4 hF4 hat hgM hgMv hnil x0 x1 x2 s0 f0
  go_wp2_with fail
  go_loopw [7] (fun s wr => ∃ i : Nat, s = .int .i64 i ∧ rank cmpSym l x ≤ i ∧ i ≤ l.length ∧ wr.ownsRow 0 27 3 (.slice (some ⟨g, 0, none⟩) (l.length + 1) c2) (l.length + 1) ((shiftAt l x i).flatMap Sym.cells) ∧ Fr (· = g) w4 wr) (fun s wr => (intOf s).toNat)
  case atStart => exact ⟨l.length, by go_num, hrk, Nat.le_refl _, HR4.out, Fr.refl _ _⟩
  case round =>
    obtain ⟨i, rfl, hi1, hi2, hown, hfr⟩ := hrel
    have hgw : g < wr.heap.size := (hown.lt g rfl).2
    have r0 : wr.cell? ⟨b, 0, none⟩ = some (.slice (some ⟨g, 0, none⟩) (l.length + 1) c2) := (hfr.cell (p := ⟨b, 0, none⟩) HB4.out.lt (fun h => hgb h.symm)).trans s4'
    have fz : ∀ o, wr.frozen? ⟨g, o, none⟩ = false := fun o => hown.frozenAt o
    have HOW := Lib.hid hown
    have HFR := Lib.hid hfr
    clear hown hfr
    by_cases hlt : rank cmpSym l x < i
    · obtain ⟨j, rfl⟩ : ∃ j, i = j + 1 := ⟨i - 1, by omega⟩
      have hj : j < l.length := by omega
      have hrd := ownsRow_rd (A := some ⟨g, 0, none⟩) (c := c2) (l := shiftAt l x (j + 1)) Sym.cells_length (by rw [shiftAt_length l x hi2]; exact HOW.out)
      obtain ⟨g', o', hgo, _, hcell⟩ := hrd.at_ (k := j) (by rw [shiftAt_length l x hi2]; omega)
      injection hgo with hgo
      injection hgo with hg1 hg2
      subst hg1; subst hg2
      rw [shiftAt_read l x hj] at hcell
      have q0 : wr.cell? ⟨g, j * 3, none⟩ = some (.int .i64 l[j].kind) := by simpa using hcell 0 _ rfl
      have q1 : wr.cell? ⟨g, j * 3 + 1, none⟩ = some (.string l[j].text) := by simpa using hcell 1 _ rfl
      have q2 : wr.cell? ⟨g, j * 3 + 2, none⟩ = some (.int .i64 l[j].n) := by simpa using hcell 2 _ rfl
      have rmj : Room wr g 27 (c2 * 3) ∧ l.length + 1 ≤ c2 := by
        rcases ownsRow_form HOW.out with ⟨hv, _⟩ | ⟨g', cap, hv, hn, _, hr, _⟩
        · cases hv
        · injection hv with hA _ hc
          injection hA with hA
          injection hA with hA
          subst hA; subst hc
          exact ⟨hr, hn⟩
      obtain ⟨hrm, hcap⟩ := rmj
      obtain ⟨u0, t0⟩ := hrm.cell (i := (j + 1) * 3) (by omega)
      obtain ⟨u1, t1⟩ := hrm.cell (i := (j + 1) * 3 + 1) (by omega)
      obtain ⟨u2, t2⟩ := hrm.cell (i := (j + 1) * 3 + 2) (by omega)
      have b0 : (0 : Int) ≤ (j : Int) + 1 := by omega
      have b1 : (0 : Int) ≤ (j : Int) := by omega
      have b4 : (j : Int) < (l.length : Int) := by omega
      have b2 : (j : Int) < (l.length : Int) + 1 := by omega
      have b3 : (j : Int) + 1 < (l.length : Int) + 1 := by omega
      have w1 : IntKind.i64.wrap ((j : Int)) = (j : Int) := IntWalk.i64_in _ (by omega)
      have w2 : IntKind.i64.wrap ((j : Int) + 1 - 1) = (j : Int) := by rw [IntWalk.i64_in _ (by omega)]; omega
      clear hcell hrd hrm
      obtain ⟨y, hy⟩ : ∃ y, y = l[j] := ⟨_, rfl⟩
      rw [← hy] at q0 q1 q2
      have HY := Lib.hid hy
      have hbw : b < wr.heap.size := World.block_lt_of_cell? wr _ r0
      clear hy
      go_wp2_with fail
      refine wp_region_E (fun w9 => Below wr.heap.size wr w9) [(0, 0), (1, 0), (2, 0), (3, 1), (4, 0), (5, 0), (6, 0), (7, 0), (8, 1), (9, 0), (10, 0), (11, 0), (12, 1), (13, 0), (14, 2)] (by kernel_rfl) (by kernel_rfl) (fun KK hKK => ?_)
      simp only [beside, List.filterMap_cons, List.filterMap_nil, List.getElem?_toArray, List.getElem?_cons_zero, List.getElem?_cons_succ, Option.map_some]
      repeat (first | (refine wpX_w ?_ (Or.inl ⟨by rfl, fun w9 => ?_⟩) ?_; rotate_left 1; go_simp; with_reducible rfl; simp only [Act.put, List.setIfInBounds_toArray, List.set_cons_zero, List.set_cons_succ]) | (refine wpX_l ?_ (((Below.refl _ _).drew)) (Or.inl ⟨by rfl, fun w9 hw9 => ?_⟩) ?_; rotate_left 1; obtain ⟨hc9, hf9⟩ := bcell hw9; go_simp; with_reducible rfl; simp only [Act.put, List.setIfInBounds_toArray, List.set_cons_zero, List.set_cons_succ]) | (refine wpX_w undef (Or.inr ⟨by rfl, rfl⟩) ?_; simp only [Act.put, List.setIfInBounds_toArray, List.set_cons_zero, List.set_cons_succ]) | (refine wpX_l undef (((Below.refl _ _).drew)) (Or.inr ⟨by rfl, rfl⟩) ?_; simp only [Act.put, List.setIfInBounds_toArray, List.set_cons_zero, List.set_cons_succ]))
      refine wpX_e (by kernel_rfl) (fun K9 hK9 => ?_)
      go_simp
      refine hK9 _ _ ?_
      clear hK9 K9
      refine wpX_nil ?_
      simp only [OnlyN_normal]
      refine hKK _ _ ?_
      clear hKK KK
      go_wp2_with fail
      go_roundw
      case rel =>
        refine ⟨j, by go_num, by omega, by omega, ?_, Fr.drew ((((HFR.out).setCell (p := ⟨g, (j + 1) * 3, none⟩) (.inl rfl) (_)).setCell (p := ⟨g, (j + 1) * 3 + 1, none⟩) (.inl rfl) (_)).setCell (p := ⟨g, (j + 1) * 3 + 2, none⟩) (.inl rfl) (_))⟩
        have hst := ((((((HOW.out).stored ((j + 1) * 3) (.int .i64 y.kind)).1).stored ((j + 1) * 3 + 1) (.string y.text)).1).stored ((j + 1) * 3 + 2) (.int .i64 y.n)).1
        have he : setAll ((shiftAt l x (j + 1)).flatMap Sym.cells) ((j + 1) * 3) (Sym.cells y) = (shiftAt l x j).flatMap Sym.cells := by
          rw [flat_set Sym.cells_length (by omega) _ (j + 1) (by rw [shiftAt_length l x hi2]; omega), HY.out, shiftAt_step l x hj]
        rw [← he]
        exact hst
      case measure => simp [intOf] <;> omega
    · obtain rfl : i = rank cmpSym l x := by omega
      have rmj : Room wr g 27 (c2 * 3) ∧ l.length + 1 ≤ c2 := by
        rcases ownsRow_form HOW.out with ⟨hv, _⟩ | ⟨g', cap, hv, hn, _, hr, _⟩
        · cases hv
        · injection hv with hA _ hc
          injection hA with hA
          injection hA with hA
          subst hA; subst hc
          exact ⟨hr, hn⟩
      obtain ⟨hrm, hcap⟩ := rmj
      obtain ⟨k, hk⟩ : ∃ k, k = rank cmpSym l x := ⟨_, rfl⟩
      rw [← hk] at hi2 hlt ⊢
      obtain ⟨u0, t0⟩ := hrm.cell (i := k * 3) (by omega)
      obtain ⟨u1, t1⟩ := hrm.cell (i := k * 3 + 1) (by omega)
      obtain ⟨u2, t2⟩ := hrm.cell (i := k * 3 + 2) (by omega)
      have x0 := (HFR.out.cell (p := ⟨w.heap.size, 0, none⟩) hk4 (fun h => hgk1 h.symm)).trans z0
      have x1 := (HFR.out.cell (p := ⟨w.heap.size, 1, none⟩) hk4 (fun h => hgk1 h.symm)).trans z1
      have x2 := (HFR.out.cell (p := ⟨w.heap.size, 2, none⟩) hk4 (fun h => hgk1 h.symm)).trans z2
      have b1 : (0 : Int) ≤ (k : Int) := by omega
      have b2 : (k : Int) < (l.length : Int) + 1 := by omega
      have HK := Lib.hid hk
      have hkw : w.heap.size < wr.heap.size := by have := HFR.out.size; omega
      have hbw : b < wr.heap.size := World.block_lt_of_cell? wr _ r0
      clear hrm hk z0 z1 z2
      go_wp2_with fail
      refine wp_region_E (fun w9 => Below wr.heap.size wr w9) [(0, 0), (1, 0), (2, 0), (3, 1), (4, 0), (5, 1), (6, 0), (7, 2)] (by kernel_rfl) (by kernel_rfl) (fun KK hKK => ?_)
      simp only [beside, List.filterMap_cons, List.filterMap_nil, List.getElem?_toArray, List.getElem?_cons_zero, List.getElem?_cons_succ, Option.map_some]
      repeat (first | (refine wpX_w ?_ (Or.inl ⟨by rfl, fun w9 => ?_⟩) ?_; rotate_left 1; go_simp; with_reducible rfl; simp only [Act.put, List.setIfInBounds_toArray, List.set_cons_zero, List.set_cons_succ]) | (refine wpX_l ?_ (((Below.refl _ _).drew)) (Or.inl ⟨by rfl, fun w9 hw9 => ?_⟩) ?_; rotate_left 1; obtain ⟨hc9, hf9⟩ := bcell hw9; go_simp; with_reducible rfl; simp only [Act.put, List.setIfInBounds_toArray, List.set_cons_zero, List.set_cons_succ]) | (refine wpX_w undef (Or.inr ⟨by rfl, rfl⟩) ?_; simp only [Act.put, List.setIfInBounds_toArray, List.set_cons_zero, List.set_cons_succ]) | (refine wpX_l undef (((Below.refl _ _).drew)) (Or.inr ⟨by rfl, rfl⟩) ?_; simp only [Act.put, List.setIfInBounds_toArray, List.set_cons_zero, List.set_cons_succ]))
      refine wpX_e (by kernel_rfl) (fun K9 hK9 => ?_)
      go_simp
      refine hK9 _ _ ?_
      clear hK9 K9
      refine wpX_nil ?_
      simp only [OnlyN_normal]
      refine hKK _ _ ?_
      clear hKK KK
      go_wp2_with fail
      go_ret
      have HOWk := HOW.out
      rw [← HK.out] at HOWk
      have hst := ((((((HOWk).stored (k * 3) (.int .i64 x.kind)).1).stored (k * 3 + 1) (.string x.text)).1).stored (k * 3 + 2) (.int .i64 x.n)).1
      have he : setAll ((shiftAt l x k).flatMap Sym.cells) (k * 3) (Sym.cells x) = (put cmpSym l x).flatMap Sym.cells := by
        rw [flat_set Sym.cells_length (by omega) _ k (by rw [shiftAt_length l x hi2]; omega), shiftAt_end l x hi2, put_eq tc_sym HO.out hh, HK.out]
      have hln := length_put tc_sym HO.out hh
      refine ⟨by rw [hh]; rfl, false, some ⟨g, 0, none⟩, c2, ⟨?_, ?_⟩, ?_, ?_⟩
      · rw [hln]
        exact (((HB4.out.fr HFR.out (fun h => hgb h.symm)).far (p := ⟨g, k * 3, none⟩) (fun h => hgb h.symm) _).far (p := ⟨g, k * 3 + 1, none⟩) (fun h => hgb h.symm) _).far (p := ⟨g, k * 3 + 2, none⟩) (fun h => hgb h.symm) _
      · rw [hln, ← he]
        exact hst
      · exact HF4.out.into (Fr.drew ((((HFR.out).setCell (p := ⟨g, k * 3, none⟩) (.inl rfl) (_)).setCell (p := ⟨g, k * 3 + 1, none⟩) (.inl rfl) (_)).setCell (p := ⟨g, k * 3 + 2, none⟩) (.inl rfl) (_))) (fun k hk => by subst hk; exact HgM.out)
      · exact HgMv.out

theorem put_Sym (b c : Nat) (sn : Bool) (A : Option Addr) (l : List Sym) (x : Sym) (w : World) (hS : SymSet w b sn A c l) (hs : Srt cmpSym l) (hl : (l.length : Int) ≤ 100000000) :
    Calls Try.prog 15 #[.pointer (some ⟨b, 0, none⟩), .agg #[.int .i64 x.kind, .string x.text, .int .i64 x.n]] w (PutPostSym w b sn A l x) := by
  cases hh : has cmpSym l x
  · exact put_new_Sym b c sn A l x w hS hs hl hh
  · exact put_there_Sym b c sn A l x w hS hs hl hh
end Go.Proofs.Ythhhhjllpejpgaa
