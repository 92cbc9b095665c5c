/-
  Texts put together: Sets, FindBnum, OpsBnum, PutBnum, NewBnum, FindSym, OpsSym, PutSym, NewSym, IterBase, SeenFrom, Seq, FindPgR, IterPgR, OpsPgR, ListPgR, SeqP.
-/
import Derived.Test.YtnfgilbaglfkeaaBa
import Derived.Test.YtnfgilbaglfkeaaBb
import Derived.Test.YtnfgilbaglfkeaaBd
import Derived.Test.YtnfgilbaglfkeaaRows
import Derived.Maps.RangeWalk
namespace Go.Proofs.Ytnfgilbaglfkeaa
open Go.RowKit
structure St where
 sn : Bool
 A : Option Addr
 c : Nat
def upd {β : Type} (S : Nat → β) (b : Nat) (l : β) : Nat → β := fun k => if k = b then l else S k
theorem upd_same {β : Type} (S : Nat → β) (b : Nat) (l : β) : upd S b l b = l := by simp [upd]
theorem upd_ne {β : Type} (S : Nat → β) {b k : Nat} (l : β) (h : k ≠ b) : upd S b l k = S k := by simp [upd, h]
structure Sets {α : Type} (tSet tE size : Nat) (cells : α → List Value) (cmp : α → α → Int) (D : Nat → Prop) (w : World) (S : Nat → Option (List α)) (σ : Nat → St) : Prop where
 at_ : ∀ b l, S b = some l → SetAt tSet tE size cells w b (σ b).sn (σ b).A (σ b).c l
 srt : ∀ b l, S b = some l → Srt cmp l
 out : ∀ b l, S b = some l → ¬ D b ∧ ((σ b).sn = false → AIn (σ b).A (fun k => ¬ D k))
 apart : ∀ b l b' l', S b = some l → S b' = some l' → b ≠ b' → (σ b).sn = false → ∀ a a', (σ b).A = some a → (σ b').A = some a' → a.block ≠ a'.block
 low : ∀ k, D k → k < w.heap.size
section
variable {α : Type} {tSet tE size : Nat} {cells : α → List Value} {cmp : α → α → Int} {D D' : Nat → Prop} {w w' : World} {S : Nat → Option (List α)} {σ : Nat → St} {b b' : Nat} {l l' : List α}
theorem SetAt.far {sn : Bool} {A : Option Addr} {c : Nat} (h : SetAt tSet tE size cells w b sn A c l) {sn' : Bool} {A' : Option Addr} {c' : Nat} (h' : SetAt tSet tE size cells w b' sn' A' c' l') (hne : tE ≠ tSet) : AIn A (· ≠ b') := by
 intro a e hb
 have := own_blk_ne h.row h'.blk hne
 subst e
 exact this (by simp [Value.ownBlock, hb])
theorem Sets.start (tSet tE size : Nat) (cells : α → List Value) (cmp : α → α → Int) (w : World) : Sets tSet tE size cells cmp (· < w.heap.size) w (fun _ => none) (fun _ => ⟨false, none, 0⟩) :=
 ⟨fun _ _ h => by simp at h, fun _ _ h => by simp at h, fun _ _ h => by simp at h, fun _ _ _ _ h => by simp at h, fun _ h => h⟩
theorem Sets.lt (h : Sets tSet tE size cells cmp D w S σ) (hb : S b = some l) : b < w.heap.size := (h.at_ b l hb).lt
theorem Sets.below (h : Sets tSet tE size cells cmp D w S σ) (hw : Below w.heap.size w w') : Sets tSet tE size cells cmp D w' S σ :=
 ⟨fun b l hb => (h.at_ b l hb).new_ hw, h.srt, h.out, h.apart, fun k hk => Nat.lt_of_lt_of_le (h.low k hk) hw.size⟩
theorem Sets.weaken (h : Sets tSet tE size cells cmp D w S σ) (hD : ∀ k, D' k → D k) : Sets tSet tE size cells cmp D' w S σ :=
 ⟨h.at_, h.srt, fun b l hb => ⟨fun hk => (h.out b l hb).1 (hD _ hk), fun hs => ((h.out b l hb).2 hs).mono (fun _ hk hd => hk (hD _ hd))⟩, h.apart, fun k hk => h.low k (hD k hk)⟩
theorem Sets.moved (h : Sets tSet tE size cells cmp D w S σ) (hne : tE ≠ tSet) (hb : S b = some l) {sn' : Bool} {A' : Option Addr} {c' : Nat} (h1 : SetAt tSet tE size cells w' b sn' A' c' l') (hs : Srt cmp l')
 (hF : Fr (SetMod b (σ b).sn (σ b).A) w w') (hM : Moved w (σ b).sn (σ b).A sn' A') : Sets tSet tE size cells cmp D w' (upd S b (some l')) (upd σ b ⟨sn', A', c'⟩) := by
 have hB := h.at_ b l hb
 refine ⟨fun k m hk => ?_, fun k m hk => ?_, fun k m hk => ?_, fun k m k' m' hk hk' hkk hsk a a' ha ha' => ?_, fun k hk => Nat.lt_of_lt_of_le (h.low k hk) hF.size⟩
 · by_cases e : k = b
   · subst e; rw [upd_same] at hk ⊢; cases hk; exact h1
   · rw [upd_ne _ _ e] at hk ⊢
     have hK := h.at_ k m hk
     refine hK.fr hF ?_ ?_
     · rintro (hx | ⟨hx, a, ha, hx2⟩)
       · exact e hx
       · exact hB.far hK hne a ha hx2
     · intro a ha hx
       rcases hx with hx | ⟨hx, a2, ha2, hx2⟩
       · exact hK.far hB hne a ha hx
       · exact h.apart b l k m hb hk (Ne.symm e) hx a2 a ha2 ha hx2
 · by_cases e : k = b
   · subst e; rw [upd_same] at hk; cases hk; exact hs
   · rw [upd_ne _ _ e] at hk; exact h.srt k m hk
 · by_cases e : k = b
   · subst e; rw [upd_same] at hk ⊢; cases hk
     refine ⟨(h.out _ _ hb).1, fun hs2 => ?_⟩
     rcases hM with ⟨e1, e2⟩ | ⟨_, g, hg, e2⟩
     · simp only at hs2 ⊢; rw [e2]; exact (h.out _ _ hb).2 (by rw [← e1]; exact hs2)
     · simp only; rw [e2]; intro a ha hd; cases ha; have := h.low _ hd; simp at this; omega
   · rw [upd_ne _ _ e] at hk ⊢; exact h.out k m hk
 · by_cases e : k = b
   · subst e
     have e' : k' ≠ k := Ne.symm hkk
     rw [upd_ne _ _ e'] at hk' ha'
     rw [upd_same] at hsk ha
     simp only at hsk ha
     rcases hM with ⟨e1, e2⟩ | ⟨_, g, hg, e2⟩
     · exact h.apart k l k' m' hb hk' hkk (by rw [← e1]; exact hsk) a a' (by rw [← e2]; exact ha) ha'
     · rw [e2] at ha; cases ha
       have := (h.at_ k' m' hk').row_lt a' ha'
       simp only; omega
   · rw [upd_ne _ _ e] at hk hsk ha
     by_cases e2 : k' = b
     · subst e2
       rw [upd_same] at ha'
       simp only at ha'
       rcases hM with ⟨_, e3⟩ | ⟨_, g, hg, e3⟩
       · exact h.apart k m k' l hk hb hkk hsk a a' ha (by rw [← e3]; exact ha')
       · rw [e3] at ha'; cases ha'
         have := (h.at_ k m hk).row_lt a ha
         simp only; omega
     · rw [upd_ne _ _ e2] at hk' ha'
       exact h.apart k m k' m' hk hk' hkk hsk a a' ha ha'
theorem Sets.seen (h : Sets tSet tE size cells cmp D w S σ) (hne : tE ≠ tSet) (hb : S b = some l) (h1 : SetAt tSet tE size cells w' b true (σ b).A (σ b).c l) (hF : Fr (· = b) w w') :
 Sets tSet tE size cells cmp D w' S (upd σ b ⟨true, (σ b).A, (σ b).c⟩) := by
 have hB := h.at_ b l hb
 refine ⟨fun k m hk => ?_, h.srt, fun k m hk => ?_, fun k m k' m' hk hk' hkk hsk a a' ha ha' => ?_, fun k hk => Nat.lt_of_lt_of_le (h.low k hk) hF.size⟩
 · by_cases e : k = b
   · subst e; rw [upd_same]; rw [hb] at hk; cases hk; exact h1
   · rw [upd_ne _ _ e]
     exact (h.at_ k m hk).fr hF e (fun a ha hx => (h.at_ k m hk).far hB hne a ha hx)
 · refine ⟨(h.out k m hk).1, fun hs => ?_⟩
   by_cases e : k = b
   · subst e; rw [upd_same] at hs; cases hs
   · rw [upd_ne _ _ e] at hs ⊢; exact (h.out k m hk).2 hs
 · by_cases e : k = b
   · subst e; rw [upd_same] at hsk; cases hsk
   · rw [upd_ne _ _ e] at hsk ha
     by_cases e2 : k' = b
     · subst e2; rw [upd_same] at ha'; exact h.apart k m k' m' hk hk' hkk hsk a a' ha ha'
     · rw [upd_ne _ _ e2] at ha'; exact h.apart k m k' m' hk hk' hkk hsk a a' ha ha'
theorem Sets.add (h : Sets tSet tE size cells cmp D w S σ) {k : Nat} {sn' : Bool} {A' : Option Addr} {c' : Nat} (hk : w.heap.size ≤ k) (h1 : SetAt tSet tE size cells w' k sn' A' c' l') (hs : Srt cmp l')
 (hA : AIn A' (w.heap.size ≤ ·) ∨ (sn' = true ∧ ∃ b l, S b = some l ∧ (σ b).sn = true ∧ (σ b).A = A')) (hF : Below w.heap.size w w') : Sets tSet tE size cells cmp D w' (upd S k (some l')) (upd σ k ⟨sn', A', c'⟩) := by
 have hnk : ∀ b l, S b = some l → b ≠ k := fun b l hb e => by have := h.lt hb; omega
 refine ⟨fun b m hb => ?_, fun b m hb => ?_, fun b m hb => ?_, fun b m b' m' hb hb' hkk hsk a a' ha ha' => ?_, fun k hk => Nat.lt_of_lt_of_le (h.low k hk) hF.size⟩
 · by_cases e : b = k
   · subst e; rw [upd_same] at hb ⊢; cases hb; exact h1
   · rw [upd_ne _ _ e] at hb ⊢; exact (h.at_ b m hb).new_ hF
 · by_cases e : b = k
   · subst e; rw [upd_same] at hb; cases hb; exact hs
   · rw [upd_ne _ _ e] at hb; exact h.srt b m hb
 · by_cases e : b = k
   · subst e; rw [upd_same] at hb ⊢; cases hb
     refine ⟨fun hd => by have := h.low _ hd; omega, fun hs2 a ha hd => ?_⟩
     have h3 := h.low _ hd
     rcases hA with hA | ⟨hA, _⟩
     · have := hA a ha; omega
     · simp only at hs2; rw [hA] at hs2; cases hs2
   · rw [upd_ne _ _ e] at hb ⊢; exact h.out b m hb
 · by_cases e : b = k
   · subst e
     rw [upd_ne _ _ (Ne.symm hkk)] at hb' ha'
     rw [upd_same] at hsk ha
     simp only at hsk ha
     have h3 := (h.at_ b' m' hb').row_lt a' ha'
     rcases hA with hA | ⟨hA, _⟩
     · have := hA a ha; omega
     · rw [hA] at hsk; cases hsk
   · rw [upd_ne _ _ e] at hb hsk ha
     have h3 := (h.at_ b m hb).row_lt a ha
     by_cases e2 : b' = k
     · subst e2
       rw [upd_same] at ha'
       simp only at ha'
       rcases hA with hA | ⟨_, b2, l2, hb2, hs2, hA⟩
       · have := hA a' ha'; omega
       · by_cases e3 : b = b2
         · subst e3; rw [hsk] at hs2; cases hs2
         · exact h.apart b m b2 l2 hb hb2 e3 hsk a a' ha (hA.trans ha')
     · rw [upd_ne _ _ e2] at hb' ha'
       exact h.apart b m b' m' hb hb' hkk hsk a a' ha ha'
end
end Go.Proofs.Ytnfgilbaglfkeaa
namespace Go.Proofs.Ytnfgilbaglfkeaa
open Go.RowKit
abbrev BnumSet := SetAt (α := Bnum) 125 83 1 Bnum.cells
theorem nilAhead_Bnum (k0 : Int) (w : World) : (nilAhead 306 83 (.int .i64 k0) "Compare").run Try.prog w = .ok (some false) w := by kernel_rfl
theorem method_Bnum (k0 : Int) (w : World) : (method 306 83 (.int .i64 k0) "Compare").run Try.prog w = .ok (117, .int .i64 k0) w := by kernel_rfl
def FoundBnum (l : List Bnum) (x : Bnum) (w : World) (e : Ending) (w' : World) : Prop :=
 e = .returned (.tuple #[.int .i64 (rank cmpBnum l x), .bool (has cmpBnum l x)]) ∧ Below w.heap.size w w'
set_option maxRecDepth 100000 in
set_option maxHeartbeats 4000000 in
theorem find_Bnum (b c : Nat) (sn : Bool) (A : Option Addr) (l : List Bnum) (x : Bnum) (w : World) (hS : BnumSet w b sn A c l) (hs : Srt cmpBnum l) (hl : (l.length : Int) ≤ 4611686018427387904) :
 Calls Try.prog 59 #[.pointer (some ⟨b, 0, none⟩), .int .i64 x] w (FoundBnum l x w) := by
 have hrd := hS.rd Bnum.cells_length
 have h0 := hS.cell0
 have hb := hS.lt
 clear hS
 have HS := Lib.hid hs
 have HRD := Lib.hid hrd
 clear hs hrd
 go_enter Try.func59, Try.ntmps59
 go_wp2_with fail
 go_quiet (fail)
 go_wp2_with fail
 obtain ⟨W0, hW0⟩ : ∃ W0, W0 = (w.drewN nq) := ⟨_, rfl⟩
 have hB0 : Below w.heap.size w W0 := by rw [hW0]; exact Below.drewN' (Below.refl _ _) _
 rw [← hW0]
 clear hW0
 have HB0 := Lib.hid hB0
 clear hB0
 go_loopw [6, 7] (fun lo hi wr => ∃ i j : Nat, lo = .int .i64 i ∧ hi = .int .i64 j ∧ i ≤ j ∧ j ≤ l.length ∧ (∀ k, (h : k < l.length) → k < i → cmpBnum l[k] x < 0) ∧ (∀ k, (h : k < l.length) → j ≤ k → 0 < cmpBnum l[k] x) ∧ Below W0.heap.size W0 wr) (fun lo hi wr => (intOf hi).toNat - (intOf lo).toNat)
 case atStart => exact ⟨0, l.length, rfl, rfl, Nat.zero_le _, Nat.le_refl _, fun k _ h => absurd h (by omega), fun k h h' => absurd h (by omega), Below.refl _ _⟩
 case round =>
  obtain ⟨i, j, rfl, rfl, hij, hj, hlo, hhi, hB⟩ := hrel
  have HLO := Lib.hid hlo
  have HHI := Lib.hid hhi
  clear hlo hhi
  have hsz : w.heap.size ≤ W0.heap.size := HB0.out.size
  by_cases hlt : i < j
  · obtain ⟨m, hm⟩ : ∃ m, m = i + (j - i) / 2 := ⟨_, rfl⟩
    have hml : m < l.length := by omega
    have hmj : m < j := by omega
    have hmi : i ≤ m := by omega
    have e1 : ((i : Int) + ((j : Int) - (i : Int)) / 2) = (m : Int) := by omega
    have E1 := Lib.hid e1
    clear e1 hm
    obtain ⟨g, off, rfl, hgs, hcell⟩ := HRD.out.at_ hml
    have low : ∀ (p : Addr), p.block < w.heap.size → wr.cell? p = w.cell? p := fun p hp => (hB.cell (p := p) (by omega)).trans (HB0.out.cell (p := p) hp)
    have r0 := (low ⟨b, 0, none⟩ hb).trans h0
    have q0 : wr.cell? ⟨g, off + m, none⟩ = some (.int .i64 l[m]) := (low ⟨g, off + m, none⟩ hgs).trans (by simpa using hcell 0 _ rfl)
    have b1 : (0 : Int) ≤ (m : Int) := by omega
    have b2 : (m : Int) < (l.length : Int) := by omega
    have hsw : W0.heap.size ≤ wr.heap.size := hB.size
    have N := nilAhead_Bnum
    have M := method_Bnum
    clear low hcell h0
    have HB := Lib.hid hB
    clear hB
    obtain ⟨y, hy⟩ : ∃ y, y = l[m] := ⟨_, rfl⟩
    rw [← hy] at q0
    have HY := Lib.hid hy
    clear hy
    have hbw : b < wr.heap.size := by omega
    have hgw : g < wr.heap.size := by omega
    go_upto_region 4 with (fail)
    rw [E1.out]
    go_wp2_with fail
    refine (cmp_bnum y x _).mono ?_
    rintro e w1 ⟨rfl, hb1⟩
    have HB1 : Below W0.heap.size W0 w1 := HB.out.trans (hb1.mono hsw)
    clear r0 q0 N M
    have HB1' := Lib.hid HB1
    clear HB1
    by_cases hc : cmpBnum y x = 0
    · have HC := Lib.hid hc
      have t1 : (cmpBnum y x == 0) = true := by simp [hc]
      clear hc
      go_wp2_with fail
      go_ret2
      have e := HC.out
      rw [HY.out] at e
      refine ⟨?_, HB0.out.trans (HB1'.out.mono (by omega))⟩
      rw [rank_some tc_bnum HS.out hml e, (at_some tc_bnum HS.out hml e).2.2.1]
      rfl
    · have t1 : (cmpBnum y x == 0) = false := by simp [hc]
      by_cases hc2 : cmpBnum y x < 0
      · have HC := Lib.hid hc2
        have t2 : decide (cmpBnum y x < 0) = true := by simpa using hc2
        clear hc hc2
        go_wp2_with fail
        go_roundw
        case rel =>
         refine ⟨m + 1, j, by go_num, rfl, by omega, hj, fun k h1 h2 => ?_, HHI.out, HB1'.out⟩
         have e := HC.out
         rw [HY.out] at e
         rcases Nat.lt_or_ge k m with h3 | h3
         · exact tc_bnum.lt_of_lt_of_le (HS.out.lt h3 hml) (by omega)
         · obtain rfl : k = m := by omega
           exact e
        case measure => simp [intOf]; omega
      · have t2 : decide (cmpBnum y x < 0) = false := by simpa using hc2
        have hc3 : 0 < cmpBnum y x := by omega
        have HC := Lib.hid hc3
        clear hc hc2 hc3
        go_wp2_with fail
        go_roundw
        case rel =>
         refine ⟨i, m, rfl, rfl, by omega, by omega, HLO.out, fun k h1 h2 => ?_, HB1'.out⟩
         have e := HC.out
         rw [HY.out] at e
         rcases Nat.lt_or_ge m k with h3 | h3
         · exact (tc_bnum.symm _ _).1 (tc_bnum.lt_trans ((tc_bnum.symm _ _).2 e) (HS.out.lt h3 h1))
         · obtain rfl : k = m := by omega
           exact e
        case measure => simp [intOf]; omega
  · obtain rfl : i = j := by omega
    have HB := Lib.hid hB
    clear hB
    go_wp2_with fail
    go_ret2
    refine ⟨?_, HB0.out.trans (HB.out.mono (by omega))⟩
    rw [rank_none hj HLO.out HHI.out, (at_none HLO.out HHI.out).2.2]
    rfl
end Go.Proofs.Ytnfgilbaglfkeaa
namespace Go.Proofs.Ytnfgilbaglfkeaa
open Go.RowKit
theorem info_Bnum : (Try.prog.info? 83).map (fun i => (i.zero, i.size, i.bytes)) = some (some (.int .i64 0), 1, 8) := by kernel_rfl
theorem Bnum.one (x : Bnum) : ∀ u ∈ Bnum.cells x, u.oneCell' = true := by intro u hu; simp [Bnum.cells] at hu; rcases hu with rfl <;> rfl
theorem Bnum.oneAll (l : List Bnum) : ∀ u ∈ l.flatMap Bnum.cells, u.oneCell' = true := by intro u hu; obtain ⟨x, _, hx⟩ := List.mem_flatMap.1 hu; exact Bnum.one x u hx
def OwnPostBnum (w : World) (b : Nat) (sn : Bool) (A : Option Addr) (l : List Bnum) (e : Ending) (w' : World) : Prop :=
 e = .returned (.tuple #[]) ∧ ∃ A' c', BnumSet w' b false A' c' l ∧ Fr (· = b) w w' ∧ Moved w sn A false A'
set_option maxRecDepth 100000 in
set_option maxHeartbeats 1000000 in
theorem own_no_Bnum (b c : Nat) (A : Option Addr) (l : List Bnum) (w : World) (hS : BnumSet w b false A c l) :
 Calls Try.prog 60 #[.pointer (some ⟨b, 0, none⟩)] w (OwnPostBnum w b false A l) := by
 have h1 := hS.cell1
 have HS := Lib.hid hS
 clear hS
 go_enter Try.func60, Try.ntmps60
 go_wp2
 go_end0
 exact ⟨rfl, A, c, HS.out, Fr.refl _ _, .inl ⟨rfl, rfl⟩⟩
set_option maxRecDepth 100000 in
set_option maxHeartbeats 1000000 in
theorem own_yes_Bnum (b c : Nat) (A : Option Addr) (l : List Bnum) (w : World) (hS : BnumSet w b true A c l) (hl : (l.length : Int) ≤ 1000000000) :
 Calls Try.prog 60 #[.pointer (some ⟨b, 0, none⟩)] w (OwnPostBnum w b true A l) := by
 obtain ⟨i0, hi, hz0, hz1, hz2⟩ := info_parts info_Bnum
 have h0 := hS.cell0
 have h1 := hS.cell1
 have hb := hS.lt
 have f0 := hS.blk.frozen 0
 have f1 := hS.blk.frozen 1
 have hrd := hS.rd Bnum.cells_length
 have HB := Lib.hid hS.blk
 have HRD := Lib.hid hrd
 clear hS hrd
 have e1 : IntKind.i64.wrap ((l.length : Int) + 1) = (l.length : Int) + 1 := IntWalk.i64_in _ (by omega)
 have hmk : ∀ W : World, (Instr.makeSlice 123 (.int .i64 0) (.int .i64 ((l.length : Int) + 1))).run Try.prog W = .ok (.slice (some ⟨W.heap.size, 0, none⟩) 0 (l.length + 1)) (W.alloc (.cells (madeCells (Value.cells (.int .i64 0)) ((l.length + 1))) 83)) := fun W => by
  have h := run_make (P := Try.prog) W 123 83 i0 _ Try.underlying123 hi hz0 .i64 .i64 0 ((l.length : Int) + 1) (by omega) (by omega) (by rw [hz2]; omega) (by omega)
  rw [hz1] at h
  simpa [show ((l.length : Int) + 1).toNat = l.length + 1 by omega] using h
 go_enter Try.func60, Try.ntmps60
 go_wp2_with fail
 refine wp_region_E (fun w9 => Below w.heap.size w w9) [(0, 0), (1, 0), (2, 0), (3, 0), (4, 1), (5, 0), (6, 0), (8, 0), (9, 0), (10, 0), (11, 1), (7, 2), (12, 2), (13, 0), (14, 0), (15, 2)] (by kernel_rfl) (by kernel_rfl) (fun KK hKK => ?_)
 simp only [beside, List.filterMap_cons, List.filterMap_nil, List.getElem?_toArray, List.getElem?_cons_zero, List.getElem?_cons_succ, Option.map_some]
 repeat ((first | (refine wpX_w ?_ (Or.inl ⟨by rfl, fun w9 => ?_⟩) ?_; rotate_left 1; go_simp; with_reducible rfl) | (refine wpX_l ?_ (((Below.refl _ _).drew)) (Or.inl ⟨by rfl, fun w9 hw9 => ?_⟩) ?_; rotate_left 1; obtain ⟨hc9, hf9⟩ := bcell hw9; go_simp; with_reducible rfl) | refine wpX_w undef (Or.inr ⟨by rfl, rfl⟩) ?_ | refine wpX_l undef (((Below.refl _ _).drew)) (Or.inr ⟨by rfl, rfl⟩) ?_); go_frame)
 refine wpX_es (fun K9 hK9 => ?_)
 go_simp
 refine hK9 _ _ (((Below.refl _ _).drew).alloc (Nat.le_refl _) _) ?_
 clear hK9 K9
 refine wpX_e (by kernel_rfl) (fun K9 hK9 => ?_)
 refine step_append_src _ (by rfl) _ _ _ (by rfl) 83 i0 _ 1 8 Try.underlying123 hi hz0 hz1 hz2 rfl (by omega) _ 0 [] (by rfl) (World.ownsRow_made _ _ _ (Nat.zero_le _) (by unfold maxLen; omega) (by simp [madeCells])) A l.length c (l.flatMap Bnum.cells) (by rfl) (flat_length Bnum.cells_length l)
  ((HRD.out.drew.alloc _).news Bnum.cells_length (by omega)) (Bnum.oneAll l) (by unfold maxLen; omega) (by omega) ?_
 intro v2 w2 hown hgr hnil hat
 refine hK9 _ _ ?_
 clear hK9 K9
 rw [Nat.zero_add, List.nil_append] at hown
 obtain ⟨A', c', rfl, _, _, hz⟩ := own_form2 hown
 have HB1 := (HB.out.drew.alloc (.cells (madeCells (Value.cells (.int .i64 0)) ((l.length + 1))) 83)).grown hgr (by simp [Value.ownBlock]; omega)
 have c0 := (HB1.cell 0).trans rfl
 have c1 := (HB1.cell 1).trans rfl
 have z0 := HB1.frozen 0
 have z1 := HB1.frozen 1
 have HB2 := Lib.hid HB1
 clear HB1
 repeat ((first | (refine wpX_w ?_ (Or.inl ⟨by rfl, fun w9 => ?_⟩) ?_; rotate_left 1; go_simp; with_reducible rfl) | (refine wpX_l ?_ (((Below.refl _ _).drew).alloc (Nat.le_refl _) _) (Or.inl ⟨by rfl, fun w9 hw9 => ?_⟩) ?_; rotate_left 1; obtain ⟨hc9, hf9⟩ := bcell hw9; go_simp; with_reducible rfl) | refine wpX_w undef (Or.inr ⟨by rfl, rfl⟩) ?_ | refine wpX_l undef (((Below.refl _ _).drew).alloc (Nat.le_refl _) _) (Or.inr ⟨by rfl, rfl⟩) ?_); go_frame)
 refine wpX_e (by kernel_rfl) (fun K9 hK9 => ?_)
 go_simp
 refine hK9 _ _ ?_
 clear hK9 K9
 refine wpX_nil ?_
 simp only [OnlyN_normal]
 refine hKK _ _ ?_
 clear hKK KK
 go_wp2
 go_end0
 have hb2 : (Value.slice A' l.length c').ownBlock = some w.heap.size ∨ (Value.slice A' l.length c').ownBlock = some (w.heap.size + 1) := by
  rcases hat with h | h
  · left; rw [h]; rfl
  · right; rw [h]; simp
 have hA : ∃ g, w.heap.size ≤ g ∧ A' = some ⟨g, 0, none⟩ := by
  rcases A' with _ | a
  · exfalso; simp [Value.ownBlock] at hb2
  · obtain ⟨g, rfl⟩ := hz a rfl
    refine ⟨g, ?_, rfl⟩
    simp [Value.ownBlock] at hb2
    omega
 obtain ⟨g, hg, rfl⟩ := hA
 have HB1 := HB2.out
 have HF : Fr (· = b) w w2 := ((Fr.refl (· = b) w).drew.alloc _).grown hgr (fun k e => by simp [Value.ownBlock] at e; right; omega)
 refine ⟨rfl, some ⟨g, 0, none⟩, c', ⟨(HB1.set_ 0 _).set_ 1 _, ?_⟩, (HF.setCell (p := ⟨b, 0, none⟩) (.inl rfl) _).setCell (p := ⟨b, 1, none⟩) (.inl rfl) _, .inr ⟨rfl, g, hg, rfl⟩⟩
 have hne : (Value.slice (some ⟨g, 0, none⟩) l.length c').ownBlock ≠ some b := by simp [Value.ownBlock]; omega
 exact ownsRow_setCell_other (a := ⟨b, 1, none⟩) (ownsRow_setCell_other (a := ⟨b, 0, none⟩) hown hne _) hne _
theorem own_Bnum (b c : Nat) (sn : Bool) (A : Option Addr) (l : List Bnum) (w : World) (hS : BnumSet w b sn A c l) (hl : (l.length : Int) ≤ 1000000000) :
 Calls Try.prog 60 #[.pointer (some ⟨b, 0, none⟩)] w (OwnPostBnum w b sn A l) := by
 cases sn
 · exact own_no_Bnum b c A l w hS
 · exact own_yes_Bnum b c A l w hS hl
end Go.Proofs.Ytnfgilbaglfkeaa
namespace Go.Proofs.Ytnfgilbaglfkeaa
open Go.RowKit
def PutPostBnum (w : World) (b : Nat) (sn : Bool) (A : Option Addr) (l : List Bnum) (x : Bnum) (e : Ending) (w' : World) : Prop :=
 e = .returned (.bool (!has cmpBnum l x)) ∧ ∃ sn' A' c', BnumSet w' b sn' A' c' (put cmpBnum l x) ∧ Fr (SetMod b sn A) w w' ∧ Moved w sn A sn' A'
set_option maxRecDepth 100000 in
set_option maxHeartbeats 1000000 in
theorem put_there_Bnum (b c : Nat) (sn : Bool) (A : Option Addr) (l : List Bnum) (x : Bnum) (w : World) (hS : BnumSet w b sn A c l) (hs : Srt cmpBnum l) (hl : (l.length : Int) ≤ 100000000) (hh : has cmpBnum l x = true) :
 Calls Try.prog 36 #[.pointer (some ⟨b, 0, none⟩), .int .i64 x] w (PutPostBnum w b sn A l x) := by
 have HS := Lib.hid hS
 have HO := Lib.hid hs
 clear hS hs
 go_enter Try.func36, Try.ntmps36
 go_wp2_with fail
 refine (find_Bnum b c sn A l x _ (HS.out.new_ (Below.refl _ _)) HO.out (by omega)).mono ?_
 rintro e w1 ⟨rfl, hb1⟩
 go_wp2_with fail
 go_ret
 refine ⟨by rw [hh]; rfl, sn, A, c, ?_, Fr.of_new ((Below.refl _ _).trans (hb1.mono (by simp))), .inl ⟨rfl, rfl⟩⟩
 rw [put_has hh]
 exact HS.out.new_ ((Below.refl _ _).trans (hb1.mono (by simp)))
set_option maxRecDepth 100000 in
set_option maxHeartbeats 4000000 in
theorem put_new_Bnum (b c : Nat) (sn : Bool) (A : Option Addr) (l : List Bnum) (x : Bnum) (w : World) (hS : BnumSet w b sn A c l) (hs : Srt cmpBnum l) (hl : (l.length : Int) ≤ 100000000) (hh : has cmpBnum l x = false) :
 Calls Try.prog 36 #[.pointer (some ⟨b, 0, none⟩), .int .i64 x] w (PutPostBnum w b sn A l x) := by
 obtain ⟨i0, hi, hz0, hz1, hz2⟩ := info_parts info_Bnum
 have HS := Lib.hid hS
 have HO := Lib.hid hs
 have hb := hS.lt
 clear hS hs
 have hrk := rank_le (cmp := cmpBnum) l x
 go_enter Try.func36, Try.ntmps36
 go_wp2_with fail
 have hSa := HS.out.new_ (Below.refl w.heap.size w)
 have HSa := Lib.hid hSa
 clear hSa
 refine (find_Bnum b c sn A l x _ HSa.out HO.out (by omega)).mono ?_
 rintro e w1 ⟨rfl, hb1⟩
 have HS1 := Lib.hid (HSa.out.new_ hb1)
 have hsz1 : w.heap.size ≤ w1.heap.size := by have := hb1.size; (try simp at this); omega
 have HB1 := Lib.hid hb1
 clear hb1
 go_wp2_with fail
 refine (own_Bnum b c sn A l _ HS1.out (by omega)).mono ?_
 rintro e w2 ⟨rfl, A1, c1, hS2, hF2, hM2⟩
 have hsz2 : w1.heap.size ≤ w2.heap.size := hF2.size
 have s0 := hS2.cell0
 have f0 := hS2.blk.frozen 0
 have hb2 : b < w2.heap.size := by omega
 have HS2 := Lib.hid hS2
 have HF2 := Lib.hid hF2
 have HM2 := Lib.hid hM2
 clear hS2 hF2 hM2 
 go_upto_region 8 with
  (at_builtin; refine wpList_append_src (w2.alloc (.cells #[Value.int IntKind.i64 x] 83)) rfl (.tmp 23) (.tmp 25) 123 rfl 83 i0 _ 1 8 Try.underlying123 hi hz0 hz1 hz2 rfl (by omega) (.slice A1 l.length c1) l.length (l.flatMap Bnum.cells) rfl (ownsRow_new HS2.out.row ((Below.refl _ _).alloc (Nat.le_refl _) _)) (some ⟨w2.heap.size, 0, none⟩) 1 1 (Bnum.cells x) rfl rfl (fun _ => ⟨_, rfl, World.news_of_block (heap_alloc_new _ _)⟩) (Bnum.one x) (by unfold maxLen; omega) (by omega) ?_;
   intro v2 w3 hown hgr hnil hat;
   obtain ⟨g, c2, rfl⟩ : ∃ g c2, v2 = .slice (some ⟨g, 0, none⟩) (l.length + 1) c2 := (by
    rcases ownsRow_form hown with ⟨_, h0, _⟩ | ⟨g, c2, h, _⟩
    · omega
    · exact ⟨g, c2, h⟩);
   have HB3' := (HS2.out.blk.alloc (.cells #[Value.int IntKind.i64 x] 83)).grown hgr (own_blk_ne HS2.out.row HS2.out.blk (by decide));
   have c0 := (HB3'.cell 0).trans rfl;
   have z0 := HB3'.frozen 0;
   have HB3 := Lib.hid HB3';
   have HOWN := Lib.hid hown;
   have HGR := Lib.hid hgr;
   clear HB3' hown hgr)
 have hlg : ((l.length + 1 : Nat) : Int) = (l.length : Int) + 1 := by omega
 have hG : (SetMod b sn A g ∨ w.heap.size ≤ g) ∧ Moved w sn A false (some ⟨g, 0, none⟩) ∧ True ∧ g ≠ b := by
  rcases hat with h | h
  · rcases A1 with _ | a1
    · simp [Value.ownBlock] at h
    · obtain ⟨A', c', hv, _, _, hz⟩ := own_form2 HS2.out.row
      injection hv with hv _ _
      obtain ⟨g', rfl⟩ := hz a1 hv.symm
      have hgg : g' = g := by simpa [Value.ownBlock] using h.symm
      subst hgg
      have hne : g' ≠ b := HS2.out.row_ne (by decide) _ rfl
      rcases HM2.out with ⟨hsn, hA⟩ | ⟨_, g2, hg2, hA⟩
      · have h1 := HS.out.row_lt _ hA.symm
        exact ⟨.inl (.inr ⟨hsn.symm, _, hA.symm, rfl⟩), .inl ⟨hsn, hA⟩, True.intro, hne⟩
      · injection hA with hA
        injection hA with hA
        subst hA
        exact ⟨.inr (by omega), .inr ⟨rfl, _, by omega, rfl⟩, True.intro, hne⟩
  · have hgg : g = w2.heap.size + 1 := by simpa [Value.ownBlock] using h
    subst hgg
    exact ⟨.inr (by omega), .inr ⟨rfl, _, by omega, rfl⟩, True.intro, by omega⟩
 obtain ⟨hgM, hgMv, hgk1, hgb⟩ := hG
 obtain ⟨w4, hw4⟩ : ∃ w4, w4 = w3.setCell ⟨b, 0, none⟩ (.slice (some ⟨g, 0, none⟩) (l.length + 1) c2) := ⟨_, rfl⟩
 have hB4 : Blk w4 b 125 #[.slice (some ⟨g, 0, none⟩) (l.length + 1) c2, .bool false] := by rw [hw4]; exact HB3.out.set_ 0 _
 have hR4 : w4.ownsRow 0 83 1 (.slice (some ⟨g, 0, none⟩) (l.length + 1) c2) (l.length + 1) ((shiftAt l x l.length).flatMap Bnum.cells) := by
  rw [hw4, shiftAt_start]
  refine ownsRow_setCell_other (a := ⟨b, 0, none⟩) ?_ (by simpa [Value.ownBlock] using hgb) _
  rw [List.flatMap_append, List.flatMap_singleton]
  exact HOWN.out
 have hF4 : Fr (SetMod b sn A) w w4 := by
  rw [hw4]
  have h1 : Fr (SetMod b sn A) w w1 := Fr.of_new ((Below.refl _ _).trans (HB1.out.mono (by simp)))
  have h2 : Fr (SetMod b sn A) w w2 := h1.trans (HF2.out.mono (fun k _ h => .inl h))
  refine ((h2.alloc _).grown HGR.out (fun k hk => ?_)).setCell (p := ⟨b, 0, none⟩) (.inl (.inl rfl)) _
  rcases A1 with _ | a1
  · cases hk
  · simp only [Value.ownBlock, Option.some.injEq] at hk
    subst hk
    rcases HM2.out with ⟨hsn, hA⟩ | ⟨_, g', hg', hA⟩
    · left; right; exact ⟨hsn.symm, a1, hA.symm, rfl⟩
    · injection hA with hA
      subst hA
      right; dsimp only; omega
 rw [← hw4]
 have HgM := Lib.hid hgM
 have HgMv := Lib.hid hgMv
 have HB4 := Lib.hid hB4
 have HR4 := Lib.hid hR4
 have HF4 := Lib.hid hF4
 have s4 := hB4.cell 0
 have s4' : w4.cell? ⟨b, 0, none⟩ = some (.slice (some ⟨g, 0, none⟩) (l.length + 1) c2) := s4
 clear s4 hw4 hB4 hR4 hF4 hat hgM hgMv hnil  s0 f0
 go_wp2_with fail
 go_loopw [7] (fun s wr => ∃ i : Nat, s = .int .i64 i ∧ rank cmpBnum l x ≤ i ∧ i ≤ l.length ∧ wr.ownsRow 0 83 1 (.slice (some ⟨g, 0, none⟩) (l.length + 1) c2) (l.length + 1) ((shiftAt l x i).flatMap Bnum.cells) ∧ Fr (· = g) w4 wr) (fun s wr => (intOf s).toNat)
 case atStart => exact ⟨l.length, by go_num, hrk, Nat.le_refl _, HR4.out, Fr.refl _ _⟩
 case round =>
  obtain ⟨i, rfl, hi1, hi2, hown, hfr⟩ := hrel
  have hgw : g < wr.heap.size := (hown.lt g rfl).2
  have r0 : wr.cell? ⟨b, 0, none⟩ = some (.slice (some ⟨g, 0, none⟩) (l.length + 1) c2) := (hfr.cell (p := ⟨b, 0, none⟩) HB4.out.lt (fun h => hgb h.symm)).trans s4'
  have fz : ∀ o, wr.frozen? ⟨g, o, none⟩ = false := fun o => hown.frozenAt o
  have HOW := Lib.hid hown
  have HFR := Lib.hid hfr
  clear hown hfr
  by_cases hlt : rank cmpBnum l x < i
  · obtain ⟨j, rfl⟩ : ∃ j, i = j + 1 := ⟨i - 1, by omega⟩
    have hj : j < l.length := by omega
    have hrd := ownsRow_rd (A := some ⟨g, 0, none⟩) (c := c2) (l := shiftAt l x (j + 1)) Bnum.cells_length (by rw [shiftAt_length l x hi2]; exact HOW.out)
    obtain ⟨g', o', hgo, _, hcell⟩ := hrd.at_ (k := j) (by rw [shiftAt_length l x hi2]; omega)
    injection hgo with hgo
    injection hgo with hg1 hg2
    subst hg1; subst hg2
    rw [shiftAt_read l x hj] at hcell
    have q0 : wr.cell? ⟨g, j, none⟩ = some (.int .i64 l[j]) := by simpa using hcell 0 _ rfl
    have rmj : Room wr g 83 (c2 * 1) ∧ l.length + 1 ≤ c2 := by
     rcases ownsRow_form HOW.out with ⟨hv, _⟩ | ⟨g', cap, hv, hn, _, hr, _⟩
     · cases hv
     · injection hv with hA _ hc
       injection hA with hA
       injection hA with hA
       subst hA; subst hc
       exact ⟨hr, hn⟩
    obtain ⟨hrm, hcap⟩ := rmj
    obtain ⟨u0, t0⟩ := hrm.cell (i := (j + 1)) (by omega)
    have b0 : (0 : Int) ≤ (j : Int) + 1 := by omega
    have b1 : (0 : Int) ≤ (j : Int) := by omega
    have b4 : (j : Int) < (l.length : Int) := by omega
    have b2 : (j : Int) < (l.length : Int) + 1 := by omega
    have b3 : (j : Int) + 1 < (l.length : Int) + 1 := by omega
    have w1 : IntKind.i64.wrap ((j : Int)) = (j : Int) := IntWalk.i64_in _ (by omega)
    have w2 : IntKind.i64.wrap ((j : Int) + 1 - 1) = (j : Int) := by rw [IntWalk.i64_in _ (by omega)]; omega
    clear hcell hrd hrm
    obtain ⟨y, hy⟩ : ∃ y, y = l[j] := ⟨_, rfl⟩
    rw [← hy] at q0
    have HY := Lib.hid hy
    have hbw : b < wr.heap.size := World.block_lt_of_cell? wr _ r0
    clear hy
    go_wp2_with fail
    refine wp_region_E (fun w9 => Below wr.heap.size wr w9) [(0, 0), (1, 0), (2, 0), (3, 1), (4, 0), (5, 0), (6, 0), (7, 0), (8, 1), (9, 0), (10, 0), (11, 0), (12, 1), (13, 0), (14, 2)] (by kernel_rfl) (by kernel_rfl) (fun KK hKK => ?_)
    simp only [beside, List.filterMap_cons, List.filterMap_nil, List.getElem?_toArray, List.getElem?_cons_zero, List.getElem?_cons_succ, Option.map_some]
    repeat ((first | (refine wpX_w ?_ (Or.inl ⟨by rfl, fun w9 => ?_⟩) ?_; rotate_left 1; go_simp; with_reducible rfl) | (refine wpX_l ?_ (((Below.refl _ _).drew)) (Or.inl ⟨by rfl, fun w9 hw9 => ?_⟩) ?_; rotate_left 1; obtain ⟨hc9, hf9⟩ := bcell hw9; go_simp; with_reducible rfl) | refine wpX_w undef (Or.inr ⟨by rfl, rfl⟩) ?_ | refine wpX_l undef (((Below.refl _ _).drew)) (Or.inr ⟨by rfl, rfl⟩) ?_); go_frame)
    refine wpX_e (by kernel_rfl) (fun K9 hK9 => ?_)
    go_simp
    refine hK9 _ _ ?_
    clear hK9 K9
    refine wpX_nil ?_
    simp only [OnlyN_normal]
    refine hKK _ _ ?_
    clear hKK KK
    go_wp2_with fail
    go_roundw
    case rel =>
     refine ⟨j, by go_num, by omega, by omega, ?_, Fr.drew ((HFR.out).setCell (p := ⟨g, (j + 1), none⟩) (.inl rfl) (_))⟩
     have hst := ((HOW.out).stored ((j + 1)) (.int .i64 y)).1
     have he : setAll ((shiftAt l x (j + 1)).flatMap Bnum.cells) ((j + 1)) (Bnum.cells y) = (shiftAt l x j).flatMap Bnum.cells := by
      rw [flat_set1 Bnum.cells_length (by omega) _ (j + 1) (by rw [shiftAt_length l x hi2]; omega), HY.out, shiftAt_step l x hj]
     rw [← he]
     exact hst
    case measure => simp [intOf] <;> omega
  · obtain rfl : i = rank cmpBnum l x := by omega
    have rmj : Room wr g 83 (c2 * 1) ∧ l.length + 1 ≤ c2 := by
     rcases ownsRow_form HOW.out with ⟨hv, _⟩ | ⟨g', cap, hv, hn, _, hr, _⟩
     · cases hv
     · injection hv with hA _ hc
       injection hA with hA
       injection hA with hA
       subst hA; subst hc
       exact ⟨hr, hn⟩
    obtain ⟨hrm, hcap⟩ := rmj
    obtain ⟨k, hk⟩ : ∃ k, k = rank cmpBnum l x := ⟨_, rfl⟩
    rw [← hk] at hi2 hlt ⊢
    obtain ⟨u0, t0⟩ := hrm.cell (i := k) (by omega)
    have b1 : (0 : Int) ≤ (k : Int) := by omega
    have b2 : (k : Int) < (l.length : Int) + 1 := by omega
    have HK := Lib.hid hk
    have hbw : b < wr.heap.size := World.block_lt_of_cell? wr _ r0
    clear hrm hk 
    go_wp2_with fail
    go_ret
    have HOWk := HOW.out
    rw [← HK.out] at HOWk
    have hst := ((HOWk).stored (k) (.int .i64 x)).1
    have he : setAll ((shiftAt l x k).flatMap Bnum.cells) (k) (Bnum.cells x) = (put cmpBnum l x).flatMap Bnum.cells := by
     rw [flat_set1 Bnum.cells_length (by omega) _ k (by rw [shiftAt_length l x hi2]; omega), shiftAt_end l x hi2, put_eq tc_bnum HO.out hh, HK.out]
    have hln := length_put tc_bnum HO.out hh
    refine ⟨by rw [hh]; rfl, false, some ⟨g, 0, none⟩, c2, ⟨?_, ?_⟩, ?_, ?_⟩
    · rw [hln]
      exact (HB4.out.fr HFR.out (fun h => hgb h.symm)).far (p := ⟨g, k, none⟩) (fun h => hgb h.symm) _
    · rw [hln, ← he]
      exact hst
    · exact HF4.out.into (((HFR.out).setCell (p := ⟨g, k, none⟩) (.inl rfl) (_))) (fun k hk => by subst hk; exact HgM.out)
    · exact HgMv.out
theorem put_Bnum (b c : Nat) (sn : Bool) (A : Option Addr) (l : List Bnum) (x : Bnum) (w : World) (hS : BnumSet w b sn A c l) (hs : Srt cmpBnum l) (hl : (l.length : Int) ≤ 100000000) :
 Calls Try.prog 36 #[.pointer (some ⟨b, 0, none⟩), .int .i64 x] w (PutPostBnum w b sn A l x) := by
 cases hh : has cmpBnum l x
 · exact put_new_Bnum b c sn A l x w hS hs hl hh
 · exact put_there_Bnum b c sn A l x w hS hs hl hh
end Go.Proofs.Ytnfgilbaglfkeaa
namespace Go.Proofs.Ytnfgilbaglfkeaa
open Go.RowKit
def NewPostBnum (w : World) (xs : List Bnum) (e : Ending) (w' : World) : Prop :=
 ∃ k, e = .returned (.pointer (some ⟨k, 0, none⟩)) ∧ w.heap.size ≤ k ∧ ∃ sn A c, BnumSet w' k sn A c (puts cmpBnum [] xs) ∧ AIn A (w.heap.size ≤ ·) ∧ Below w.heap.size w w'
set_option maxRecDepth 100000 in
set_option maxHeartbeats 2000000 in
theorem new_Bnum (A : Option Addr) (c : Nat) (xs : List Bnum) (w : World) (hrd : RowRd w 1 Bnum.cells A c xs) (hl : (xs.length : Int) ≤ 10000000) :
 Calls Try.prog 35 #[.slice A xs.length c] w (NewPostBnum w xs) := by
 have HRD := Lib.hid hrd
 clear hrd
 go_enter Try.func35, Try.ntmps35
 go_wp2_with fail
 obtain ⟨W0, hW0⟩ : ∃ W0, W0 = w.alloc (.cells #[.slice none 0 0, .bool false] 125) := ⟨_, rfl⟩
 have hb0 : Below w.heap.size w W0 := by rw [hW0]; exact (Below.refl _ _).alloc (Nat.le_refl _) _
 have hS0 : BnumSet W0 w.heap.size false none 0 [] := ⟨by rw [hW0]; exact Blk.new _ _ _, ⟨by simp, .inl ⟨rfl, rfl⟩⟩⟩
 rw [← hW0]
 clear hW0
 have HB0 := Lib.hid hb0
 have HS0 := Lib.hid hS0
 clear hb0 hS0
 go_loopw [10] (fun s wr => ∃ i : Nat, s = .int .i64 i ∧ i ≤ xs.length ∧ ∃ sn A' c', BnumSet wr w.heap.size sn A' c' (puts cmpBnum [] (xs.take i)) ∧ AIn A' (w.heap.size ≤ ·) ∧ Below w.heap.size w wr) (fun s wr => xs.length - (intOf s).toNat)
 case atStart => exact ⟨0, rfl, Nat.zero_le _, false, none, 0, HS0.out, AIn.none_ _, HB0.out⟩
 case round =>
  obtain ⟨i, rfl, hi, sn, A', c', hS, hA', hB⟩ := hrel
  have HS := Lib.hid hS
  have HA := Lib.hid hA'
  have HB := Lib.hid hB
  clear hS hA' hB
  by_cases hlt : i < xs.length
  · obtain ⟨x, hx⟩ : ∃ x, x = xs[i] := ⟨_, rfl⟩
    obtain ⟨g, off, rfl, hgs, hcell⟩ := (HRD.out.fr (Fr.of_new (M := fun _ => False) HB.out) (fun _ _ h => h)).at_ hlt
    rw [← hx] at hcell
    have q0 : wr.cell? ⟨g, off + i, none⟩ = some (.int .i64 x) := by simpa using hcell 0 _ rfl
    have b1 : (0 : Int) ≤ (i : Int) := by omega
    have b2 : (i : Int) < (xs.length : Int) := by omega
    have HX := Lib.hid hx
    clear hcell hx
    go_wp2_with fail
    have hsr := Srt.puts tc_bnum (xs.take i) (Srt.nil (cmp := cmpBnum))
    have hlen : (((puts cmpBnum [] (xs.take i)).length : Nat) : Int) ≤ 100000000 := by
     have := length_puts_le tc_bnum (xs.take i) (Srt.nil (cmp := cmpBnum))
     simp at this
     omega
    refine (put_Bnum w.heap.size c' sn A' _ x _ (HS.out.new_ (Below.refl _ _)) hsr hlen).mono ?_
    rintro e w1 ⟨rfl, sn2, A2, c2, hS2, hF2, hM2⟩
    have hB1 : Below w.heap.size w w1 := (HB.out).trans (hF2.below (by have := HB.out.size; (try simp); omega) (fun k hk hm => by
     rcases hm with hm | ⟨_, a, ha, hm⟩
     · omega
     · have := HA.out a ha; omega))
    have hA2 : AIn A2 (w.heap.size ≤ ·) := by
     rcases hM2 with ⟨_, rfl⟩ | ⟨_, g2, hg2, rfl⟩
     · exact HA.out
     · intro a ha; cases ha; have := HB.out.size; (try simp at hg2 ⊢); omega
    have HS2 := Lib.hid hS2
    have HB1 := Lib.hid hB1
    have HA2 := Lib.hid hA2
    clear hS2 hB1 hA2 hF2 hM2 hsr hlen q0
    go_wp2_with fail
    go_roundw
    case rel =>
     refine ⟨i + 1, by go_num, by omega, sn2, A2, c2, ?_, HA2.out, HB1.out⟩
     rw [List.take_add_one, List.getElem?_eq_getElem hlt, ← HX.out]
     simp only [Option.toList_some, puts_snoc]
     exact HS2.out
    case measure => simp [intOf] <;> omega
  · have hie : i = xs.length := by omega
    subst hie
    go_wp2_with fail
    go_ret
    refine ⟨w.heap.size, rfl, Nat.le_refl _, sn, A', c', ?_, HA.out, HB.out⟩
    have := HS.out
    rwa [List.take_length] at this
end Go.Proofs.Ytnfgilbaglfkeaa
namespace Go.Proofs.Ytnfgilbaglfkeaa
open Go.RowKit
abbrev SymSet := SetAt (α := Sym) 139 51 3 Sym.cells
theorem nilAhead_Sym (k0 : Int) (k1 : ByteArray) (k2 : Int) (w : World) : (nilAhead 306 51 (.agg #[.int .i64 k0, .string k1, .int .i64 k2]) "Compare").run Try.prog w = .ok (some false) w := by kernel_rfl
theorem method_Sym (k0 : Int) (k1 : ByteArray) (k2 : Int) (w : World) : (method 306 51 (.agg #[.int .i64 k0, .string k1, .int .i64 k2]) "Compare").run Try.prog w = .ok (110, .agg #[.int .i64 k0, .string k1, .int .i64 k2]) w := by kernel_rfl
def FoundSym (l : List Sym) (x : Sym) (w : World) (e : Ending) (w' : World) : Prop :=
 e = .returned (.tuple #[.int .i64 (rank cmpSym l x), .bool (has cmpSym l x)]) ∧ Below w.heap.size w w'
set_option maxRecDepth 100000 in
set_option maxHeartbeats 4000000 in
theorem find_Sym (b c : Nat) (sn : Bool) (A : Option Addr) (l : List Sym) (x : Sym) (w : World) (hS : SymSet w b sn A c l) (hs : Srt cmpSym l) (hl : (l.length : Int) ≤ 4611686018427387904) :
 Calls Try.prog 74 #[.pointer (some ⟨b, 0, none⟩), .agg #[.int .i64 x.kind, .string x.text, .int .i64 x.n]] w (FoundSym l x w) := by
 have hrd := hS.rd Sym.cells_length
 have h0 := hS.cell0
 have hb := hS.lt
 clear hS
 have HS := Lib.hid hs
 have HRD := Lib.hid hrd
 clear hs hrd
 go_enter Try.func74, Try.ntmps74
 go_wp2_with fail
 go_quiet (fail)
 go_wp2_with fail
 obtain ⟨W0, hW0⟩ : ∃ W0, W0 = ((w.alloc (Obj.cells #[Value.int IntKind.i64 x.kind, Value.string x.text, Value.int IntKind.i64 x.n] 51)).drewN nq) := ⟨_, rfl⟩
 have hB0 : Below w.heap.size w W0 := by rw [hW0]; exact Below.drewN' ((Below.refl _ _).alloc (Nat.le_refl _) _) _
 have hx0 : W0.cell? ⟨w.heap.size, 0, none⟩ = some (.int .i64 x.kind) := by rw [hW0]; go_simp
 have hx1 : W0.cell? ⟨w.heap.size, 1, none⟩ = some (.string x.text) := by rw [hW0]; go_simp
 have hx2 : W0.cell? ⟨w.heap.size, 2, none⟩ = some (.int .i64 x.n) := by rw [hW0]; go_simp
 rw [← hW0]
 clear hW0
 have HB0 := Lib.hid hB0
 clear hB0
 go_loopw [6, 7] (fun lo hi wr => ∃ i j : Nat, lo = .int .i64 i ∧ hi = .int .i64 j ∧ i ≤ j ∧ j ≤ l.length ∧ (∀ k, (h : k < l.length) → k < i → cmpSym l[k] x < 0) ∧ (∀ k, (h : k < l.length) → j ≤ k → 0 < cmpSym l[k] x) ∧ Below W0.heap.size W0 wr) (fun lo hi wr => (intOf hi).toNat - (intOf lo).toNat)
 case atStart => exact ⟨0, l.length, rfl, rfl, Nat.zero_le _, Nat.le_refl _, fun k _ h => absurd h (by omega), fun k h h' => absurd h (by omega), Below.refl _ _⟩
 case round =>
  obtain ⟨i, j, rfl, rfl, hij, hj, hlo, hhi, hB⟩ := hrel
  have HLO := Lib.hid hlo
  have HHI := Lib.hid hhi
  clear hlo hhi
  have hsz : w.heap.size < W0.heap.size := World.block_lt_of_cell? W0 _ hx0
  by_cases hlt : i < j
  · obtain ⟨m, hm⟩ : ∃ m, m = i + (j - i) / 2 := ⟨_, rfl⟩
    have hml : m < l.length := by omega
    have hmj : m < j := by omega
    have hmi : i ≤ m := by omega
    have e1 : ((i : Int) + ((j : Int) - (i : Int)) / 2) = (m : Int) := by omega
    have E1 := Lib.hid e1
    clear e1 hm
    obtain ⟨g, off, rfl, hgs, hcell⟩ := HRD.out.at_ hml
    have low : ∀ (p : Addr), p.block < w.heap.size → wr.cell? p = w.cell? p := fun p hp => (hB.cell (p := p) (by omega)).trans (HB0.out.cell (p := p) hp)
    have r0 := (low ⟨b, 0, none⟩ hb).trans h0
    have q0 := (low ⟨g, off + m * 3, none⟩ hgs).trans (hcell 0 _ rfl)
    have q1 := (low ⟨g, off + m * 3 + 1, none⟩ hgs).trans (hcell 1 _ rfl)
    have q2 := (low ⟨g, off + m * 3 + 2, none⟩ hgs).trans (hcell 2 _ rfl)
    have y0 := (hB.cell (p := ⟨w.heap.size, 0, none⟩) hsz).trans hx0
    have y1 := (hB.cell (p := ⟨w.heap.size, 1, none⟩) hsz).trans hx1
    have y2 := (hB.cell (p := ⟨w.heap.size, 2, none⟩) hsz).trans hx2
    have b1 : (0 : Int) ≤ (m : Int) := by omega
    have b2 : (m : Int) < (l.length : Int) := by omega
    have hsw : W0.heap.size ≤ wr.heap.size := hB.size
    have N := nilAhead_Sym
    have M := method_Sym
    clear low hcell hx0 hx1 hx2 h0
    have HB := Lib.hid hB
    clear hB
    obtain ⟨y, hy⟩ : ∃ y, y = l[m] := ⟨_, rfl⟩
    rw [← hy] at q0 q1 q2
    have HY := Lib.hid hy
    clear hy
    have hbw : b < wr.heap.size := by omega
    have hgw : g < wr.heap.size := by omega
    have hww : w.heap.size < wr.heap.size := by omega
    go_wp2_with fail
    rw [E1.out]
    go_region_held3 (fun w' => w'.cell? ⟨b, 0, none⟩ = some (.slice (some ⟨g, off, none⟩) l.length c) ∧ w'.cell? ⟨g, off + m * 3, none⟩ = some (.int .i64 y.kind) ∧ w'.cell? ⟨g, off + m * 3 + 1, none⟩ = some (.string y.text) ∧ w'.cell? ⟨g, off + m * 3 + 2, none⟩ = some (.int .i64 y.n) ∧ w'.cell? ⟨w.heap.size, 0, none⟩ = some (.int .i64 x.kind) ∧ w'.cell? ⟨w.heap.size, 1, none⟩ = some (.string x.text) ∧ w'.cell? ⟨w.heap.size, 2, none⟩ = some (.int .i64 x.n))
     (first | go_keep | (refine ⟨?_, ?_, ?_, ?_, ?_, ?_, ?_⟩ <;> exact (hb1.cell (by simpa using by assumption)).trans (by simp [*])))
     ((go_at_call 110; refine (cmp_sym y x _).mono ?_; rintro e w1 ⟨rfl, hb1⟩))
    have HB1 : Below W0.heap.size W0 w1 := HB.out.drew.trans (hb1.mono hsw)
    clear r0 q0 q1 q2 y0 y1 y2 N M
    by_cases hc : cmpSym y x = 0
    · have HC := Lib.hid hc
      have t1 : (cmpSym y x == 0) = true := by simp [hc]
      clear hc
      go_wp2_with fail
      go_ret2
      have e := HC.out
      rw [HY.out] at e
      refine ⟨?_, HB0.out.trans (HB1.mono (by omega))⟩
      rw [rank_some tc_sym HS.out hml e, (at_some tc_sym HS.out hml e).2.2.1]
      rfl
    · have t1 : (cmpSym y x == 0) = false := by simp [hc]
      by_cases hc2 : cmpSym y x < 0
      · have HC := Lib.hid hc2
        have t2 : decide (cmpSym y x < 0) = true := by simpa using hc2
        clear hc hc2
        go_wp2_with fail
        go_roundw
        case rel =>
         refine ⟨m + 1, j, by go_num, rfl, by omega, hj, fun k h1 h2 => ?_, HHI.out, HB1⟩
         have e := HC.out
         rw [HY.out] at e
         rcases Nat.lt_or_ge k m with h3 | h3
         · exact tc_sym.lt_of_lt_of_le (HS.out.lt h3 hml) (by omega)
         · obtain rfl : k = m := by omega
           exact e
        case measure => simp [intOf]; omega
      · have t2 : decide (cmpSym y x < 0) = false := by simpa using hc2
        have hc3 : 0 < cmpSym y x := by omega
        have HC := Lib.hid hc3
        clear hc hc2 hc3
        go_wp2_with fail
        go_roundw
        case rel =>
         refine ⟨i, m, rfl, rfl, by omega, by omega, HLO.out, fun k h1 h2 => ?_, HB1⟩
         have e := HC.out
         rw [HY.out] at e
         rcases Nat.lt_or_ge m k with h3 | h3
         · exact (tc_sym.symm _ _).1 (tc_sym.lt_trans ((tc_sym.symm _ _).2 e) (HS.out.lt h3 h1))
         · obtain rfl : k = m := by omega
           exact e
        case measure => simp [intOf]; omega
  · obtain rfl : i = j := by omega
    have HB := Lib.hid hB
    clear hB
    go_wp2_with fail
    go_ret2
    refine ⟨?_, HB0.out.trans (HB.out.mono (by omega))⟩
    rw [rank_none hj HLO.out HHI.out, (at_none HLO.out HHI.out).2.2]
    rfl
end Go.Proofs.Ytnfgilbaglfkeaa
namespace Go.Proofs.Ytnfgilbaglfkeaa
open Go.RowKit
theorem info_Sym : (Try.prog.info? 51).map (fun i => (i.zero, i.size, i.bytes)) = some (some (.agg #[.int .i64 0, .string ⟨#[]⟩, .int .i64 0]), 3, 32) := by kernel_rfl
theorem Sym.one (x : Sym) : ∀ u ∈ Sym.cells x, u.oneCell' = true := by intro u hu; simp [Sym.cells] at hu; rcases hu with rfl | rfl | rfl <;> rfl
theorem Sym.oneAll (l : List Sym) : ∀ u ∈ l.flatMap Sym.cells, u.oneCell' = true := by intro u hu; obtain ⟨x, _, hx⟩ := List.mem_flatMap.1 hu; exact Sym.one x u hx
def OwnPostSym (w : World) (b : Nat) (sn : Bool) (A : Option Addr) (l : List Sym) (e : Ending) (w' : World) : Prop :=
 e = .returned (.tuple #[]) ∧ ∃ A' c', SymSet w' b false A' c' l ∧ Fr (· = b) w w' ∧ Moved w sn A false A'
set_option maxRecDepth 100000 in
set_option maxHeartbeats 1000000 in
theorem own_no_Sym (b c : Nat) (A : Option Addr) (l : List Sym) (w : World) (hS : SymSet w b false A c l) :
 Calls Try.prog 75 #[.pointer (some ⟨b, 0, none⟩)] w (OwnPostSym w b false A l) := by
 have h1 := hS.cell1
 have HS := Lib.hid hS
 clear hS
 go_enter Try.func75, Try.ntmps75
 go_wp2
 go_end0
 exact ⟨rfl, A, c, HS.out, Fr.refl _ _, .inl ⟨rfl, rfl⟩⟩
set_option maxRecDepth 100000 in
set_option maxHeartbeats 1000000 in
theorem own_yes_Sym (b c : Nat) (A : Option Addr) (l : List Sym) (w : World) (hS : SymSet w b true A c l) (hl : (l.length : Int) ≤ 1000000000) :
 Calls Try.prog 75 #[.pointer (some ⟨b, 0, none⟩)] w (OwnPostSym w b true A l) := by
 obtain ⟨i0, hi, hz0, hz1, hz2⟩ := info_parts info_Sym
 have h0 := hS.cell0
 have h1 := hS.cell1
 have hb := hS.lt
 have f0 := hS.blk.frozen 0
 have f1 := hS.blk.frozen 1
 have hrd := hS.rd Sym.cells_length
 have HB := Lib.hid hS.blk
 have HRD := Lib.hid hrd
 clear hS hrd
 have e1 : IntKind.i64.wrap ((l.length : Int) + 1) = (l.length : Int) + 1 := IntWalk.i64_in _ (by omega)
 have hmk : ∀ W : World, (Instr.makeSlice 30 (.int .i64 0) (.int .i64 ((l.length : Int) + 1))).run Try.prog W = .ok (.slice (some ⟨W.heap.size, 0, none⟩) 0 (l.length + 1)) (W.alloc (.cells (madeCells (Value.cells (.agg #[.int .i64 0, .string ⟨#[]⟩, .int .i64 0])) ((l.length + 1) * 3)) 51)) := fun W => by
  have h := run_make (P := Try.prog) W 30 51 i0 _ Try.underlying30 hi hz0 .i64 .i64 0 ((l.length : Int) + 1) (by omega) (by omega) (by rw [hz2]; omega) (by omega)
  rw [hz1] at h
  simpa [show ((l.length : Int) + 1).toNat = l.length + 1 by omega] using h
 go_enter Try.func75, Try.ntmps75
 go_wp2_with fail
 refine wp_region_E (fun w9 => Below w.heap.size w w9) [(0, 0), (1, 0), (2, 0), (3, 0), (4, 1), (5, 0), (6, 0), (8, 0), (9, 0), (10, 0), (11, 1), (7, 2), (12, 2), (13, 0), (14, 0), (15, 2)] (by kernel_rfl) (by kernel_rfl) (fun KK hKK => ?_)
 simp only [beside, List.filterMap_cons, List.filterMap_nil, List.getElem?_toArray, List.getElem?_cons_zero, List.getElem?_cons_succ, Option.map_some]
 repeat ((first | (refine wpX_w ?_ (Or.inl ⟨by rfl, fun w9 => ?_⟩) ?_; rotate_left 1; go_simp; with_reducible rfl) | (refine wpX_l ?_ (((Below.refl _ _).drew)) (Or.inl ⟨by rfl, fun w9 hw9 => ?_⟩) ?_; rotate_left 1; obtain ⟨hc9, hf9⟩ := bcell hw9; go_simp; with_reducible rfl) | refine wpX_w undef (Or.inr ⟨by rfl, rfl⟩) ?_ | refine wpX_l undef (((Below.refl _ _).drew)) (Or.inr ⟨by rfl, rfl⟩) ?_); go_frame)
 refine wpX_es (fun K9 hK9 => ?_)
 go_simp
 refine hK9 _ _ (((Below.refl _ _).drew).alloc (Nat.le_refl _) _) ?_
 clear hK9 K9
 refine wpX_e (by kernel_rfl) (fun K9 hK9 => ?_)
 refine step_append_src _ (by rfl) _ _ _ (by rfl) 51 i0 _ 3 32 Try.underlying30 hi hz0 hz1 hz2 rfl (by omega) _ 0 [] (by rfl) (World.ownsRow_made _ _ _ (Nat.zero_le _) (by unfold maxLen; omega) (by simp [madeCells])) A l.length c (l.flatMap Sym.cells) (by rfl) (flat_length Sym.cells_length l)
  ((HRD.out.drew.alloc _).news Sym.cells_length (by omega)) (Sym.oneAll l) (by unfold maxLen; omega) (by omega) ?_
 intro v2 w2 hown hgr hnil hat
 refine hK9 _ _ ?_
 clear hK9 K9
 rw [Nat.zero_add, List.nil_append] at hown
 obtain ⟨A', c', rfl, _, _, hz⟩ := own_form2 hown
 have HB1 := (HB.out.drew.alloc (.cells (madeCells (Value.cells (.agg #[.int .i64 0, .string ⟨#[]⟩, .int .i64 0])) ((l.length + 1) * 3)) 51)).grown hgr (by simp [Value.ownBlock]; omega)
 have c0 := (HB1.cell 0).trans rfl
 have c1 := (HB1.cell 1).trans rfl
 have z0 := HB1.frozen 0
 have z1 := HB1.frozen 1
 have HB2 := Lib.hid HB1
 clear HB1
 repeat ((first | (refine wpX_w ?_ (Or.inl ⟨by rfl, fun w9 => ?_⟩) ?_; rotate_left 1; go_simp; with_reducible rfl) | (refine wpX_l ?_ (((Below.refl _ _).drew).alloc (Nat.le_refl _) _) (Or.inl ⟨by rfl, fun w9 hw9 => ?_⟩) ?_; rotate_left 1; obtain ⟨hc9, hf9⟩ := bcell hw9; go_simp; with_reducible rfl) | refine wpX_w undef (Or.inr ⟨by rfl, rfl⟩) ?_ | refine wpX_l undef (((Below.refl _ _).drew).alloc (Nat.le_refl _) _) (Or.inr ⟨by rfl, rfl⟩) ?_); go_frame)
 refine wpX_e (by kernel_rfl) (fun K9 hK9 => ?_)
 go_simp
 refine hK9 _ _ ?_
 clear hK9 K9
 refine wpX_nil ?_
 simp only [OnlyN_normal]
 refine hKK _ _ ?_
 clear hKK KK
 go_wp2
 go_end0
 have hb2 : (Value.slice A' l.length c').ownBlock = some w.heap.size ∨ (Value.slice A' l.length c').ownBlock = some (w.heap.size + 1) := by
  rcases hat with h | h
  · left; rw [h]; rfl
  · right; rw [h]; simp
 have hA : ∃ g, w.heap.size ≤ g ∧ A' = some ⟨g, 0, none⟩ := by
  rcases A' with _ | a
  · exfalso; simp [Value.ownBlock] at hb2
  · obtain ⟨g, rfl⟩ := hz a rfl
    refine ⟨g, ?_, rfl⟩
    simp [Value.ownBlock] at hb2
    omega
 obtain ⟨g, hg, rfl⟩ := hA
 have HB1 := HB2.out
 have HF : Fr (· = b) w w2 := ((Fr.refl (· = b) w).drew.alloc _).grown hgr (fun k e => by simp [Value.ownBlock] at e; right; omega)
 refine ⟨rfl, some ⟨g, 0, none⟩, c', ⟨(HB1.set_ 0 _).set_ 1 _, ?_⟩, (HF.setCell (p := ⟨b, 0, none⟩) (.inl rfl) _).setCell (p := ⟨b, 1, none⟩) (.inl rfl) _, .inr ⟨rfl, g, hg, rfl⟩⟩
 have hne : (Value.slice (some ⟨g, 0, none⟩) l.length c').ownBlock ≠ some b := by simp [Value.ownBlock]; omega
 exact ownsRow_setCell_other (a := ⟨b, 1, none⟩) (ownsRow_setCell_other (a := ⟨b, 0, none⟩) hown hne _) hne _
theorem own_Sym (b c : Nat) (sn : Bool) (A : Option Addr) (l : List Sym) (w : World) (hS : SymSet w b sn A c l) (hl : (l.length : Int) ≤ 1000000000) :
 Calls Try.prog 75 #[.pointer (some ⟨b, 0, none⟩)] w (OwnPostSym w b sn A l) := by
 cases sn
 · exact own_no_Sym b c A l w hS
 · exact own_yes_Sym b c A l w hS hl
end Go.Proofs.Ytnfgilbaglfkeaa
namespace Go.Proofs.Ytnfgilbaglfkeaa
open Go.RowKit
def PutPostSym (w : World) (b : Nat) (sn : Bool) (A : Option Addr) (l : List Sym) (x : Sym) (e : Ending) (w' : World) : Prop :=
 e = .returned (.bool (!has cmpSym l x)) ∧ ∃ sn' A' c', SymSet w' b sn' A' c' (put cmpSym l x) ∧ Fr (SetMod b sn A) w w' ∧ Moved w sn A sn' A'
set_option maxRecDepth 100000 in
set_option maxHeartbeats 1000000 in
theorem put_there_Sym (b c : Nat) (sn : Bool) (A : Option Addr) (l : List Sym) (x : Sym) (w : World) (hS : SymSet w b sn A c l) (hs : Srt cmpSym l) (hl : (l.length : Int) ≤ 100000000) (hh : has cmpSym l x = true) :
 Calls Try.prog 45 #[.pointer (some ⟨b, 0, none⟩), .agg #[.int .i64 x.kind, .string x.text, .int .i64 x.n]] w (PutPostSym w b sn A l x) := by
 have HS := Lib.hid hS
 have HO := Lib.hid hs
 clear hS hs
 go_enter Try.func45, Try.ntmps45
 go_wp2_with fail
 refine (find_Sym b c sn A l x _ (HS.out.new_ ((Below.refl _ _).alloc (Nat.le_refl _) _)) HO.out (by omega)).mono ?_
 rintro e w1 ⟨rfl, hb1⟩
 go_wp2_with fail
 go_ret
 refine ⟨by rw [hh]; rfl, sn, A, c, ?_, Fr.of_new (((Below.refl _ _).alloc (Nat.le_refl _) _).trans (hb1.mono (by simp))), .inl ⟨rfl, rfl⟩⟩
 rw [put_has hh]
 exact HS.out.new_ (((Below.refl _ _).alloc (Nat.le_refl _) _).trans (hb1.mono (by simp)))
set_option maxRecDepth 100000 in
set_option maxHeartbeats 4000000 in
theorem put_new_Sym (b c : Nat) (sn : Bool) (A : Option Addr) (l : List Sym) (x : Sym) (w : World) (hS : SymSet w b sn A c l) (hs : Srt cmpSym l) (hl : (l.length : Int) ≤ 100000000) (hh : has cmpSym l x = false) :
 Calls Try.prog 45 #[.pointer (some ⟨b, 0, none⟩), .agg #[.int .i64 x.kind, .string x.text, .int .i64 x.n]] w (PutPostSym w b sn A l x) := by
 obtain ⟨i0, hi, hz0, hz1, hz2⟩ := info_parts info_Sym
 have HS := Lib.hid hS
 have HO := Lib.hid hs
 have hb := hS.lt
 clear hS hs
 have hrk := rank_le (cmp := cmpSym) l x
 go_enter Try.func45, Try.ntmps45
 go_wp2_with fail
 have hSa := HS.out.new_ ((Below.refl w.heap.size w).alloc (Nat.le_refl _) (.cells #[Value.int IntKind.i64 x.kind, Value.string x.text, Value.int IntKind.i64 x.n] 51))
 have HSa := Lib.hid hSa
 clear hSa
 refine (find_Sym b c sn A l x _ HSa.out HO.out (by omega)).mono ?_
 rintro e w1 ⟨rfl, hb1⟩
 have HS1 := Lib.hid (HSa.out.new_ hb1)
 have hsz1 : w.heap.size + 1 ≤ w1.heap.size := by have := hb1.size; (try simp at this); omega
 have y0 := (hb1.cell (p := ⟨w.heap.size, 0, none⟩) (by simp)).trans ((Blk.new w 51 #[Value.int IntKind.i64 x.kind, Value.string x.text, Value.int IntKind.i64 x.n]).cell 0)
 have y1 := (hb1.cell (p := ⟨w.heap.size, 1, none⟩) (by simp)).trans ((Blk.new w 51 #[Value.int IntKind.i64 x.kind, Value.string x.text, Value.int IntKind.i64 x.n]).cell 1)
 have y2 := (hb1.cell (p := ⟨w.heap.size, 2, none⟩) (by simp)).trans ((Blk.new w 51 #[Value.int IntKind.i64 x.kind, Value.string x.text, Value.int IntKind.i64 x.n]).cell 2)
 have HB1 := Lib.hid hb1
 clear hb1
 go_wp2_with fail
 refine (own_Sym b c sn A l _ HS1.out (by omega)).mono ?_
 rintro e w2 ⟨rfl, A1, c1, hS2, hF2, hM2⟩
 have hsz2 : w1.heap.size ≤ w2.heap.size := hF2.size
 have x0 : w2.cell? ⟨w.heap.size, 0, none⟩ = some (.int .i64 x.kind) := (hF2.cell (p := ⟨w.heap.size, 0, none⟩) (by dsimp only; omega) (by dsimp only; omega)).trans y0
 have x1 : w2.cell? ⟨w.heap.size, 1, none⟩ = some (.string x.text) := (hF2.cell (p := ⟨w.heap.size, 1, none⟩) (by dsimp only; omega) (by dsimp only; omega)).trans y1
 have x2 : w2.cell? ⟨w.heap.size, 2, none⟩ = some (.int .i64 x.n) := (hF2.cell (p := ⟨w.heap.size, 2, none⟩) (by dsimp only; omega) (by dsimp only; omega)).trans y2
 have s0 := hS2.cell0
 have f0 := hS2.blk.frozen 0
 have hb2 : b < w2.heap.size := by omega
 have hk2 : w.heap.size < w2.heap.size := by omega
 have HS2 := Lib.hid hS2
 have HF2 := Lib.hid hF2
 have HM2 := Lib.hid hM2
 clear hS2 hF2 hM2 y0 y1 y2
 go_wp2_with fail
 refine wp_region_E (fun w9 => Below w2.heap.size w2 w9) [(0, 0), (1, 0), (2, 0), (3, 0), (4, 1), (5, 1), (6, 2), (7, 2), (8, 0), (9, 0), (10, 2)] (by kernel_rfl) (by kernel_rfl) (fun KK hKK => ?_)
 simp only [beside, List.filterMap_cons, List.filterMap_nil, List.getElem?_toArray, List.getElem?_cons_zero, List.getElem?_cons_succ, Option.map_some]
 repeat ((first | (refine wpX_w ?_ (Or.inl ⟨by rfl, fun w9 => ?_⟩) ?_; rotate_left 1; go_simp; with_reducible rfl) | (refine wpX_l ?_ (((Below.refl _ _).drew)) (Or.inl ⟨by rfl, fun w9 hw9 => ?_⟩) ?_; rotate_left 1; obtain ⟨hc9, hf9⟩ := bcell hw9; go_simp; with_reducible rfl) | refine wpX_w undef (Or.inr ⟨by rfl, rfl⟩) ?_ | refine wpX_l undef (((Below.refl _ _).drew)) (Or.inr ⟨by rfl, rfl⟩) ?_); go_frame)
 refine wpX_es (fun K9 hK9 => ?_)
 go_simp
 refine hK9 _ _ (((Below.refl _ _).drew).alloc (Nat.le_refl _) _) ?_
 clear hK9 K9
 refine wpX_e (by kernel_rfl) (fun K9 hK9 => ?_)
 refine step_append_src _ (by rfl) _ _ _ (by rfl) 51 i0 _ 3 32 Try.underlying30 hi hz0 hz1 hz2 rfl (by omega) _ l.length (l.flatMap Sym.cells) (by rfl) (ownsRow_new HS2.out.row (((Below.refl _ _).drew).alloc (Nat.le_refl _) _)) (some ⟨w2.heap.size, 0, none⟩) 1 1 (Sym.cells x) (by rfl) (by rfl)
  (fun _ => ⟨_, rfl, World.news_of_block (heap_alloc_new _ _)⟩) (Sym.one x) (by unfold maxLen; omega) (by omega) ?_
 intro v2 w3 hown hgr hnil hat
 refine hK9 _ _ ?_
 clear hK9 K9
 obtain ⟨g, c2, rfl⟩ : ∃ g c2, v2 = .slice (some ⟨g, 0, none⟩) (l.length + 1) c2 := by
  rcases ownsRow_form hown with ⟨_, h0, _⟩ | ⟨g, c2, h, _⟩
  · omega
  · exact ⟨g, c2, h⟩
 have HXN : (Value.slice A1 l.length c1).ownBlock ≠ some w.heap.size := by
  intro h
  rcases HM2.out with ⟨hsn, hA⟩ | ⟨_, g2, hg2, hA⟩
  · rcases A1 with _ | a1
    · cases h
    · have h1 := HS.out.row_lt _ hA.symm
      simp only [Value.ownBlock, Option.some.injEq] at h
      omega
  · subst hA
    simp only [Value.ownBlock, Option.some.injEq] at h
    omega
 have HB3' := (HS2.out.blk.drew.alloc (.cells #[Value.int IntKind.i64 x.kind, Value.string x.text, Value.int IntKind.i64 x.n] 51)).grown hgr (own_blk_ne HS2.out.row HS2.out.blk (by decide))
 have c0 := (HB3'.cell 0).trans rfl
 have z0 := HB3'.frozen 0
 have HB3 := Lib.hid HB3'
 have HOWN := Lib.hid hown
 have HGR := Lib.hid hgr
 clear HB3' hown hgr
 repeat ((first | (refine wpX_w ?_ (Or.inl ⟨by rfl, fun w9 => ?_⟩) ?_; rotate_left 1; go_simp; with_reducible rfl) | (refine wpX_l ?_ (((Below.refl _ _).drew).alloc (Nat.le_refl _) _) (Or.inl ⟨by rfl, fun w9 hw9 => ?_⟩) ?_; rotate_left 1; obtain ⟨hc9, hf9⟩ := bcell hw9; go_simp; with_reducible rfl) | refine wpX_w undef (Or.inr ⟨by rfl, rfl⟩) ?_ | refine wpX_l undef (((Below.refl _ _).drew).alloc (Nat.le_refl _) _) (Or.inr ⟨by rfl, rfl⟩) ?_); go_frame)
 refine wpX_e (by kernel_rfl) (fun K9 hK9 => ?_)
 go_simp
 refine hK9 _ _ ?_
 clear hK9 K9
 refine wpX_nil ?_
 simp only [OnlyN_normal]
 refine hKK _ _ ?_
 clear hKK KK
 have hlg : ((l.length + 1 : Nat) : Int) = (l.length : Int) + 1 := by omega
 have hG : (SetMod b sn A g ∨ w.heap.size ≤ g) ∧ Moved w sn A false (some ⟨g, 0, none⟩) ∧ g ≠ w.heap.size ∧ g ≠ b := by
  rcases hat with h | h
  · rcases A1 with _ | a1
    · simp [Value.ownBlock] at h
    · obtain ⟨A', c', hv, _, _, hz⟩ := own_form2 HS2.out.row
      injection hv with hv _ _
      obtain ⟨g', rfl⟩ := hz a1 hv.symm
      have hgg : g' = g := by simpa [Value.ownBlock] using h.symm
      subst hgg
      have hne : g' ≠ b := HS2.out.row_ne (by decide) _ rfl
      rcases HM2.out with ⟨hsn, hA⟩ | ⟨_, g2, hg2, hA⟩
      · have h1 := HS.out.row_lt _ hA.symm
        exact ⟨.inl (.inr ⟨hsn.symm, _, hA.symm, rfl⟩), .inl ⟨hsn, hA⟩, by dsimp only at h1; omega, hne⟩
      · injection hA with hA
        injection hA with hA
        subst hA
        exact ⟨.inr (by omega), .inr ⟨rfl, _, by omega, rfl⟩, by omega, hne⟩
  · have hgg : g = w2.heap.size + 1 := by simpa [Value.ownBlock] using h
    subst hgg
    exact ⟨.inr (by omega), .inr ⟨rfl, _, by omega, rfl⟩, by omega, by omega⟩
 obtain ⟨hgM, hgMv, hgk1, hgb⟩ := hG
 obtain ⟨w4, hw4⟩ : ∃ w4, w4 = w3.setCell ⟨b, 0, none⟩ (.slice (some ⟨g, 0, none⟩) (l.length + 1) c2) := ⟨_, rfl⟩
 have hB4 : Blk w4 b 139 #[.slice (some ⟨g, 0, none⟩) (l.length + 1) c2, .bool false] := by rw [hw4]; exact HB3.out.set_ 0 _
 have hR4 : w4.ownsRow 0 51 3 (.slice (some ⟨g, 0, none⟩) (l.length + 1) c2) (l.length + 1) ((shiftAt l x l.length).flatMap Sym.cells) := by
  rw [hw4, shiftAt_start]
  refine ownsRow_setCell_other (a := ⟨b, 0, none⟩) ?_ (by simpa [Value.ownBlock] using hgb) _
  rw [List.flatMap_append, List.flatMap_singleton]
  exact HOWN.out
 have hF4 : Fr (SetMod b sn A) w w4 := by
  rw [hw4]
  have h1 : Fr (SetMod b sn A) w w1 := Fr.of_new (((Below.refl _ _).alloc (Nat.le_refl _) _).trans (HB1.out.mono (by simp)))
  have h2 : Fr (SetMod b sn A) w w2 := h1.trans (HF2.out.mono (fun k _ h => .inl h))
  refine ((h2.drew.alloc _).grown HGR.out (fun k hk => ?_)).setCell (p := ⟨b, 0, none⟩) (.inl (.inl rfl)) _
  rcases A1 with _ | a1
  · cases hk
  · simp only [Value.ownBlock, Option.some.injEq] at hk
    subst hk
    rcases HM2.out with ⟨hsn, hA⟩ | ⟨_, g', hg', hA⟩
    · left; right; exact ⟨hsn.symm, a1, hA.symm, rfl⟩
    · injection hA with hA
      subst hA
      right; dsimp only; omega
 have z0 : w4.cell? ⟨w.heap.size, 0, none⟩ = some (.int .i64 x.kind) := by
  rw [hw4, World.cell?_setCell_other _ _ _ _ (by intro h; injection h; omega)]
  refine HGR.out.cell ((World.cell?_alloc_lt w2.drew _ ⟨w.heap.size, 0, none⟩ hk2).trans x0) ?_
  intro h
  exact HXN (by simpa using h.symm)
 have z1 : w4.cell? ⟨w.heap.size, 1, none⟩ = some (.string x.text) := by
  rw [hw4, World.cell?_setCell_other _ _ _ _ (by intro h; injection h; omega)]
  refine HGR.out.cell ((World.cell?_alloc_lt w2.drew _ ⟨w.heap.size, 1, none⟩ hk2).trans x1) ?_
  intro h
  exact HXN (by simpa using h.symm)
 have z2 : w4.cell? ⟨w.heap.size, 2, none⟩ = some (.int .i64 x.n) := by
  rw [hw4, World.cell?_setCell_other _ _ _ _ (by intro h; injection h; omega)]
  refine HGR.out.cell ((World.cell?_alloc_lt w2.drew _ ⟨w.heap.size, 2, none⟩ hk2).trans x2) ?_
  intro h
  exact HXN (by simpa using h.symm)
 have hk4 : w.heap.size < w4.heap.size := by rw [hw4]; have := HGR.out.size; simp at this ⊢; omega
 rw [← hw4]
 have HgM := Lib.hid hgM
 have HgMv := Lib.hid hgMv
 have HB4 := Lib.hid hB4
 have HR4 := Lib.hid hR4
 have HF4 := Lib.hid hF4
 have s4 := hB4.cell 0
 have s4' : w4.cell? ⟨b, 0, none⟩ = some (.slice (some ⟨g, 0, none⟩) (l.length + 1) c2) := s4
 clear s4 hw4 hB4 hR4 hF4 hat hgM hgMv hnil x0 x1 x2 s0 f0
 go_wp2_with fail
 go_loopw [7] (fun s wr => ∃ i : Nat, s = .int .i64 i ∧ rank cmpSym l x ≤ i ∧ i ≤ l.length ∧ wr.ownsRow 0 51 3 (.slice (some ⟨g, 0, none⟩) (l.length + 1) c2) (l.length + 1) ((shiftAt l x i).flatMap Sym.cells) ∧ Fr (· = g) w4 wr) (fun s wr => (intOf s).toNat)
 case atStart => exact ⟨l.length, by go_num, hrk, Nat.le_refl _, HR4.out, Fr.refl _ _⟩
 case round =>
  obtain ⟨i, rfl, hi1, hi2, hown, hfr⟩ := hrel
  have hgw : g < wr.heap.size := (hown.lt g rfl).2
  have r0 : wr.cell? ⟨b, 0, none⟩ = some (.slice (some ⟨g, 0, none⟩) (l.length + 1) c2) := (hfr.cell (p := ⟨b, 0, none⟩) HB4.out.lt (fun h => hgb h.symm)).trans s4'
  have fz : ∀ o, wr.frozen? ⟨g, o, none⟩ = false := fun o => hown.frozenAt o
  have HOW := Lib.hid hown
  have HFR := Lib.hid hfr
  clear hown hfr
  by_cases hlt : rank cmpSym l x < i
  · obtain ⟨j, rfl⟩ : ∃ j, i = j + 1 := ⟨i - 1, by omega⟩
    have hj : j < l.length := by omega
    have hrd := ownsRow_rd (A := some ⟨g, 0, none⟩) (c := c2) (l := shiftAt l x (j + 1)) Sym.cells_length (by rw [shiftAt_length l x hi2]; exact HOW.out)
    obtain ⟨g', o', hgo, _, hcell⟩ := hrd.at_ (k := j) (by rw [shiftAt_length l x hi2]; omega)
    injection hgo with hgo
    injection hgo with hg1 hg2
    subst hg1; subst hg2
    rw [shiftAt_read l x hj] at hcell
    have q0 : wr.cell? ⟨g, j * 3, none⟩ = some (.int .i64 l[j].kind) := by simpa using hcell 0 _ rfl
    have q1 : wr.cell? ⟨g, j * 3 + 1, none⟩ = some (.string l[j].text) := by simpa using hcell 1 _ rfl
    have q2 : wr.cell? ⟨g, j * 3 + 2, none⟩ = some (.int .i64 l[j].n) := by simpa using hcell 2 _ rfl
    have rmj : Room wr g 51 (c2 * 3) ∧ l.length + 1 ≤ c2 := by
     rcases ownsRow_form HOW.out with ⟨hv, _⟩ | ⟨g', cap, hv, hn, _, hr, _⟩
     · cases hv
     · injection hv with hA _ hc
       injection hA with hA
       injection hA with hA
       subst hA; subst hc
       exact ⟨hr, hn⟩
    obtain ⟨hrm, hcap⟩ := rmj
    obtain ⟨u0, t0⟩ := hrm.cell (i := (j + 1) * 3) (by omega)
    obtain ⟨u1, t1⟩ := hrm.cell (i := (j + 1) * 3 + 1) (by omega)
    obtain ⟨u2, t2⟩ := hrm.cell (i := (j + 1) * 3 + 2) (by omega)
    have b0 : (0 : Int) ≤ (j : Int) + 1 := by omega
    have b1 : (0 : Int) ≤ (j : Int) := by omega
    have b4 : (j : Int) < (l.length : Int) := by omega
    have b2 : (j : Int) < (l.length : Int) + 1 := by omega
    have b3 : (j : Int) + 1 < (l.length : Int) + 1 := by omega
    have w1 : IntKind.i64.wrap ((j : Int)) = (j : Int) := IntWalk.i64_in _ (by omega)
    have w2 : IntKind.i64.wrap ((j : Int) + 1 - 1) = (j : Int) := by rw [IntWalk.i64_in _ (by omega)]; omega
    clear hcell hrd hrm
    obtain ⟨y, hy⟩ : ∃ y, y = l[j] := ⟨_, rfl⟩
    rw [← hy] at q0 q1 q2
    have HY := Lib.hid hy
    have hbw : b < wr.heap.size := World.block_lt_of_cell? wr _ r0
    clear hy
    go_wp2_with fail
    refine wp_region_E (fun w9 => Below wr.heap.size wr w9) [(0, 0), (1, 0), (2, 0), (3, 1), (4, 0), (5, 0), (6, 0), (7, 0), (8, 1), (9, 0), (10, 0), (11, 0), (12, 1), (13, 0), (14, 2)] (by kernel_rfl) (by kernel_rfl) (fun KK hKK => ?_)
    simp only [beside, List.filterMap_cons, List.filterMap_nil, List.getElem?_toArray, List.getElem?_cons_zero, List.getElem?_cons_succ, Option.map_some]
    repeat ((first | (refine wpX_w ?_ (Or.inl ⟨by rfl, fun w9 => ?_⟩) ?_; rotate_left 1; go_simp; with_reducible rfl) | (refine wpX_l ?_ (((Below.refl _ _).drew)) (Or.inl ⟨by rfl, fun w9 hw9 => ?_⟩) ?_; rotate_left 1; obtain ⟨hc9, hf9⟩ := bcell hw9; go_simp; with_reducible rfl) | refine wpX_w undef (Or.inr ⟨by rfl, rfl⟩) ?_ | refine wpX_l undef (((Below.refl _ _).drew)) (Or.inr ⟨by rfl, rfl⟩) ?_); go_frame)
    refine wpX_e (by kernel_rfl) (fun K9 hK9 => ?_)
    go_simp
    refine hK9 _ _ ?_
    clear hK9 K9
    refine wpX_nil ?_
    simp only [OnlyN_normal]
    refine hKK _ _ ?_
    clear hKK KK
    go_wp2_with fail
    go_roundw
    case rel =>
     refine ⟨j, by go_num, by omega, by omega, ?_, Fr.drew ((((HFR.out).setCell (p := ⟨g, (j + 1) * 3, none⟩) (.inl rfl) (_)).setCell (p := ⟨g, (j + 1) * 3 + 1, none⟩) (.inl rfl) (_)).setCell (p := ⟨g, (j + 1) * 3 + 2, none⟩) (.inl rfl) (_))⟩
     have hst := ((((((HOW.out).stored ((j + 1) * 3) (.int .i64 y.kind)).1).stored ((j + 1) * 3 + 1) (.string y.text)).1).stored ((j + 1) * 3 + 2) (.int .i64 y.n)).1
     have he : setAll ((shiftAt l x (j + 1)).flatMap Sym.cells) ((j + 1) * 3) (Sym.cells y) = (shiftAt l x j).flatMap Sym.cells := by
      rw [flat_set Sym.cells_length (by omega) _ (j + 1) (by rw [shiftAt_length l x hi2]; omega), HY.out, shiftAt_step l x hj]
     rw [← he]
     exact hst
    case measure => simp [intOf] <;> omega
  · obtain rfl : i = rank cmpSym l x := by omega
    have rmj : Room wr g 51 (c2 * 3) ∧ l.length + 1 ≤ c2 := by
     rcases ownsRow_form HOW.out with ⟨hv, _⟩ | ⟨g', cap, hv, hn, _, hr, _⟩
     · cases hv
     · injection hv with hA _ hc
       injection hA with hA
       injection hA with hA
       subst hA; subst hc
       exact ⟨hr, hn⟩
    obtain ⟨hrm, hcap⟩ := rmj
    obtain ⟨k, hk⟩ : ∃ k, k = rank cmpSym l x := ⟨_, rfl⟩
    rw [← hk] at hi2 hlt ⊢
    obtain ⟨u0, t0⟩ := hrm.cell (i := k * 3) (by omega)
    obtain ⟨u1, t1⟩ := hrm.cell (i := k * 3 + 1) (by omega)
    obtain ⟨u2, t2⟩ := hrm.cell (i := k * 3 + 2) (by omega)
    have x0 := (HFR.out.cell (p := ⟨w.heap.size, 0, none⟩) hk4 (fun h => hgk1 h.symm)).trans z0
    have x1 := (HFR.out.cell (p := ⟨w.heap.size, 1, none⟩) hk4 (fun h => hgk1 h.symm)).trans z1
    have x2 := (HFR.out.cell (p := ⟨w.heap.size, 2, none⟩) hk4 (fun h => hgk1 h.symm)).trans z2
    have b1 : (0 : Int) ≤ (k : Int) := by omega
    have b2 : (k : Int) < (l.length : Int) + 1 := by omega
    have HK := Lib.hid hk
    have hkw : w.heap.size < wr.heap.size := by have := HFR.out.size; omega
    have hbw : b < wr.heap.size := World.block_lt_of_cell? wr _ r0
    clear hrm hk z0 z1 z2
    go_wp2_with fail
    refine wp_region_E (fun w9 => Below wr.heap.size wr w9) [(0, 0), (1, 0), (2, 0), (3, 1), (4, 0), (5, 1), (6, 0), (7, 2)] (by kernel_rfl) (by kernel_rfl) (fun KK hKK => ?_)
    simp only [beside, List.filterMap_cons, List.filterMap_nil, List.getElem?_toArray, List.getElem?_cons_zero, List.getElem?_cons_succ, Option.map_some]
    repeat ((first | (refine wpX_w ?_ (Or.inl ⟨by rfl, fun w9 => ?_⟩) ?_; rotate_left 1; go_simp; with_reducible rfl) | (refine wpX_l ?_ (((Below.refl _ _).drew)) (Or.inl ⟨by rfl, fun w9 hw9 => ?_⟩) ?_; rotate_left 1; obtain ⟨hc9, hf9⟩ := bcell hw9; go_simp; with_reducible rfl) | refine wpX_w undef (Or.inr ⟨by rfl, rfl⟩) ?_ | refine wpX_l undef (((Below.refl _ _).drew)) (Or.inr ⟨by rfl, rfl⟩) ?_); go_frame)
    refine wpX_e (by kernel_rfl) (fun K9 hK9 => ?_)
    go_simp
    refine hK9 _ _ ?_
    clear hK9 K9
    refine wpX_nil ?_
    simp only [OnlyN_normal]
    refine hKK _ _ ?_
    clear hKK KK
    go_wp2_with fail
    go_ret
    have HOWk := HOW.out
    rw [← HK.out] at HOWk
    have hst := ((((((HOWk).stored (k * 3) (.int .i64 x.kind)).1).stored (k * 3 + 1) (.string x.text)).1).stored (k * 3 + 2) (.int .i64 x.n)).1
    have he : setAll ((shiftAt l x k).flatMap Sym.cells) (k * 3) (Sym.cells x) = (put cmpSym l x).flatMap Sym.cells := by
     rw [flat_set Sym.cells_length (by omega) _ k (by rw [shiftAt_length l x hi2]; omega), shiftAt_end l x hi2, put_eq tc_sym HO.out hh, HK.out]
    have hln := length_put tc_sym HO.out hh
    refine ⟨by rw [hh]; rfl, false, some ⟨g, 0, none⟩, c2, ⟨?_, ?_⟩, ?_, ?_⟩
    · rw [hln]
      exact (((HB4.out.fr HFR.out (fun h => hgb h.symm)).far (p := ⟨g, k * 3, none⟩) (fun h => hgb h.symm) _).far (p := ⟨g, k * 3 + 1, none⟩) (fun h => hgb h.symm) _).far (p := ⟨g, k * 3 + 2, none⟩) (fun h => hgb h.symm) _
    · rw [hln, ← he]
      exact hst
    · exact HF4.out.into (Fr.drew ((((HFR.out).setCell (p := ⟨g, k * 3, none⟩) (.inl rfl) (_)).setCell (p := ⟨g, k * 3 + 1, none⟩) (.inl rfl) (_)).setCell (p := ⟨g, k * 3 + 2, none⟩) (.inl rfl) (_))) (fun k hk => by subst hk; exact HgM.out)
    · exact HgMv.out
theorem put_Sym (b c : Nat) (sn : Bool) (A : Option Addr) (l : List Sym) (x : Sym) (w : World) (hS : SymSet w b sn A c l) (hs : Srt cmpSym l) (hl : (l.length : Int) ≤ 100000000) :
 Calls Try.prog 45 #[.pointer (some ⟨b, 0, none⟩), .agg #[.int .i64 x.kind, .string x.text, .int .i64 x.n]] w (PutPostSym w b sn A l x) := by
 cases hh : has cmpSym l x
 · exact put_new_Sym b c sn A l x w hS hs hl hh
 · exact put_there_Sym b c sn A l x w hS hs hl hh
end Go.Proofs.Ytnfgilbaglfkeaa
namespace Go.Proofs.Ytnfgilbaglfkeaa
open Go.RowKit
def NewPostSym (w : World) (xs : List Sym) (e : Ending) (w' : World) : Prop :=
 ∃ k, e = .returned (.pointer (some ⟨k, 0, none⟩)) ∧ w.heap.size ≤ k ∧ ∃ sn A c, SymSet w' k sn A c (puts cmpSym [] xs) ∧ AIn A (w.heap.size ≤ ·) ∧ Below w.heap.size w w'
set_option maxRecDepth 100000 in
set_option maxHeartbeats 2000000 in
theorem new_Sym (A : Option Addr) (c : Nat) (xs : List Sym) (w : World) (hrd : RowRd w 3 Sym.cells A c xs) (hl : (xs.length : Int) ≤ 10000000) :
 Calls Try.prog 40 #[.slice A xs.length c] w (NewPostSym w xs) := by
 have HRD := Lib.hid hrd
 clear hrd
 go_enter Try.func40, Try.ntmps40
 go_wp2_with fail
 obtain ⟨W0, hW0⟩ : ∃ W0, W0 = w.alloc (.cells #[.slice none 0 0, .bool false] 139) := ⟨_, rfl⟩
 have hb0 : Below w.heap.size w W0 := by rw [hW0]; exact (Below.refl _ _).alloc (Nat.le_refl _) _
 have hS0 : SymSet W0 w.heap.size false none 0 [] := ⟨by rw [hW0]; exact Blk.new _ _ _, ⟨by simp, .inl ⟨rfl, rfl⟩⟩⟩
 rw [← hW0]
 clear hW0
 have HB0 := Lib.hid hb0
 have HS0 := Lib.hid hS0
 clear hb0 hS0
 go_loopw [10] (fun s wr => ∃ i : Nat, s = .int .i64 i ∧ i ≤ xs.length ∧ ∃ sn A' c', SymSet wr w.heap.size sn A' c' (puts cmpSym [] (xs.take i)) ∧ AIn A' (w.heap.size ≤ ·) ∧ Below w.heap.size w wr) (fun s wr => xs.length - (intOf s).toNat)
 case atStart => exact ⟨0, rfl, Nat.zero_le _, false, none, 0, HS0.out, AIn.none_ _, HB0.out⟩
 case round =>
  obtain ⟨i, rfl, hi, sn, A', c', hS, hA', hB⟩ := hrel
  have HS := Lib.hid hS
  have HA := Lib.hid hA'
  have HB := Lib.hid hB
  clear hS hA' hB
  by_cases hlt : i < xs.length
  · obtain ⟨x, hx⟩ : ∃ x, x = xs[i] := ⟨_, rfl⟩
    obtain ⟨g, off, rfl, hgs, hcell⟩ := (HRD.out.fr (Fr.of_new (M := fun _ => False) HB.out) (fun _ _ h => h)).at_ hlt
    rw [← hx] at hcell
    have q0 : wr.cell? ⟨g, off + i * 3, none⟩ = some (.int .i64 x.kind) := by simpa using hcell 0 _ rfl
    have q1 : wr.cell? ⟨g, off + i * 3 + 1, none⟩ = some (.string x.text) := by simpa using hcell 1 _ rfl
    have q2 : wr.cell? ⟨g, off + i * 3 + 2, none⟩ = some (.int .i64 x.n) := by simpa using hcell 2 _ rfl
    have b1 : (0 : Int) ≤ (i : Int) := by omega
    have b2 : (i : Int) < (xs.length : Int) := by omega
    have HX := Lib.hid hx
    clear hcell hx
    go_wp2_with fail
    have hsr := Srt.puts tc_sym (xs.take i) (Srt.nil (cmp := cmpSym))
    have hlen : (((puts cmpSym [] (xs.take i)).length : Nat) : Int) ≤ 100000000 := by
     have := length_puts_le tc_sym (xs.take i) (Srt.nil (cmp := cmpSym))
     simp at this
     omega
    refine (put_Sym w.heap.size c' sn A' _ x _ (HS.out.new_ ((Below.refl _ _).alloc (Nat.le_refl _) _)) hsr hlen).mono ?_
    rintro e w1 ⟨rfl, sn2, A2, c2, hS2, hF2, hM2⟩
    have hB1 : Below w.heap.size w w1 := (HB.out.alloc HB.out.size _).trans (hF2.below (by have := HB.out.size; (try simp); omega) (fun k hk hm => by
     rcases hm with hm | ⟨_, a, ha, hm⟩
     · omega
     · have := HA.out a ha; omega))
    have hA2 : AIn A2 (w.heap.size ≤ ·) := by
     rcases hM2 with ⟨_, rfl⟩ | ⟨_, g2, hg2, rfl⟩
     · exact HA.out
     · intro a ha; cases ha; have := HB.out.size; (try simp at hg2 ⊢); omega
    have HS2 := Lib.hid hS2
    have HB1 := Lib.hid hB1
    have HA2 := Lib.hid hA2
    clear hS2 hB1 hA2 hF2 hM2 hsr hlen q0 q1 q2
    go_wp2_with fail
    go_roundw
    case rel =>
     refine ⟨i + 1, by go_num, by omega, sn2, A2, c2, ?_, HA2.out, HB1.out⟩
     rw [List.take_add_one, List.getElem?_eq_getElem hlt, ← HX.out]
     simp only [Option.toList_some, puts_snoc]
     exact HS2.out
    case measure => simp [intOf] <;> omega
  · have hie : i = xs.length := by omega
    subst hie
    go_wp2_with fail
    go_ret
    refine ⟨w.heap.size, rfl, Nat.le_refl _, sn, A', c', ?_, HA.out, HB.out⟩
    have := HS.out
    rwa [List.take_length] at this
end Go.Proofs.Ytnfgilbaglfkeaa
namespace Go.Proofs.Ytnfgilbaglfkeaa
open Go.RowKit Go.Shelf
def RowKeep (A : Option Addr) (W W' : World) : Prop := W.heap.size ≤ W'.heap.size ∧ ∀ a, A = some a → a.block < W.heap.size → W'.heap[a.block]? = W.heap[a.block]?
theorem RowKeep.trans {A : Option Addr} {X Y Z : World} (h : RowKeep A X Y) (k : RowKeep A Y Z) : RowKeep A X Z := ⟨Nat.le_trans h.1 k.1, fun a e hl => (k.2 a e (Nat.lt_of_lt_of_le hl h.1)).trans (h.2 a e hl)⟩
theorem RowKeep.of_priv {A : Option Addr} {B : Nat} {X Y : World} (hA : AIn A (· < B)) (h : Priv B X Y) : RowKeep A X Y := ⟨h.size, fun a e hl => h.block _ hl (.inl (hA a e))⟩
theorem RowKeep.of_below {A : Option Addr} {B : Nat} {X Y : World} (hA : AIn A (· < B)) (h : Below B X Y) : RowKeep A X Y := ⟨h.size, fun a e _ => h.block _ (hA a e)⟩
theorem RowKeep.rd {α : Type} {size c : Nat} {cells : α → List Value} {A : Option Addr} {l : List α} {W W' : World} (hk : RowKeep A W W') (h : RowRd W size cells A c l) : RowRd W' size cells A c l :=
 h.keep hk.1 (fun p hp ⟨a, ha, hb⟩ => World.cell?_of_block (by rw [← hb]; exact hk.2 a ha (by rw [hb]; exact hp)))
def SeenStart (b : Nat) (X Y : World) : Prop := ∃ X1, Below X.heap.size X X1 ∧ Y = X1.setCell ⟨b, 1, none⟩ (.bool true)
theorem SeenStart.keeps {b B : Nat} {X Y : World} (h : SeenStart b X Y) : KeepsFrom B X Y := by
 obtain ⟨X1, hb, rfl⟩ := h
 refine KeepsFrom.set_ ⟨hb.size, fun k o _ hk _ => (hb.block k (Array.getElem?_eq_some_iff.1 hk).1).trans hk⟩ _ _
theorem SeenStart.set_ {α : Type} {tSet tE size : Nat} {cells : α → List Value} {W W1 : World} {b : Nat} {sn : Bool} {A : Option Addr} {c : Nat} {l : List α} (h : SeenStart b W W1) (hS : SetAt tSet tE size cells W b sn A c l) (hne : tE ≠ tSet) : SetAt tSet tE size cells W1 b true A c l := by
 obtain ⟨X1, hb, rfl⟩ := h
 refine ⟨(hS.new_ hb).blk.set_ 1 _, ownsRow_setCell_other (hS.new_ hb).row ?_ _⟩
 exact own_blk_ne hS.row hS.blk hne
theorem SeenStart.fr {b : Nat} {W W1 : World} (h : SeenStart b W W1) : Fr (· = b) W W1 := by
 obtain ⟨X1, hb, rfl⟩ := h
 exact (Fr.of_new (M := (· = b)) hb).setCell (p := ⟨b, 1, none⟩) (.inl rfl) _
abbrev Rounds {α : Type} (lo : Nat) (encs : α → Array Value) (xs : List α) (Kp : World → World → Prop) (J Jx : List α → World → Prop) : Prop :=
 ∀ pre x post W1, xs = pre ++ x :: post → J pre W1 → YieldAt Fence.wide 0 Try.prog lo (encs x) W1 fun e W' =>
  (e = .returned (.bool true) ∧ J (pre ++ [x]) W' ∧ Kp W1 W') ∨ (e = .returned (.bool false) ∧ Jx (pre ++ [x]) W')
abbrev Told {α : Type} (xs : List α) (J Jx : List α → World → Prop) (e : Ending) (W' : World) : Prop := (∃ v, e = .returned v) ∧ (J xs W' ∨ ∃ pre post, xs = pre ++ post ∧ Jx pre W')
end Go.Proofs.Ytnfgilbaglfkeaa
namespace Go.Proofs.Ytnfgilbaglfkeaa
open Go.RowKit
theorem SeenStart.from_ {b : Nat} {W W1 F : World} (h : SeenStart b W1 F) (hb : Below W.heap.size W W1) : SeenStart b W F := by
 obtain ⟨X, hX, rfl⟩ := h
 exact ⟨X, hb.trans (hX.mono hb.size), rfl⟩
theorem SeenStart.size {b : Nat} {W F : World} (h : SeenStart b W F) : W.heap.size ≤ F.heap.size := by
 obtain ⟨X, hX, rfl⟩ := h
 simpa using hX.size
end Go.Proofs.Ytnfgilbaglfkeaa
namespace Go.Proofs.Ytnfgilbaglfkeaa
open Go.RowKit Go.Shelf
attribute [local go_sem] Oper.semAt_some
structure Seq {α : Type} (gf : Nat) (lb : Array Value) (encs : α → Array Value) (xs : List α) (w : World) (start Kp : World → World → Prop) : Prop where
 enter : ∀ args w, (callFunc gf args).run Try.prog w = .ok (.enter gf args) w
 iter : ∀ W, Below w.heap.size w W → Iter Try.prog gf lb encs xs W start (fun X Y => Kp X Y ∧ KeepsFrom W.heap.size X Y)
 trans : ∀ A B C, Kp A B → Kp B C → Kp A C
 keep : ∀ A B, Priv w.heap.size A B → Kp A B
 below : ∀ A B, Below w.heap.size A B → Kp A B
 mods : ∀ W W1, start W W1 → Fr (· < w.heap.size) W W1
theorem keepsFrom_of_fr {B : Nat} {X Y : World} (h : Fr (· < B) X Y) : KeepsFrom B X Y := ⟨h.size, fun k _ hB hk _ => (h.block k (Array.getElem?_eq_some_iff.1 hk).1 (by omega)).trans hk⟩
theorem Seq.new_ {α : Type} {gf : Nat} {lb : Array Value} {encs : α → Array Value} {xs : List α} {w w' : World} {start Kp : World → World → Prop} (h : Seq gf lb encs xs w start Kp) (hb : Below w.heap.size w w') : Seq gf lb encs xs w' start Kp :=
 ⟨h.enter, fun W hW => h.iter W (hb.trans (hW.mono hb.size)), h.trans, fun A B hp => h.keep A B (hp.mono hb.size), fun A B hp => h.below A B (hp.mono hb.size), fun W W1 hs => (h.mods W W1 hs).mono (fun _ _ hk => Nat.lt_of_lt_of_le hk hb.size)⟩
end Go.Proofs.Ytnfgilbaglfkeaa
namespace Go.Proofs.Ytnfgilbaglfkeaa
open Go.RowKit
abbrev PgRSet := SetAt (α := PgR) 163 120 7 PgR.cells
theorem nilAhead_PgR (k0 : Int) (k1 : Int) (k2 : Int) (k3 : Value) (k4 : Value) (k5 : Value) (k6 : Value) (w : World) : (nilAhead 306 120 (.agg #[.int .i64 k0, .int .i64 k1, .int .i64 k2,  k3,  k4,  k5,  k6]) "Compare").run Try.prog w = .ok (some false) w := by kernel_rfl
theorem method_PgR (k0 : Int) (k1 : Int) (k2 : Int) (k3 : Value) (k4 : Value) (k5 : Value) (k6 : Value) (w : World) : (method 306 120 (.agg #[.int .i64 k0, .int .i64 k1, .int .i64 k2,  k3,  k4,  k5,  k6]) "Compare").run Try.prog w = .ok (129, .agg #[.int .i64 k0, .int .i64 k1, .int .i64 k2,  k3,  k4,  k5,  k6]) w := by kernel_rfl
def FoundPgR (l : List PgR) (x : PgR) (w : World) (e : Ending) (w' : World) : Prop :=
 e = .returned (.tuple #[.int .i64 (rank cmpPgR l x), .bool (has cmpPgR l x)]) ∧ Below w.heap.size w w'
set_option maxRecDepth 100000 in
set_option maxHeartbeats 4000000 in
theorem find_PgR (b c : Nat) (sn : Bool) (A : Option Addr) (l : List PgR) (x : PgR) (w : World) (hS : PgRSet w b sn A c l) (hs : Srt cmpPgR l) (hl : (l.length : Int) ≤ 4611686018427387904) :
 Calls Try.prog 85 #[.pointer (some ⟨b, 0, none⟩), .agg #[.int .i64 x.kk, .int .i64 x.num, .int .i64 x.level, .slice x.elems.A x.elems.n x.elems.c, .slice x.holes.A x.holes.n x.holes.c, .slice x.aparts.A x.aparts.n x.aparts.c, .slice x.news.A x.news.n x.news.c]] w (FoundPgR l x w) := by
 have hrd := hS.rd PgR.cells_length
 have h0 := hS.cell0
 have hb := hS.lt
 clear hS
 have HS := Lib.hid hs
 have HRD := Lib.hid hrd
 clear hs hrd
 go_enter Try.func85, Try.ntmps85
 go_wp2_with fail
 go_quiet (fail)
 go_wp2_with fail
 obtain ⟨W0, hW0⟩ : ∃ W0, W0 = ((w.alloc (Obj.cells #[Value.int IntKind.i64 x.kk, Value.int IntKind.i64 x.num, Value.int IntKind.i64 x.level, .slice x.elems.A x.elems.n x.elems.c, .slice x.holes.A x.holes.n x.holes.c, .slice x.aparts.A x.aparts.n x.aparts.c, .slice x.news.A x.news.n x.news.c] 120)).drewN nq) := ⟨_, rfl⟩
 have hB0 : Below w.heap.size w W0 := by rw [hW0]; exact Below.drewN' ((Below.refl _ _).alloc (Nat.le_refl _) _) _
 have hx0 : W0.cell? ⟨w.heap.size, 0, none⟩ = some (.int .i64 x.kk) := by rw [hW0]; go_simp
 have hx1 : W0.cell? ⟨w.heap.size, 1, none⟩ = some (.int .i64 x.num) := by rw [hW0]; go_simp
 have hx2 : W0.cell? ⟨w.heap.size, 2, none⟩ = some (.int .i64 x.level) := by rw [hW0]; go_simp
 have hx3 : W0.cell? ⟨w.heap.size, 3, none⟩ = some (.slice x.elems.A x.elems.n x.elems.c) := by rw [hW0]; go_simp
 have hx4 : W0.cell? ⟨w.heap.size, 4, none⟩ = some (.slice x.holes.A x.holes.n x.holes.c) := by rw [hW0]; go_simp
 have hx5 : W0.cell? ⟨w.heap.size, 5, none⟩ = some (.slice x.aparts.A x.aparts.n x.aparts.c) := by rw [hW0]; go_simp
 have hx6 : W0.cell? ⟨w.heap.size, 6, none⟩ = some (.slice x.news.A x.news.n x.news.c) := by rw [hW0]; go_simp
 rw [← hW0]
 clear hW0
 have HB0 := Lib.hid hB0
 clear hB0
 go_loopw [6, 7] (fun lo hi wr => ∃ i j : Nat, lo = .int .i64 i ∧ hi = .int .i64 j ∧ i ≤ j ∧ j ≤ l.length ∧ (∀ k, (h : k < l.length) → k < i → cmpPgR l[k] x < 0) ∧ (∀ k, (h : k < l.length) → j ≤ k → 0 < cmpPgR l[k] x) ∧ Below W0.heap.size W0 wr) (fun lo hi wr => (intOf hi).toNat - (intOf lo).toNat)
 case atStart => exact ⟨0, l.length, rfl, rfl, Nat.zero_le _, Nat.le_refl _, fun k _ h => absurd h (by omega), fun k h h' => absurd h (by omega), Below.refl _ _⟩
 case round =>
  obtain ⟨i, j, rfl, rfl, hij, hj, hlo, hhi, hB⟩ := hrel
  have HLO := Lib.hid hlo
  have HHI := Lib.hid hhi
  clear hlo hhi
  have hsz : w.heap.size < W0.heap.size := World.block_lt_of_cell? W0 _ hx0
  by_cases hlt : i < j
  · obtain ⟨m, hm⟩ : ∃ m, m = i + (j - i) / 2 := ⟨_, rfl⟩
    have hml : m < l.length := by omega
    have hmj : m < j := by omega
    have hmi : i ≤ m := by omega
    have e1 : ((i : Int) + ((j : Int) - (i : Int)) / 2) = (m : Int) := by omega
    have E1 := Lib.hid e1
    clear e1 hm
    obtain ⟨g, off, rfl, hgs, hcell⟩ := HRD.out.at_ hml
    have low : ∀ (p : Addr), p.block < w.heap.size → wr.cell? p = w.cell? p := fun p hp => (hB.cell (p := p) (by omega)).trans (HB0.out.cell (p := p) hp)
    have r0 := (low ⟨b, 0, none⟩ hb).trans h0
    have q0 := (low ⟨g, off + m * 7, none⟩ hgs).trans (hcell 0 _ rfl)
    have q1 := (low ⟨g, off + m * 7 + 1, none⟩ hgs).trans (hcell 1 _ rfl)
    have q2 := (low ⟨g, off + m * 7 + 2, none⟩ hgs).trans (hcell 2 _ rfl)
    have q3 := (low ⟨g, off + m * 7 + 3, none⟩ hgs).trans (hcell 3 _ rfl)
    have q4 := (low ⟨g, off + m * 7 + 4, none⟩ hgs).trans (hcell 4 _ rfl)
    have q5 := (low ⟨g, off + m * 7 + 5, none⟩ hgs).trans (hcell 5 _ rfl)
    have q6 := (low ⟨g, off + m * 7 + 6, none⟩ hgs).trans (hcell 6 _ rfl)
    have y0 := (hB.cell (p := ⟨w.heap.size, 0, none⟩) hsz).trans hx0
    have y1 := (hB.cell (p := ⟨w.heap.size, 1, none⟩) hsz).trans hx1
    have y2 := (hB.cell (p := ⟨w.heap.size, 2, none⟩) hsz).trans hx2
    have y3 := (hB.cell (p := ⟨w.heap.size, 3, none⟩) hsz).trans hx3
    have y4 := (hB.cell (p := ⟨w.heap.size, 4, none⟩) hsz).trans hx4
    have y5 := (hB.cell (p := ⟨w.heap.size, 5, none⟩) hsz).trans hx5
    have y6 := (hB.cell (p := ⟨w.heap.size, 6, none⟩) hsz).trans hx6
    have b1 : (0 : Int) ≤ (m : Int) := by omega
    have b2 : (m : Int) < (l.length : Int) := by omega
    have hsw : W0.heap.size ≤ wr.heap.size := hB.size
    have N := nilAhead_PgR
    have M := method_PgR
    clear low hcell hx0 hx1 hx2 hx3 hx4 hx5 hx6 h0
    have HB := Lib.hid hB
    clear hB
    obtain ⟨y, hy⟩ : ∃ y, y = l[m] := ⟨_, rfl⟩
    rw [← hy] at q0 q1 q2 q3 q4 q5 q6
    have HY := Lib.hid hy
    clear hy
    have hbw : b < wr.heap.size := by omega
    have hgw : g < wr.heap.size := by omega
    have hww : w.heap.size < wr.heap.size := by omega
    go_wp2_with fail
    rw [E1.out]
    go_region_held3 (fun w' => w'.cell? ⟨b, 0, none⟩ = some (.slice (some ⟨g, off, none⟩) l.length c) ∧ w'.cell? ⟨g, off + m * 7, none⟩ = some (.int .i64 y.kk) ∧ w'.cell? ⟨g, off + m * 7 + 1, none⟩ = some (.int .i64 y.num) ∧ w'.cell? ⟨g, off + m * 7 + 2, none⟩ = some (.int .i64 y.level) ∧ w'.cell? ⟨g, off + m * 7 + 3, none⟩ = some (.slice y.elems.A y.elems.n y.elems.c) ∧ w'.cell? ⟨g, off + m * 7 + 4, none⟩ = some (.slice y.holes.A y.holes.n y.holes.c) ∧ w'.cell? ⟨g, off + m * 7 + 5, none⟩ = some (.slice y.aparts.A y.aparts.n y.aparts.c) ∧ w'.cell? ⟨g, off + m * 7 + 6, none⟩ = some (.slice y.news.A y.news.n y.news.c) ∧ w'.cell? ⟨w.heap.size, 0, none⟩ = some (.int .i64 x.kk) ∧ w'.cell? ⟨w.heap.size, 1, none⟩ = some (.int .i64 x.num) ∧ w'.cell? ⟨w.heap.size, 2, none⟩ = some (.int .i64 x.level) ∧ w'.cell? ⟨w.heap.size, 3, none⟩ = some (.slice x.elems.A x.elems.n x.elems.c) ∧ w'.cell? ⟨w.heap.size, 4, none⟩ = some (.slice x.holes.A x.holes.n x.holes.c) ∧ w'.cell? ⟨w.heap.size, 5, none⟩ = some (.slice x.aparts.A x.aparts.n x.aparts.c) ∧ w'.cell? ⟨w.heap.size, 6, none⟩ = some (.slice x.news.A x.news.n x.news.c))
     (first | go_keep | (refine ⟨?_, ?_, ?_, ?_, ?_, ?_, ?_, ?_, ?_, ?_, ?_, ?_, ?_, ?_, ?_⟩ <;> exact (hb1.cell (by simpa using by assumption)).trans (by simp [*])))
     ((go_at_call 129; refine (cmp_pgr y x _).mono ?_; rintro e w1 ⟨rfl, hb1⟩))
    have HB1 : Below W0.heap.size W0 w1 := HB.out.drew.trans (hb1.mono hsw)
    clear r0 q0 q1 q2 q3 q4 q5 q6 y0 y1 y2 y3 y4 y5 y6 N M
    by_cases hc : cmpPgR y x = 0
    · have HC := Lib.hid hc
      have t1 : (cmpPgR y x == 0) = true := by simp [hc]
      clear hc
      go_wp2_with fail
      go_ret2
      have e := HC.out
      rw [HY.out] at e
      refine ⟨?_, HB0.out.trans (HB1.mono (by omega))⟩
      rw [rank_some tc_pgr HS.out hml e, (at_some tc_pgr HS.out hml e).2.2.1]
      rfl
    · have t1 : (cmpPgR y x == 0) = false := by simp [hc]
      by_cases hc2 : cmpPgR y x < 0
      · have HC := Lib.hid hc2
        have t2 : decide (cmpPgR y x < 0) = true := by simpa using hc2
        clear hc hc2
        go_wp2_with fail
        go_roundw
        case rel =>
         refine ⟨m + 1, j, by go_num, rfl, by omega, hj, fun k h1 h2 => ?_, HHI.out, HB1⟩
         have e := HC.out
         rw [HY.out] at e
         rcases Nat.lt_or_ge k m with h3 | h3
         · exact tc_pgr.lt_of_lt_of_le (HS.out.lt h3 hml) (by omega)
         · obtain rfl : k = m := by omega
           exact e
        case measure => simp [intOf]; omega
      · have t2 : decide (cmpPgR y x < 0) = false := by simpa using hc2
        have hc3 : 0 < cmpPgR y x := by omega
        have HC := Lib.hid hc3
        clear hc hc2 hc3
        go_wp2_with fail
        go_roundw
        case rel =>
         refine ⟨i, m, rfl, rfl, by omega, by omega, HLO.out, fun k h1 h2 => ?_, HB1⟩
         have e := HC.out
         rw [HY.out] at e
         rcases Nat.lt_or_ge m k with h3 | h3
         · exact (tc_pgr.symm _ _).1 (tc_pgr.lt_trans ((tc_pgr.symm _ _).2 e) (HS.out.lt h3 h1))
         · obtain rfl : k = m := by omega
           exact e
        case measure => simp [intOf]; omega
  · obtain rfl : i = j := by omega
    have HB := Lib.hid hB
    clear hB
    go_wp2_with fail
    go_ret2
    refine ⟨?_, HB0.out.trans (HB.out.mono (by omega))⟩
    rw [rank_none hj HLO.out HHI.out, (at_none HLO.out HHI.out).2.2]
    rfl
end Go.Proofs.Ytnfgilbaglfkeaa
namespace Go.Proofs.Ytnfgilbaglfkeaa
open Go.RowKit Go.Shelf
attribute [local go_sem] Oper.semAt_some
def encPgR (x : PgR) : Array Value := #[.agg #[.int .i64 x.kk, .int .i64 x.num, .int .i64 x.level, .slice x.elems.A x.elems.n x.elems.c, .slice x.holes.A x.holes.n x.holes.c, .slice x.aparts.A x.aparts.n x.aparts.c, .slice x.news.A x.news.n x.news.c]]
set_option maxRecDepth 100000 in
set_option maxHeartbeats 2000000 in
theorem from_PgR (lo b c k : Nat) (sn : Bool) (A : Option Addr) (l : List PgR) (W : World) (hS : PgRSet W b sn A c l) (hk : k ≤ l.length) (J Jx : List PgR → World → Prop)
 (h0 : J [] (W.setCell ⟨b, 1, none⟩ (.bool true))) (hY : Rounds lo encPgR (l.drop k) (RowKeep A) J Jx) :
 CallsIn Fence.wide 0 Try.prog 88 #[.pointer (some ⟨b, 0, none⟩), .int .i64 k, .func (.yield lo) #[] #[]] W (Told (l.drop k) J Jx) := by
 have s0 := hS.cell0
 have s1 := hS.cell1
 have f1 := hS.blk.frozen 1
 have hne := own_blk_ne hS.row hS.blk (by decide)
 have hrd : RowRd (W.setCell ⟨b, 1, none⟩ (.bool true)) 7 PgR.cells A c l := ownsRow_rd PgR.cells_length (ownsRow_setCell_other hS.row hne _)
 have hlm : (l.length : Int) ≤ 9223372036854775807 := by have := hrd.cap; omega
 have HRD := Lib.hid hrd
 have H0 := Lib.hid h0
 have HY := Lib.hid hY
 clear hS hrd h0 hY hne
 refine callsIn_of_wp Try.func88 rfl trivial ?_
 simp only [Try.ntmps88, List.size_toArray, List.length_cons, List.length_nil, Nat.reduceAdd, Nat.reduceSub, Array.replicate_succ, Array.replicate_zero, List.push_toArray, List.append_toArray, List.nil_append, List.cons_append]
 gi_wp2
 gi_loopw [7] (fun s wr => ∃ pre post, s = .int .i64 ((k + pre.length : Nat) : Int) ∧ l.drop k = pre ++ post ∧ J pre wr ∧ RowRd wr 7 PgR.cells A c l) (fun s wr => l.length - (intOf s).toNat)
 case atStart => exact ⟨[], l.drop k, by simp, by simp, H0.out, HRD.out⟩
 case round =>
  obtain ⟨pre, post, rfl, hx, hJ, hrd⟩ := hrel
  have hlen : k + pre.length + post.length = l.length := by have := congrArg List.length hx; simp at this; omega
  have HX := Lib.hid hx
  have HJ := Lib.hid hJ
  have HR := Lib.hid hrd
  clear hx hJ hrd
  cases post with
  | nil =>
    have e1 : ((k + pre.length : Nat) : Int) = (l.length : Int) := by simp at hlen; omega
    rw [e1]
    clear hlen e1
    gi_wp2
    go_end0
    exact ⟨⟨_, rfl⟩, .inl (by have := HX.out; rw [List.append_nil] at this; rw [this]; exact HJ.out)⟩
  | cons x post =>
    obtain ⟨m, hm⟩ : ∃ m, m = k + pre.length := ⟨_, rfl⟩
    have hml : m < l.length := by simp at hlen; omega
    have hget : l[m] = x := by
     apply Option.some.inj
     rw [← List.getElem?_eq_getElem, hm, ← List.getElem?_drop, HX.out]
     simp
    obtain ⟨g, off, rfl, hgs, hcell⟩ := HR.out.at_ hml
    rw [hget] at hcell
    have q0 : wr.cell? ⟨g, off + m * 7, none⟩ = some (.int .i64 x.kk) := by simpa using hcell 0 _ rfl
    have q1 : wr.cell? ⟨g, off + m * 7 + 1, none⟩ = some (.int .i64 x.num) := by simpa using hcell 1 _ rfl
    have q2 : wr.cell? ⟨g, off + m * 7 + 2, none⟩ = some (.int .i64 x.level) := by simpa using hcell 2 _ rfl
    have q3 : wr.cell? ⟨g, off + m * 7 + 3, none⟩ = some (.slice x.elems.A x.elems.n x.elems.c) := by simpa using hcell 3 _ rfl
    have q4 : wr.cell? ⟨g, off + m * 7 + 4, none⟩ = some (.slice x.holes.A x.holes.n x.holes.c) := by simpa using hcell 4 _ rfl
    have q5 : wr.cell? ⟨g, off + m * 7 + 5, none⟩ = some (.slice x.aparts.A x.aparts.n x.aparts.c) := by simpa using hcell 5 _ rfl
    have q6 : wr.cell? ⟨g, off + m * 7 + 6, none⟩ = some (.slice x.news.A x.news.n x.news.c) := by simpa using hcell 6 _ rfl
    have b1 : (0 : Int) ≤ (m : Int) := by omega
    have b2 : (m : Int) < (l.length : Int) := by omega
    rw [← hm]
    have HM := Lib.hid hm
    clear hcell hget hlen hm
    obtain ⟨fn, tmps, assign, body, hy, hR⟩ := HY.out pre x post wr HX.out HJ.out
    dsimp only [encPgR] at hy
    have HRR := Lib.hid hR
    clear hR
    gi_wp2_with fail
    refine ⟨rfl, HRR.out.mono ?_⟩
    rintro e W3 (⟨rfl, hJ3, hk3⟩ | ⟨rfl, hJx3⟩)
    · have HJ3 := Lib.hid hJ3
      have HK3 := Lib.hid hk3
      clear hJ3 hk3 hy q0 q1 q2 q3 q4 q5 q6
      gi_wp2
      go_roundw
      case rel => exact ⟨pre ++ [x], post, by rw [HM.out, List.length_append, List.length_singleton]; go_num, by rw [HX.out]; simp, HJ3.out, HK3.out.rd HR.out⟩
      case measure => simp [intOf] <;> omega
    · have HJ3 := Lib.hid hJx3
      clear hJx3 hy q0 q1 q2 q3 q4 q5 q6
      gi_wp2
      refine bodyPost_ret (results_none rfl _ _ _) rfl ?_
      exact ⟨⟨_, rfl⟩, .inr ⟨pre ++ [x], post, by rw [HX.out]; simp, HJ3.out⟩⟩
set_option maxRecDepth 100000 in
set_option maxHeartbeats 2000000 in
theorem all_PgR (kb b c : Nat) (sn : Bool) (A : Option Addr) (l : List PgR) (W : World) (hbox : W.cell? ⟨kb, 0, none⟩ = some (.pointer (some ⟨b, 0, none⟩))) (hS : PgRSet W b sn A c l) :
 Iter Try.prog 87 #[.pointer (some ⟨kb, 0, none⟩)] encPgR l W (SeenStart b) (RowKeep A) := by
 intro lo J Jx _ _ h0 hY
 have H0 := Lib.hid (h0 (W.setCell ⟨b, 1, none⟩ (.bool true)) ⟨W, Below.refl _ _, rfl⟩)
 have HY := Lib.hid hY
 have HS := Lib.hid hS
 clear h0 hY hS
 refine callsIn_of_wp Try.func87 rfl trivial ?_
 simp only [Try.ntmps87, List.size_toArray, List.length_cons, List.length_nil, Nat.reduceAdd, Nat.reduceSub, Array.replicate_succ, Array.replicate_zero, List.push_toArray, List.append_toArray, List.nil_append, List.cons_append]
 gi_wp2_with fail
 have hz : ((0 : Nat) : Int) = 0 := rfl
 refine ⟨trivial, rfl, ?_⟩
 refine (from_PgR lo b c 0 sn A l W HS.out (Nat.zero_le _) J Jx H0.out (by rw [List.drop_zero]; exact HY.out)).mono ?_
 rintro e W3 ⟨⟨v, rfl⟩, h⟩
 rw [List.drop_zero] at h
 have H := Lib.hid h
 clear h
 gi_wp2
 go_end0
 exact ⟨⟨_, rfl⟩, H.out⟩
end Go.Proofs.Ytnfgilbaglfkeaa
namespace Go.Proofs.Ytnfgilbaglfkeaa
open Go.RowKit
theorem info_PgR : (Try.prog.info? 120).map (fun i => (i.zero, i.size, i.bytes)) = some (some (.agg #[.int .i64 0, .int .i64 0, .int .i64 0, .slice none 0 0, .slice none 0 0, .slice none 0 0, .slice none 0 0]), 7, 120) := by kernel_rfl
theorem PgR.one (x : PgR) : ∀ u ∈ PgR.cells x, u.oneCell' = true := by intro u hu; simp [PgR.cells] at hu; rcases hu with rfl | rfl | rfl | rfl | rfl | rfl | rfl <;> rfl
theorem PgR.oneAll (l : List PgR) : ∀ u ∈ l.flatMap PgR.cells, u.oneCell' = true := by intro u hu; obtain ⟨x, _, hx⟩ := List.mem_flatMap.1 hu; exact PgR.one x u hx
def OwnPostPgR (w : World) (b : Nat) (sn : Bool) (A : Option Addr) (l : List PgR) (e : Ending) (w' : World) : Prop :=
 e = .returned (.tuple #[]) ∧ ∃ A' c', PgRSet w' b false A' c' l ∧ Fr (· = b) w w' ∧ Moved w sn A false A'
set_option maxRecDepth 100000 in
set_option maxHeartbeats 1000000 in
theorem own_no_PgR (b c : Nat) (A : Option Addr) (l : List PgR) (w : World) (hS : PgRSet w b false A c l) :
 Calls Try.prog 86 #[.pointer (some ⟨b, 0, none⟩)] w (OwnPostPgR w b false A l) := by
 have h1 := hS.cell1
 have HS := Lib.hid hS
 clear hS
 go_enter Try.func86, Try.ntmps86
 go_wp2
 go_end0
 exact ⟨rfl, A, c, HS.out, Fr.refl _ _, .inl ⟨rfl, rfl⟩⟩
set_option maxRecDepth 100000 in
set_option maxHeartbeats 1000000 in
theorem own_yes_PgR (b c : Nat) (A : Option Addr) (l : List PgR) (w : World) (hS : PgRSet w b true A c l) (hl : (l.length : Int) ≤ 1000000000) :
 Calls Try.prog 86 #[.pointer (some ⟨b, 0, none⟩)] w (OwnPostPgR w b true A l) := by
 obtain ⟨i0, hi, hz0, hz1, hz2⟩ := info_parts info_PgR
 have h0 := hS.cell0
 have h1 := hS.cell1
 have hb := hS.lt
 have f0 := hS.blk.frozen 0
 have f1 := hS.blk.frozen 1
 have hrd := hS.rd PgR.cells_length
 have HB := Lib.hid hS.blk
 have HRD := Lib.hid hrd
 clear hS hrd
 have e1 : IntKind.i64.wrap ((l.length : Int) + 1) = (l.length : Int) + 1 := IntWalk.i64_in _ (by omega)
 have hmk : ∀ W : World, (Instr.makeSlice 161 (.int .i64 0) (.int .i64 ((l.length : Int) + 1))).run Try.prog W = .ok (.slice (some ⟨W.heap.size, 0, none⟩) 0 (l.length + 1)) (W.alloc (.cells (madeCells (Value.cells (.agg #[.int .i64 0, .int .i64 0, .int .i64 0, .slice none 0 0, .slice none 0 0, .slice none 0 0, .slice none 0 0])) ((l.length + 1) * 7)) 120)) := fun W => by
  have h := run_make (P := Try.prog) W 161 120 i0 _ Try.underlying161 hi hz0 .i64 .i64 0 ((l.length : Int) + 1) (by omega) (by omega) (by rw [hz2]; omega) (by omega)
  rw [hz1] at h
  simpa [show ((l.length : Int) + 1).toNat = l.length + 1 by omega] using h
 go_enter Try.func86, Try.ntmps86
 go_wp2_with fail
 refine wp_region_E (fun w9 => Below w.heap.size w w9) [(0, 0), (1, 0), (2, 0), (3, 0), (4, 1), (5, 0), (6, 0), (8, 0), (9, 0), (10, 0), (11, 1), (7, 2), (12, 2), (13, 0), (14, 0), (15, 2)] (by kernel_rfl) (by kernel_rfl) (fun KK hKK => ?_)
 simp only [beside, List.filterMap_cons, List.filterMap_nil, List.getElem?_toArray, List.getElem?_cons_zero, List.getElem?_cons_succ, Option.map_some]
 repeat ((first | (refine wpX_w ?_ (Or.inl ⟨by rfl, fun w9 => ?_⟩) ?_; rotate_left 1; go_simp; with_reducible rfl) | (refine wpX_l ?_ (((Below.refl _ _).drew)) (Or.inl ⟨by rfl, fun w9 hw9 => ?_⟩) ?_; rotate_left 1; obtain ⟨hc9, hf9⟩ := bcell hw9; go_simp; with_reducible rfl) | refine wpX_w undef (Or.inr ⟨by rfl, rfl⟩) ?_ | refine wpX_l undef (((Below.refl _ _).drew)) (Or.inr ⟨by rfl, rfl⟩) ?_); go_frame)
 refine wpX_es (fun K9 hK9 => ?_)
 go_simp
 refine hK9 _ _ (((Below.refl _ _).drew).alloc (Nat.le_refl _) _) ?_
 clear hK9 K9
 refine wpX_e (by kernel_rfl) (fun K9 hK9 => ?_)
 refine step_append_src _ (by rfl) _ _ _ (by rfl) 120 i0 _ 7 120 Try.underlying161 hi hz0 hz1 hz2 rfl (by omega) _ 0 [] (by rfl) (World.ownsRow_made _ _ _ (Nat.zero_le _) (by unfold maxLen; omega) (by simp [madeCells])) A l.length c (l.flatMap PgR.cells) (by rfl) (flat_length PgR.cells_length l)
  ((HRD.out.drew.alloc _).news PgR.cells_length (by omega)) (PgR.oneAll l) (by unfold maxLen; omega) (by omega) ?_
 intro v2 w2 hown hgr hnil hat
 refine hK9 _ _ ?_
 clear hK9 K9
 rw [Nat.zero_add, List.nil_append] at hown
 obtain ⟨A', c', rfl, _, _, hz⟩ := own_form2 hown
 have HB1 := (HB.out.drew.alloc (.cells (madeCells (Value.cells (.agg #[.int .i64 0, .int .i64 0, .int .i64 0, .slice none 0 0, .slice none 0 0, .slice none 0 0, .slice none 0 0])) ((l.length + 1) * 7)) 120)).grown hgr (by simp [Value.ownBlock]; omega)
 have c0 := (HB1.cell 0).trans rfl
 have c1 := (HB1.cell 1).trans rfl
 have z0 := HB1.frozen 0
 have z1 := HB1.frozen 1
 have HB2 := Lib.hid HB1
 clear HB1
 repeat ((first | (refine wpX_w ?_ (Or.inl ⟨by rfl, fun w9 => ?_⟩) ?_; rotate_left 1; go_simp; with_reducible rfl) | (refine wpX_l ?_ (((Below.refl _ _).drew).alloc (Nat.le_refl _) _) (Or.inl ⟨by rfl, fun w9 hw9 => ?_⟩) ?_; rotate_left 1; obtain ⟨hc9, hf9⟩ := bcell hw9; go_simp; with_reducible rfl) | refine wpX_w undef (Or.inr ⟨by rfl, rfl⟩) ?_ | refine wpX_l undef (((Below.refl _ _).drew).alloc (Nat.le_refl _) _) (Or.inr ⟨by rfl, rfl⟩) ?_); go_frame)
 refine wpX_e (by kernel_rfl) (fun K9 hK9 => ?_)
 go_simp
 refine hK9 _ _ ?_
 clear hK9 K9
 refine wpX_nil ?_
 simp only [OnlyN_normal]
 refine hKK _ _ ?_
 clear hKK KK
 go_wp2
 go_end0
 have hb2 : (Value.slice A' l.length c').ownBlock = some w.heap.size ∨ (Value.slice A' l.length c').ownBlock = some (w.heap.size + 1) := by
  rcases hat with h | h
  · left; rw [h]; rfl
  · right; rw [h]; simp
 have hA : ∃ g, w.heap.size ≤ g ∧ A' = some ⟨g, 0, none⟩ := by
  rcases A' with _ | a
  · exfalso; simp [Value.ownBlock] at hb2
  · obtain ⟨g, rfl⟩ := hz a rfl
    refine ⟨g, ?_, rfl⟩
    simp [Value.ownBlock] at hb2
    omega
 obtain ⟨g, hg, rfl⟩ := hA
 have HB1 := HB2.out
 have HF : Fr (· = b) w w2 := ((Fr.refl (· = b) w).drew.alloc _).grown hgr (fun k e => by simp [Value.ownBlock] at e; right; omega)
 refine ⟨rfl, some ⟨g, 0, none⟩, c', ⟨(HB1.set_ 0 _).set_ 1 _, ?_⟩, (HF.setCell (p := ⟨b, 0, none⟩) (.inl rfl) _).setCell (p := ⟨b, 1, none⟩) (.inl rfl) _, .inr ⟨rfl, g, hg, rfl⟩⟩
 have hne : (Value.slice (some ⟨g, 0, none⟩) l.length c').ownBlock ≠ some b := by simp [Value.ownBlock]; omega
 exact ownsRow_setCell_other (a := ⟨b, 1, none⟩) (ownsRow_setCell_other (a := ⟨b, 0, none⟩) hown hne _) hne _
theorem own_PgR (b c : Nat) (sn : Bool) (A : Option Addr) (l : List PgR) (w : World) (hS : PgRSet w b sn A c l) (hl : (l.length : Int) ≤ 1000000000) :
 Calls Try.prog 86 #[.pointer (some ⟨b, 0, none⟩)] w (OwnPostPgR w b sn A l) := by
 cases sn
 · exact own_no_PgR b c A l w hS
 · exact own_yes_PgR b c A l w hS hl
end Go.Proofs.Ytnfgilbaglfkeaa
namespace Go.Proofs.Ytnfgilbaglfkeaa
open Go.RowKit Go.Shelf
attribute [local go_sem] Oper.semAt_some
set_option maxHeartbeats 400000 in
theorem mkall_PgR (b : Nat) (w : World) :
 Calls Try.prog 68 #[.pointer (some ⟨b, 0, none⟩)] w fun e w' => e = .returned (.func (.func 87) #[] #[.pointer (some ⟨w.heap.size, 0, none⟩)]) ∧ Below w.heap.size w w' ∧ w'.cell? ⟨w.heap.size, 0, none⟩ = some (.pointer (some ⟨b, 0, none⟩)) := by
 go_enter Try.func68, Try.ntmps68
 go_wp2
 go_ret
 exact ⟨rfl, (Below.refl _ _).alloc (Nat.le_refl _) _, by go_simp⟩
theorem seq_all_PgR (kb b c : Nat) (sn : Bool) (A : Option Addr) (l : List PgR) (w : World) (hbox : w.cell? ⟨kb, 0, none⟩ = some (.pointer (some ⟨b, 0, none⟩))) (hS : PgRSet w b sn A c l) :
 Seq 87 #[.pointer (some ⟨kb, 0, none⟩)] encPgR l w (SeenStart b) (RowKeep A) :=
 ⟨by intro args w; kernel_rfl, fun W hW => (all_PgR kb b c sn A l W ((hW.cell (World.block_lt_of_cell? _ _ hbox)).trans hbox) (hS.new_ hW)).weak (fun _ _ h => h.1), fun _ _ _ => RowKeep.trans, fun _ _ => RowKeep.of_priv hS.row_lt, fun _ _ => RowKeep.of_below hS.row_lt, fun _ _ h => h.fr.mono (fun k _ hk => by subst hk; exact hS.lt)⟩
end Go.Proofs.Ytnfgilbaglfkeaa
namespace Go.Proofs.Ytnfgilbaglfkeaa
open Go.RowKit Go.Shelf
structure SeqP {α : Type} (gf : Nat) (lb : Array Value) (encs : α → Array Value) (xs : List α) (w : World) (start Kp : World → World → Prop) : Prop where
 enter : ∀ args w, (callFunc gf args).run Try.prog w = .ok (.enter gf args) w
 iter : ∀ W, Below w.heap.size w W → IterP Try.prog gf lb encs xs W start Kp
 trans : ∀ A B C, Kp A B → Kp B C → Kp A C
 keep : ∀ A B, Priv w.heap.size A B → Kp A B
 below : ∀ A B, Below w.heap.size A B → Kp A B
 mods : ∀ W W1, start W W1 → Fr (· < w.heap.size) W W1
theorem SeqP.new_ {α : Type} {gf : Nat} {lb : Array Value} {encs : α → Array Value} {xs : List α} {w w' : World} {start Kp : World → World → Prop} (h : SeqP gf lb encs xs w start Kp) (hb : Below w.heap.size w w') : SeqP gf lb encs xs w' start Kp :=
 ⟨h.enter, fun W hW => h.iter W (hb.trans (hW.mono hb.size)), h.trans, fun A B hp => h.keep A B (hp.mono hb.size), fun A B hp => h.below A B (hp.mono hb.size), fun W W1 hs => (h.mods W W1 hs).mono (fun _ _ hk => Nat.lt_of_lt_of_le hk hb.size)⟩
theorem Seq.p {α : Type} {gf : Nat} {lb : Array Value} {encs : α → Array Value} {xs : List α} {w : World} {start Kp : World → World → Prop} (h : Seq gf lb encs xs w start Kp) : SeqP gf lb encs xs w start Kp :=
 ⟨h.enter, fun W hW => (h.iter W hW).p, h.trans, h.keep, h.below, h.mods⟩
end Go.Proofs.Ytnfgilbaglfkeaa
