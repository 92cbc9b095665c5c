/-
  Texts put together: LeafPage, FindPage, OpsPage, PutPage, DropPage, MiscPage, NewPage, WorkPage, EagerT.
-/
import Derived.Test.YthogokcbbkjcdaaMa

namespace Go.Proofs.Ythogokcbbkjcdaa
open Go.RowKit
structure Page where
  key : UInt8
  v : Int
  deriving DecidableEq
def Page.kk (p : Page) : Int := (p.key.toNat : Int)
theorem Page.kk_bd (p : Page) : 0 ≤ p.kk ∧ p.kk ≤ 255 := by
  unfold Page.kk
  have := p.key.toNat_lt
  omega
def Page.cells (p : Page) : List Value := [.int .u8 p.kk, .int .i64 p.v]
theorem Page.cells_length (p : Page) : p.cells.length = 2 := rfl
def cmpPage (a b : Page) : Int := a.kk - b.kk
theorem tc_page : TC cmpPage := ⟨fun x => by unfold cmpPage; omega, fun x y => by unfold cmpPage; omega, fun x y z => by unfold cmpPage; omega⟩
theorem cmpPage_eq {a b : Page} : cmpPage a b = 0 ↔ a.key = b.key := by
  unfold cmpPage Page.kk
  constructor
  · intro h
    exact UInt8.toNat_inj.1 (by omega)
  · intro h
    rw [h]; omega
set_option maxHeartbeats 400000 in
theorem cmp_letter (a b : Int) (ha : 0 ≤ a) (ha2 : a ≤ 255) (hb : 0 ≤ b) (hb2 : b ≤ 255) (w : World) : Calls Try.prog 77 #[.int .u8 a, .int .u8 b] w fun e w' => e = .returned (.int .i64 (a - b)) ∧ w = w' := by
  have v1 : IntKind.i64.wrap a = a := IntWalk.i64_in _ (by omega)
  have v2 : IntKind.i64.wrap b = b := IntWalk.i64_in _ (by omega)
  have v3 : IntKind.i64.wrap (a - b) = a - b := IntWalk.i64_in _ (by omega)
  go_enter Try.func77, Try.ntmps77
  go_wp2
  go_ret
  exact ⟨rfl, rfl⟩
theorem nilAhead_letter (k : Int) (w : World) : (nilAhead 226 46 (.int .u8 k) "Compare").run Try.prog w = .ok (some false) w := by kernel_rfl
theorem method_letter (k : Int) (w : World) : (method 226 46 (.int .u8 k) "Compare").run Try.prog w = .ok (77, .int .u8 k) w := by kernel_rfl
set_option maxHeartbeats 1000000 in
theorem cmp_page (a b : Page) (w : World) : Calls Try.prog 83 #[.agg #[.int .u8 a.kk, .int .i64 a.v], .agg #[.int .u8 b.kk, .int .i64 b.v]] w fun e w' => e = .returned (.int .i64 (cmpPage a b)) ∧ Below w.heap.size w w' := by
  have ha := a.kk_bd
  have hb := b.kk_bd
  have N := nilAhead_letter
  have M := method_letter
  go_enter Try.func83, Try.ntmps83
  go_wp2_with fail
  refine (cmp_letter a.kk b.kk ha.1 ha.2 hb.1 hb.2 _).mono ?_
  rintro e w' ⟨rfl, rfl⟩
  go_wp2_with fail
  go_ret
  exact ⟨rfl, ((Below.refl _ _).alloc (Nat.le_refl _) _).alloc (by simp) _⟩
end Go.Proofs.Ythogokcbbkjcdaa

namespace Go.Proofs.Ythogokcbbkjcdaa
open Go.RowKit
abbrev PageSet := SetAt (α := Page) 88 73 2 Page.cells
theorem nilAhead_Page (k0 : Int) (k1 : Int) (w : World) : (nilAhead 226 73 (.agg #[.int .u8 k0, .int .i64 k1]) "Compare").run Try.prog w = .ok (some false) w := by kernel_rfl
theorem method_Page (k0 : Int) (k1 : Int) (w : World) : (method 226 73 (.agg #[.int .u8 k0, .int .i64 k1]) "Compare").run Try.prog w = .ok (83, .agg #[.int .u8 k0, .int .i64 k1]) w := by kernel_rfl

/-- What the search says at its end: the place, and whether it is there. -/
def FoundPage (l : List Page) (x : Page) (w : World) (e : Ending) (w' : World) : Prop :=
  e = .returned (.tuple #[.int .i64 (rank cmpPage l x), .bool (has cmpPage l x)]) ∧ Below w.heap.size w w'
set_option maxRecDepth 100000 in
set_option maxHeartbeats 4000000 in
theorem find_Page (b c : Nat) (sn : Bool) (A : Option Addr) (l : List Page) (x : Page) (w : World) (hS : PageSet w b sn A c l) (hs : Srt cmpPage l) (hl : (l.length : Int) ≤ 4611686018427387904) :
    Calls Try.prog 46 #[.pointer (some ⟨b, 0, none⟩), .agg #[.int .u8 x.kk, .int .i64 x.v]] w (FoundPage l x w) := by
  have hrd := hS.rd Page.cells_length
  have h0 := hS.cell0
  have hb := hS.lt
  clear hS
  have HS := Lib.hid hs
  have HRD := Lib.hid hrd
  clear hs hrd
  go_enter Try.func46, Try.ntmps46
  go_wp2_with fail
  go_quiet (fail)
  go_wp2_with fail
  obtain ⟨W0, hW0⟩ : ∃ W0, W0 = ((w.alloc (Obj.cells #[Value.int IntKind.u8 x.kk, Value.int IntKind.i64 x.v] 73)).drewN nq) := ⟨_, rfl⟩
  have hB0 : Below w.heap.size w W0 := by rw [hW0]; exact Below.drewN' ((Below.refl _ _).alloc (Nat.le_refl _) _) _
  have hx0 : W0.cell? ⟨w.heap.size, 0, none⟩ = some (.int .u8 x.kk) := by rw [hW0]; go_simp
  have hx1 : W0.cell? ⟨w.heap.size, 1, none⟩ = some (.int .i64 x.v) := by rw [hW0]; go_simp
  rw [← hW0]
  clear hW0
  have HB0 := Lib.hid hB0
  clear hB0
  go_loopw [6, 7] (fun lo hi wr => ∃ i j : Nat, lo = .int .i64 i ∧ hi = .int .i64 j ∧ i ≤ j ∧ j ≤ l.length ∧ (∀ k, (h : k < l.length) → k < i → cmpPage l[k] x < 0) ∧ (∀ k, (h : k < l.length) → j ≤ k → 0 < cmpPage l[k] x) ∧ Below W0.heap.size W0 wr) (fun lo hi wr => (intOf hi).toNat - (intOf lo).toNat)
  case atStart => exact ⟨0, l.length, rfl, rfl, Nat.zero_le _, Nat.le_refl _, fun k _ h => absurd h (by omega), fun k h h' => absurd h (by omega), Below.refl _ _⟩
  case round =>
    obtain ⟨i, j, rfl, rfl, hij, hj, hlo, hhi, hB⟩ := hrel
    have HLO := Lib.hid hlo
    have HHI := Lib.hid hhi
    clear hlo hhi
    have hsz : w.heap.size < W0.heap.size := World.block_lt_of_cell? W0 _ hx0
    by_cases hlt : i < j
    · obtain ⟨m, hm⟩ : ∃ m, m = i + (j - i) / 2 := ⟨_, rfl⟩
      have hml : m < l.length := by omega
      have hmj : m < j := by omega
      have hmi : i ≤ m := by omega
      have e1 : ((i : Int) + ((j : Int) - (i : Int)) / 2) = (m : Int) := by omega
      have E1 := Lib.hid e1
      clear e1 hm
      obtain ⟨g, off, rfl, hgs, hcell⟩ := HRD.out.at_ hml
      have low : ∀ (p : Addr), p.block < w.heap.size → wr.cell? p = w.cell? p := fun p hp => (hB.cell (p := p) (by omega)).trans (HB0.out.cell (p := p) hp)
      have r0 := (low ⟨b, 0, none⟩ hb).trans h0
      have q0 := (low ⟨g, off + m * 2, none⟩ hgs).trans (hcell 0 _ rfl)
      have q1 := (low ⟨g, off + m * 2 + 1, none⟩ hgs).trans (hcell 1 _ rfl)
      have y0 := (hB.cell (p := ⟨w.heap.size, 0, none⟩) hsz).trans hx0
      have y1 := (hB.cell (p := ⟨w.heap.size, 1, none⟩) hsz).trans hx1
      have b1 : (0 : Int) ≤ (m : Int) := by omega
      have b2 : (m : Int) < (l.length : Int) := by omega
      have hsw : W0.heap.size ≤ wr.heap.size := hB.size
      have N := nilAhead_Page
      have M := method_Page
      clear low hcell hx0 hx1 h0
      have HB := Lib.hid hB
      clear hB
      obtain ⟨y, hy⟩ : ∃ y, y = l[m] := ⟨_, rfl⟩
      rw [← hy] at q0 q1
      have HY := Lib.hid hy
      clear hy
      have hbw : b < wr.heap.size := by omega
      have hgw : g < wr.heap.size := by omega
      have hww : w.heap.size < wr.heap.size := by omega
      go_wp2_with fail
      rw [E1.out]
      go_region_held3 (fun w' => w'.cell? ⟨b, 0, none⟩ = some (.slice (some ⟨g, off, none⟩) l.length c) ∧ w'.cell? ⟨g, off + m * 2, none⟩ = some (.int .u8 y.kk) ∧ w'.cell? ⟨g, off + m * 2 + 1, none⟩ = some (.int .i64 y.v) ∧ w'.cell? ⟨w.heap.size, 0, none⟩ = some (.int .u8 x.kk) ∧ w'.cell? ⟨w.heap.size, 1, none⟩ = some (.int .i64 x.v))
        (first | go_keep | (refine ⟨?_, ?_, ?_, ?_, ?_⟩ <;> exact (hb1.cell (by simpa using by assumption)).trans (by simp [*])))
        ((go_at_call 83; refine (cmp_page y x _).mono ?_; rintro e w1 ⟨rfl, hb1⟩))
      have HB1 : Below W0.heap.size W0 w1 := HB.out.drew.trans (hb1.mono hsw)
      clear r0 q0 q1 y0 y1 N M
      by_cases hc : cmpPage y x = 0
      · have HC := Lib.hid hc
        have t1 : (cmpPage y x == 0) = true := by simp [hc]
        clear hc
        go_wp2_with fail
        go_ret2
        have e := HC.out
        rw [HY.out] at e
        refine ⟨?_, HB0.out.trans (HB1.mono (by omega))⟩
        rw [rank_some tc_page HS.out hml e, (at_some tc_page HS.out hml e).2.2.1]
        rfl
      · have t1 : (cmpPage y x == 0) = false := by simp [hc]
        by_cases hc2 : cmpPage y x < 0
        · have HC := Lib.hid hc2
          have t2 : decide (cmpPage y x < 0) = true := by simpa using hc2
          clear hc hc2
          go_wp2_with fail
          go_roundw
          case rel =>
            refine ⟨m + 1, j, by go_num, rfl, by omega, hj, fun k h1 h2 => ?_, HHI.out, HB1⟩
            have e := HC.out
            rw [HY.out] at e
            rcases Nat.lt_or_ge k m with h3 | h3
            · exact tc_page.lt_of_lt_of_le (HS.out.lt h3 hml) (by omega)
            · obtain rfl : k = m := by omega
              exact e
          case measure => simp [intOf]; omega
        · have t2 : decide (cmpPage y x < 0) = false := by simpa using hc2
          have hc3 : 0 < cmpPage y x := by omega
          have HC := Lib.hid hc3
          clear hc hc2 hc3
          go_wp2_with fail
          go_roundw
          case rel =>
            refine ⟨i, m, rfl, rfl, by omega, by omega, HLO.out, fun k h1 h2 => ?_, HB1⟩
            have e := HC.out
            rw [HY.out] at e
            rcases Nat.lt_or_ge m k with h3 | h3
            · exact (tc_page.symm _ _).1 (tc_page.lt_trans ((tc_page.symm _ _).2 e) (HS.out.lt h3 h1))
            · obtain rfl : k = m := by omega
              exact e
          case measure => simp [intOf]; omega
    · obtain rfl : i = j := by omega
      have HB := Lib.hid hB
      clear hB
      go_wp2_with fail
      go_ret2
      refine ⟨?_, HB0.out.trans (HB.out.mono (by omega))⟩
      rw [rank_none hj HLO.out HHI.out, (at_none HLO.out HHI.out).2.2]
      rfl
end Go.Proofs.Ythogokcbbkjcdaa

namespace Go.Proofs.Ythogokcbbkjcdaa
open Go.RowKit
theorem info_Page : (Try.prog.info? 73).map (fun i => (i.zero, i.size, i.bytes)) = some (some (.agg #[.int .u8 0, .int .i64 0]), 2, 16) := by kernel_rfl
theorem Page.one (x : Page) : ∀ u ∈ Page.cells x, u.oneCell' = true := by intro u hu; simp [Page.cells] at hu; rcases hu with rfl | rfl <;> rfl
theorem Page.oneAll (l : List Page) : ∀ u ∈ l.flatMap Page.cells, u.oneCell' = true := by intro u hu; obtain ⟨x, _, hx⟩ := List.mem_flatMap.1 hu; exact Page.one x u hx

/-- Behind 'own': the list may be written from now on. -/
def OwnPostPage (w : World) (b : Nat) (sn : Bool) (A : Option Addr) (l : List Page) (e : Ending) (w' : World) : Prop :=
  e = .returned (.tuple #[]) ∧ ∃ A' c', PageSet w' b false A' c' l ∧ Fr (· = b) w w' ∧ Moved w sn A false A'
set_option maxRecDepth 100000 in
set_option maxHeartbeats 1000000 in
theorem own_no_Page (b c : Nat) (A : Option Addr) (l : List Page) (w : World) (hS : PageSet w b false A c l) :
    Calls Try.prog 47 #[.pointer (some ⟨b, 0, none⟩)] w (OwnPostPage w b false A l) := by
  have h1 := hS.cell1
  have HS := Lib.hid hS
  clear hS
  go_enter Try.func47, Try.ntmps47
  go_wp2
  go_end0
  exact ⟨rfl, A, c, HS.out, Fr.refl _ _, .inl ⟨rfl, rfl⟩⟩
set_option maxRecDepth 100000 in
set_option maxHeartbeats 1000000 in
theorem own_yes_Page (b c : Nat) (A : Option Addr) (l : List Page) (w : World) (hS : PageSet w b true A c l) (hl : (l.length : Int) ≤ 1000000000) :
    Calls Try.prog 47 #[.pointer (some ⟨b, 0, none⟩)] w (OwnPostPage w b true A l) := by
  obtain ⟨i0, hi, hz0, hz1, hz2⟩ := info_parts info_Page
  have h0 := hS.cell0
  have h1 := hS.cell1
  have hb := hS.lt
  have f0 := hS.blk.frozen 0
  have f1 := hS.blk.frozen 1
  have hrd := hS.rd Page.cells_length
  have HB := Lib.hid hS.blk
  have HRD := Lib.hid hrd
  clear hS hrd
  have e1 : IntKind.i64.wrap ((l.length : Int) + 1) = (l.length : Int) + 1 := IntWalk.i64_in _ (by omega)
  have hmk : ∀ W : World, (Instr.makeSlice 86 (.int .i64 0) (.int .i64 ((l.length : Int) + 1))).run Try.prog W = .ok (.slice (some ⟨W.heap.size, 0, none⟩) 0 (l.length + 1)) (W.alloc (.cells (madeCells (Value.cells (.agg #[.int .u8 0, .int .i64 0])) ((l.length + 1) * 2)) 73)) := fun W => by
    have h := run_make (P := Try.prog) W 86 73 i0 _ Try.underlying86 hi hz0 .i64 .i64 0 ((l.length : Int) + 1) (by omega) (by omega) (by rw [hz2]; omega) (by omega)
    rw [hz1] at h
    simpa [show ((l.length : Int) + 1).toNat = l.length + 1 by omega] using h
  go_enter Try.func47, Try.ntmps47
  go_wp2_with fail
  refine wp_region_E (fun w9 => Below w.heap.size w w9) [(0, 0), (1, 0), (2, 0), (3, 0), (4, 1), (5, 0), (6, 0), (8, 0), (9, 0), (10, 0), (11, 1), (7, 2), (12, 2), (13, 0), (14, 0), (15, 2)] (by kernel_rfl) (by kernel_rfl) (fun KK hKK => ?_)
  simp only [beside, List.filterMap_cons, List.filterMap_nil, List.getElem?_toArray, List.getElem?_cons_zero, List.getElem?_cons_succ, Option.map_some]
  repeat (first | (refine wpX_w ?_ (Or.inl ⟨by rfl, fun w9 => ?_⟩) ?_; rotate_left 1; go_simp; with_reducible rfl; simp only [Act.put, List.setIfInBounds_toArray, List.set_cons_zero, List.set_cons_succ]) | (refine wpX_l ?_ (((Below.refl _ _).drew)) (Or.inl ⟨by rfl, fun w9 hw9 => ?_⟩) ?_; rotate_left 1; obtain ⟨hc9, hf9⟩ := bcell hw9; go_simp; with_reducible rfl; simp only [Act.put, List.setIfInBounds_toArray, List.set_cons_zero, List.set_cons_succ]) | (refine wpX_w undef (Or.inr ⟨by rfl, rfl⟩) ?_; simp only [Act.put, List.setIfInBounds_toArray, List.set_cons_zero, List.set_cons_succ]) | (refine wpX_l undef (((Below.refl _ _).drew)) (Or.inr ⟨by rfl, rfl⟩) ?_; simp only [Act.put, List.setIfInBounds_toArray, List.set_cons_zero, List.set_cons_succ]))
  refine wpX_es (fun K9 hK9 => ?_)
  go_simp
  refine hK9 _ _ (((Below.refl _ _).drew).alloc (Nat.le_refl _) _) ?_
  clear hK9 K9
  refine wpX_e (by kernel_rfl) (fun K9 hK9 => ?_)
  refine step_append_src _ (by rfl) _ _ _ (by rfl) 73 i0 _ 2 16 Try.underlying86 hi hz0 hz1 hz2 rfl (by omega) _ 0 [] (by rfl) (World.ownsRow_made _ _ _ (Nat.zero_le _) (by unfold maxLen; omega) (by simp [madeCells])) A l.length c (l.flatMap Page.cells) (by rfl) (flat_length Page.cells_length l)
    ((HRD.out.drew.alloc _).news Page.cells_length (by omega)) (Page.oneAll l) (by unfold maxLen; omega) (by omega) ?_
  intro v2 w2 hown hgr hnil hat
  refine hK9 _ _ ?_
  clear hK9 K9
  rw [Nat.zero_add, List.nil_append] at hown
  obtain ⟨A', c', rfl, _, _, hz⟩ := own_form2 hown
  have HB1 := (HB.out.drew.alloc (.cells (madeCells (Value.cells (.agg #[.int .u8 0, .int .i64 0])) ((l.length + 1) * 2)) 73)).grown hgr (by simp [Value.ownBlock]; omega)
  have c0 := (HB1.cell 0).trans rfl
  have c1 := (HB1.cell 1).trans rfl
  have z0 := HB1.frozen 0
  have z1 := HB1.frozen 1
  have HB2 := Lib.hid HB1
  clear HB1
  repeat (first | (refine wpX_w ?_ (Or.inl ⟨by rfl, fun w9 => ?_⟩) ?_; rotate_left 1; go_simp; with_reducible rfl; simp only [Act.put, List.setIfInBounds_toArray, List.set_cons_zero, List.set_cons_succ]) | (refine wpX_l ?_ (((Below.refl _ _).drew).alloc (Nat.le_refl _) _) (Or.inl ⟨by rfl, fun w9 hw9 => ?_⟩) ?_; rotate_left 1; obtain ⟨hc9, hf9⟩ := bcell hw9; go_simp; with_reducible rfl; simp only [Act.put, List.setIfInBounds_toArray, List.set_cons_zero, List.set_cons_succ]) | (refine wpX_w undef (Or.inr ⟨by rfl, rfl⟩) ?_; simp only [Act.put, List.setIfInBounds_toArray, List.set_cons_zero, List.set_cons_succ]) | (refine wpX_l undef (((Below.refl _ _).drew).alloc (Nat.le_refl _) _) (Or.inr ⟨by rfl, rfl⟩) ?_; simp only [Act.put, List.setIfInBounds_toArray, List.set_cons_zero, List.set_cons_succ]))
  refine wpX_e (by kernel_rfl) (fun K9 hK9 => ?_)
  go_simp
  refine hK9 _ _ ?_
  clear hK9 K9
  refine wpX_nil ?_
  simp only [OnlyN_normal]
  refine hKK _ _ ?_
  clear hKK KK
  go_wp2
  go_end0
  have hb2 : (Value.slice A' l.length c').ownBlock = some w.heap.size ∨ (Value.slice A' l.length c').ownBlock = some (w.heap.size + 1) := by
    rcases hat with h | h
    · left; rw [h]; rfl
    · right; rw [h]; simp
  have hA : ∃ g, w.heap.size ≤ g ∧ A' = some ⟨g, 0, none⟩ := by
    rcases A' with _ | a
    · exfalso; simp [Value.ownBlock] at hb2
    · obtain ⟨g, rfl⟩ := hz a rfl
      refine ⟨g, ?_, rfl⟩
      simp [Value.ownBlock] at hb2
      omega
  obtain ⟨g, hg, rfl⟩ := hA
  have HB1 := HB2.out
  have HF : Fr (· = b) w w2 := ((Fr.refl (· = b) w).drew.alloc _).grown hgr (fun k e => by simp [Value.ownBlock] at e; right; omega)
  refine ⟨rfl, some ⟨g, 0, none⟩, c', ⟨(HB1.set_ 0 _).set_ 1 _, ?_⟩, (HF.setCell (p := ⟨b, 0, none⟩) (.inl rfl) _).setCell (p := ⟨b, 1, none⟩) (.inl rfl) _, .inr ⟨rfl, g, hg, rfl⟩⟩
  have hne : (Value.slice (some ⟨g, 0, none⟩) l.length c').ownBlock ≠ some b := by simp [Value.ownBlock]; omega
  exact ownsRow_setCell_other (a := ⟨b, 1, none⟩) (ownsRow_setCell_other (a := ⟨b, 0, none⟩) hown hne _) hne _
theorem own_Page (b c : Nat) (sn : Bool) (A : Option Addr) (l : List Page) (w : World) (hS : PageSet w b sn A c l) (hl : (l.length : Int) ≤ 1000000000) :
    Calls Try.prog 47 #[.pointer (some ⟨b, 0, none⟩)] w (OwnPostPage w b sn A l) := by
  cases sn
  · exact own_no_Page b c A l w hS
  · exact own_yes_Page b c A l w hS hl
end Go.Proofs.Ythogokcbbkjcdaa

namespace Go.Proofs.Ythogokcbbkjcdaa
open Go.RowKit

/-- Behind Put. -/
def PutPostPage (w : World) (b : Nat) (sn : Bool) (A : Option Addr) (l : List Page) (x : Page) (e : Ending) (w' : World) : Prop :=
  e = .returned (.bool (!has cmpPage l x)) ∧ ∃ sn' A' c', PageSet w' b sn' A' c' (put cmpPage l x) ∧ Fr (SetMod b sn A) w w' ∧ Moved w sn A sn' A'
set_option maxRecDepth 100000 in
set_option maxHeartbeats 1000000 in
theorem put_there_Page (b c : Nat) (sn : Bool) (A : Option Addr) (l : List Page) (x : Page) (w : World) (hS : PageSet w b sn A c l) (hs : Srt cmpPage l) (hl : (l.length : Int) ≤ 100000000) (hh : has cmpPage l x = true) :
    Calls Try.prog 38 #[.pointer (some ⟨b, 0, none⟩), .agg #[.int .u8 x.kk, .int .i64 x.v]] w (PutPostPage w b sn A l x) := by
  have HS := Lib.hid hS
  have HO := Lib.hid hs
  clear hS hs
  go_enter Try.func38, Try.ntmps38
  go_wp2_with fail
  refine (find_Page b c sn A l x _ (HS.out.new_ ((Below.refl _ _).alloc (Nat.le_refl _) _)) HO.out (by omega)).mono ?_
  rintro e w1 ⟨rfl, hb1⟩
  go_wp2_with fail
  go_ret
  refine ⟨by rw [hh]; rfl, sn, A, c, ?_, Fr.of_new (((Below.refl _ _).alloc (Nat.le_refl _) _).trans (hb1.mono (by simp))), .inl ⟨rfl, rfl⟩⟩
  rw [put_has hh]
  exact HS.out.new_ (((Below.refl _ _).alloc (Nat.le_refl _) _).trans (hb1.mono (by simp)))

set_option maxRecDepth 100000 in
set_option maxHeartbeats 4000000 in
theorem put_new_Page (b c : Nat) (sn : Bool) (A : Option Addr) (l : List Page) (x : Page) (w : World) (hS : PageSet w b sn A c l) (hs : Srt cmpPage l) (hl : (l.length : Int) ≤ 100000000) (hh : has cmpPage l x = false) :
    Calls Try.prog 38 #[.pointer (some ⟨b, 0, none⟩), .agg #[.int .u8 x.kk, .int .i64 x.v]] w (PutPostPage w b sn A l x) := by
  obtain ⟨i0, hi, hz0, hz1, hz2⟩ := info_parts info_Page
  have HS := Lib.hid hS
  have HO := Lib.hid hs
  have hb := hS.lt
  clear hS hs
  have hrk := rank_le (cmp := cmpPage) l x
  go_enter Try.func38, Try.ntmps38
  go_wp2_with fail
  have hSa := HS.out.new_ ((Below.refl w.heap.size w).alloc (Nat.le_refl _) (.cells #[Value.int IntKind.u8 x.kk, Value.int IntKind.i64 x.v] 73))
  have HSa := Lib.hid hSa
  clear hSa
  refine (find_Page b c sn A l x _ HSa.out HO.out (by omega)).mono ?_
  rintro e w1 ⟨rfl, hb1⟩
  have HS1 := Lib.hid (HSa.out.new_ hb1)
  have hsz1 : w.heap.size + 1 ≤ w1.heap.size := by have := hb1.size; (try simp at this); omega
  have y0 := (hb1.cell (p := ⟨w.heap.size, 0, none⟩) (by simp)).trans ((Blk.new w 73 #[Value.int IntKind.u8 x.kk, Value.int IntKind.i64 x.v]).cell 0)
  have y1 := (hb1.cell (p := ⟨w.heap.size, 1, none⟩) (by simp)).trans ((Blk.new w 73 #[Value.int IntKind.u8 x.kk, Value.int IntKind.i64 x.v]).cell 1)
  have HB1 := Lib.hid hb1
  clear hb1
  go_wp2_with fail
  refine (own_Page b c sn A l _ HS1.out (by omega)).mono ?_
  rintro e w2 ⟨rfl, A1, c1, hS2, hF2, hM2⟩
  have hsz2 : w1.heap.size ≤ w2.heap.size := hF2.size
  have x0 : w2.cell? ⟨w.heap.size, 0, none⟩ = some (.int .u8 x.kk) := (hF2.cell (p := ⟨w.heap.size, 0, none⟩) (by dsimp only; omega) (by dsimp only; omega)).trans y0
  have x1 : w2.cell? ⟨w.heap.size, 1, none⟩ = some (.int .i64 x.v) := (hF2.cell (p := ⟨w.heap.size, 1, none⟩) (by dsimp only; omega) (by dsimp only; omega)).trans y1
  have s0 := hS2.cell0
  have f0 := hS2.blk.frozen 0
  have hb2 : b < w2.heap.size := by omega
  have hk2 : w.heap.size < w2.heap.size := by omega
  have HS2 := Lib.hid hS2
  have HF2 := Lib.hid hF2
  have HM2 := Lib.hid hM2
  clear hS2 hF2 hM2 y0 y1
  go_wp2_with fail
  refine wp_region_E (fun w9 => Below w2.heap.size w2 w9) [(0, 0), (1, 0), (2, 0), (3, 0), (4, 1), (5, 1), (6, 2), (7, 2), (8, 0), (9, 0), (10, 2)] (by kernel_rfl) (by kernel_rfl) (fun KK hKK => ?_)
  simp only [beside, List.filterMap_cons, List.filterMap_nil, List.getElem?_toArray, List.getElem?_cons_zero, List.getElem?_cons_succ, Option.map_some]
  repeat (first | (refine wpX_w ?_ (Or.inl ⟨by rfl, fun w9 => ?_⟩) ?_; rotate_left 1; go_simp; with_reducible rfl; simp only [Act.put, List.setIfInBounds_toArray, List.set_cons_zero, List.set_cons_succ]) | (refine wpX_l ?_ (((Below.refl _ _).drew)) (Or.inl ⟨by rfl, fun w9 hw9 => ?_⟩) ?_; rotate_left 1; obtain ⟨hc9, hf9⟩ := bcell hw9; go_simp; with_reducible rfl; simp only [Act.put, List.setIfInBounds_toArray, List.set_cons_zero, List.set_cons_succ]) | (refine wpX_w undef (Or.inr ⟨by rfl, rfl⟩) ?_; simp only [Act.put, List.setIfInBounds_toArray, List.set_cons_zero, List.set_cons_succ]) | (refine wpX_l undef (((Below.refl _ _).drew)) (Or.inr ⟨by rfl, rfl⟩) ?_; simp only [Act.put, List.setIfInBounds_toArray, List.set_cons_zero, List.set_cons_succ]))
  refine wpX_es (fun K9 hK9 => ?_)
  go_simp
  refine hK9 _ _ (((Below.refl _ _).drew).alloc (Nat.le_refl _) _) ?_
  clear hK9 K9
  refine wpX_e (by kernel_rfl) (fun K9 hK9 => ?_)
  refine step_append_src _ (by rfl) _ _ _ (by rfl) 73 i0 _ 2 16 Try.underlying86 hi hz0 hz1 hz2 rfl (by omega) _ l.length (l.flatMap Page.cells) (by rfl) (ownsRow_new HS2.out.row (((Below.refl _ _).drew).alloc (Nat.le_refl _) _)) (some ⟨w2.heap.size, 0, none⟩) 1 1 (Page.cells x) (by rfl) (by rfl)
    (fun _ => ⟨_, rfl, World.news_of_block (heap_alloc_new _ _)⟩) (Page.one x) (by unfold maxLen; omega) (by omega) ?_
  intro v2 w3 hown hgr hnil hat
  refine hK9 _ _ ?_
  clear hK9 K9
  obtain ⟨g, c2, rfl⟩ : ∃ g c2, v2 = .slice (some ⟨g, 0, none⟩) (l.length + 1) c2 := by
    rcases ownsRow_form hown with ⟨_, h0, _⟩ | ⟨g, c2, h, _⟩
    · omega
    · exact ⟨g, c2, h⟩
  have HXN : (Value.slice A1 l.length c1).ownBlock ≠ some w.heap.size := by
    intro h
    rcases HM2.out with ⟨hsn, hA⟩ | ⟨_, g2, hg2, hA⟩
    · rcases A1 with _ | a1
      · cases h
      · have h1 := HS.out.row_lt _ hA.symm
        simp only [Value.ownBlock, Option.some.injEq] at h
        omega
    · subst hA
      simp only [Value.ownBlock, Option.some.injEq] at h
      omega
  have HB3' := (HS2.out.blk.drew.alloc (.cells #[Value.int IntKind.u8 x.kk, Value.int IntKind.i64 x.v] 73)).grown hgr (own_blk_ne HS2.out.row HS2.out.blk (by decide))
  have c0 := (HB3'.cell 0).trans rfl
  have z0 := HB3'.frozen 0
  have HB3 := Lib.hid HB3'
  have HOWN := Lib.hid hown
  have HGR := Lib.hid hgr
  clear HB3' hown hgr
  repeat (first | (refine wpX_w ?_ (Or.inl ⟨by rfl, fun w9 => ?_⟩) ?_; rotate_left 1; go_simp; with_reducible rfl; simp only [Act.put, List.setIfInBounds_toArray, List.set_cons_zero, List.set_cons_succ]) | (refine wpX_l ?_ (((Below.refl _ _).drew).alloc (Nat.le_refl _) _) (Or.inl ⟨by rfl, fun w9 hw9 => ?_⟩) ?_; rotate_left 1; obtain ⟨hc9, hf9⟩ := bcell hw9; go_simp; with_reducible rfl; simp only [Act.put, List.setIfInBounds_toArray, List.set_cons_zero, List.set_cons_succ]) | (refine wpX_w undef (Or.inr ⟨by rfl, rfl⟩) ?_; simp only [Act.put, List.setIfInBounds_toArray, List.set_cons_zero, List.set_cons_succ]) | (refine wpX_l undef (((Below.refl _ _).drew).alloc (Nat.le_refl _) _) (Or.inr ⟨by rfl, rfl⟩) ?_; simp only [Act.put, List.setIfInBounds_toArray, List.set_cons_zero, List.set_cons_succ]))
  refine wpX_e (by kernel_rfl) (fun K9 hK9 => ?_)
  go_simp
  refine hK9 _ _ ?_
  clear hK9 K9
  refine wpX_nil ?_
  simp only [OnlyN_normal]
  refine hKK _ _ ?_
  clear hKK KK
  have hlg : ((l.length + 1 : Nat) : Int) = (l.length : Int) + 1 := by omega
  have hG : (SetMod b sn A g ∨ w.heap.size ≤ g) ∧ Moved w sn A false (some ⟨g, 0, none⟩) ∧ g ≠ w.heap.size ∧ g ≠ b := by
    rcases hat with h | h
    · rcases A1 with _ | a1
      · simp [Value.ownBlock] at h
      · obtain ⟨A', c', hv, _, _, hz⟩ := own_form2 HS2.out.row
        injection hv with hv _ _
        obtain ⟨g', rfl⟩ := hz a1 hv.symm
        have hgg : g' = g := by simpa [Value.ownBlock] using h.symm
        subst hgg
        have hne : g' ≠ b := HS2.out.row_ne (by decide) _ rfl
        rcases HM2.out with ⟨hsn, hA⟩ | ⟨_, g2, hg2, hA⟩
        · have h1 := HS.out.row_lt _ hA.symm
          exact ⟨.inl (.inr ⟨hsn.symm, _, hA.symm, rfl⟩), .inl ⟨hsn, hA⟩, by dsimp only at h1; omega, hne⟩
        · injection hA with hA
          injection hA with hA
          subst hA
          exact ⟨.inr (by omega), .inr ⟨rfl, _, by omega, rfl⟩, by omega, hne⟩
    · have hgg : g = w2.heap.size + 1 := by simpa [Value.ownBlock] using h
      subst hgg
      exact ⟨.inr (by omega), .inr ⟨rfl, _, by omega, rfl⟩, by omega, by omega⟩
  obtain ⟨hgM, hgMv, hgk1, hgb⟩ := hG
  obtain ⟨w4, hw4⟩ : ∃ w4, w4 = w3.setCell ⟨b, 0, none⟩ (.slice (some ⟨g, 0, none⟩) (l.length + 1) c2) := ⟨_, rfl⟩
  have hB4 : Blk w4 b 88 #[.slice (some ⟨g, 0, none⟩) (l.length + 1) c2, .bool false] := by rw [hw4]; exact HB3.out.set_ 0 _
  have hR4 : w4.ownsRow 0 73 2 (.slice (some ⟨g, 0, none⟩) (l.length + 1) c2) (l.length + 1) ((shiftAt l x l.length).flatMap Page.cells) := by
    rw [hw4, shiftAt_start]
    refine ownsRow_setCell_other (a := ⟨b, 0, none⟩) ?_ (by simpa [Value.ownBlock] using hgb) _
    rw [List.flatMap_append, List.flatMap_singleton]
    exact HOWN.out
  have hF4 : Fr (SetMod b sn A) w w4 := by
    rw [hw4]
    have h1 : Fr (SetMod b sn A) w w1 := Fr.of_new (((Below.refl _ _).alloc (Nat.le_refl _) _).trans (HB1.out.mono (by simp)))
    have h2 : Fr (SetMod b sn A) w w2 := h1.trans (HF2.out.mono (fun k _ h => .inl h))
    refine ((h2.drew.alloc _).grown HGR.out (fun k hk => ?_)).setCell (p := ⟨b, 0, none⟩) (.inl (.inl rfl)) _
    rcases A1 with _ | a1
    · cases hk
    · simp only [Value.ownBlock, Option.some.injEq] at hk
      subst hk
      rcases HM2.out with ⟨hsn, hA⟩ | ⟨_, g', hg', hA⟩
      · left; right; exact ⟨hsn.symm, a1, hA.symm, rfl⟩
      · injection hA with hA
        subst hA
        right; dsimp only; omega
  have z0 : w4.cell? ⟨w.heap.size, 0, none⟩ = some (.int .u8 x.kk) := by
    rw [hw4, World.cell?_setCell_other _ _ _ _ (by intro h; injection h; omega)]
    refine HGR.out.cell ((World.cell?_alloc_lt w2.drew _ ⟨w.heap.size, 0, none⟩ hk2).trans x0) ?_
    intro h
    exact HXN (by simpa using h.symm)
  have z1 : w4.cell? ⟨w.heap.size, 1, none⟩ = some (.int .i64 x.v) := by
    rw [hw4, World.cell?_setCell_other _ _ _ _ (by intro h; injection h; omega)]
    refine HGR.out.cell ((World.cell?_alloc_lt w2.drew _ ⟨w.heap.size, 1, none⟩ hk2).trans x1) ?_
    intro h
    exact HXN (by simpa using h.symm)
  have hk4 : w.heap.size < w4.heap.size := by rw [hw4]; have := HGR.out.size; simp at this ⊢; omega
  rw [← hw4]
  have HgM := Lib.hid hgM
  have HgMv := Lib.hid hgMv
  have HB4 := Lib.hid hB4
  have HR4 := Lib.hid hR4
  have HF4 := Lib.hid hF4
  have s4 := hB4.cell 0
  have s4' : w4.cell? ⟨b, 0, none⟩ = some (.slice (some ⟨g, 0, none⟩) (l.length + 1) c2) := s4
  clear s4 hw4 hB4 hR4 hF4 hat hgM hgMv hnil x0 x1 s0 f0
  go_wp2_with fail
  go_loopw [7] (fun s wr => ∃ i : Nat, s = .int .i64 i ∧ rank cmpPage l x ≤ i ∧ i ≤ l.length ∧ wr.ownsRow 0 73 2 (.slice (some ⟨g, 0, none⟩) (l.length + 1) c2) (l.length + 1) ((shiftAt l x i).flatMap Page.cells) ∧ Fr (· = g) w4 wr) (fun s wr => (intOf s).toNat)
  case atStart => exact ⟨l.length, by go_num, hrk, Nat.le_refl _, HR4.out, Fr.refl _ _⟩
  case round =>
    obtain ⟨i, rfl, hi1, hi2, hown, hfr⟩ := hrel
    have hgw : g < wr.heap.size := (hown.lt g rfl).2
    have r0 : wr.cell? ⟨b, 0, none⟩ = some (.slice (some ⟨g, 0, none⟩) (l.length + 1) c2) := (hfr.cell (p := ⟨b, 0, none⟩) HB4.out.lt (fun h => hgb h.symm)).trans s4'
    have fz : ∀ o, wr.frozen? ⟨g, o, none⟩ = false := fun o => hown.frozenAt o
    have HOW := Lib.hid hown
    have HFR := Lib.hid hfr
    clear hown hfr
    by_cases hlt : rank cmpPage l x < i
    · obtain ⟨j, rfl⟩ : ∃ j, i = j + 1 := ⟨i - 1, by omega⟩
      have hj : j < l.length := by omega
      have hrd := ownsRow_rd (A := some ⟨g, 0, none⟩) (c := c2) (l := shiftAt l x (j + 1)) Page.cells_length (by rw [shiftAt_length l x hi2]; exact HOW.out)
      obtain ⟨g', o', hgo, _, hcell⟩ := hrd.at_ (k := j) (by rw [shiftAt_length l x hi2]; omega)
      injection hgo with hgo
      injection hgo with hg1 hg2
      subst hg1; subst hg2
      rw [shiftAt_read l x hj] at hcell
      have q0 : wr.cell? ⟨g, j * 2, none⟩ = some (.int .u8 l[j].kk) := by simpa using hcell 0 _ rfl
      have q1 : wr.cell? ⟨g, j * 2 + 1, none⟩ = some (.int .i64 l[j].v) := by simpa using hcell 1 _ rfl
      have rmj : Room wr g 73 (c2 * 2) ∧ l.length + 1 ≤ c2 := by
        rcases ownsRow_form HOW.out with ⟨hv, _⟩ | ⟨g', cap, hv, hn, _, hr, _⟩
        · cases hv
        · injection hv with hA _ hc
          injection hA with hA
          injection hA with hA
          subst hA; subst hc
          exact ⟨hr, hn⟩
      obtain ⟨hrm, hcap⟩ := rmj
      obtain ⟨u0, t0⟩ := hrm.cell (i := (j + 1) * 2) (by omega)
      obtain ⟨u1, t1⟩ := hrm.cell (i := (j + 1) * 2 + 1) (by omega)
      have b0 : (0 : Int) ≤ (j : Int) + 1 := by omega
      have b1 : (0 : Int) ≤ (j : Int) := by omega
      have b4 : (j : Int) < (l.length : Int) := by omega
      have b2 : (j : Int) < (l.length : Int) + 1 := by omega
      have b3 : (j : Int) + 1 < (l.length : Int) + 1 := by omega
      have w1 : IntKind.i64.wrap ((j : Int)) = (j : Int) := IntWalk.i64_in _ (by omega)
      have w2 : IntKind.i64.wrap ((j : Int) + 1 - 1) = (j : Int) := by rw [IntWalk.i64_in _ (by omega)]; omega
      clear hcell hrd hrm
      obtain ⟨y, hy⟩ : ∃ y, y = l[j] := ⟨_, rfl⟩
      rw [← hy] at q0 q1
      have HY := Lib.hid hy
      have hbw : b < wr.heap.size := World.block_lt_of_cell? wr _ r0
      clear hy
      go_wp2_with fail
      refine wp_region_E (fun w9 => Below wr.heap.size wr w9) [(0, 0), (1, 0), (2, 0), (3, 1), (4, 0), (5, 0), (6, 0), (7, 0), (8, 1), (9, 0), (10, 0), (11, 0), (12, 1), (13, 0), (14, 2)] (by kernel_rfl) (by kernel_rfl) (fun KK hKK => ?_)
      simp only [beside, List.filterMap_cons, List.filterMap_nil, List.getElem?_toArray, List.getElem?_cons_zero, List.getElem?_cons_succ, Option.map_some]
      repeat (first | (refine wpX_w ?_ (Or.inl ⟨by rfl, fun w9 => ?_⟩) ?_; rotate_left 1; go_simp; with_reducible rfl; simp only [Act.put, List.setIfInBounds_toArray, List.set_cons_zero, List.set_cons_succ]) | (refine wpX_l ?_ (((Below.refl _ _).drew)) (Or.inl ⟨by rfl, fun w9 hw9 => ?_⟩) ?_; rotate_left 1; obtain ⟨hc9, hf9⟩ := bcell hw9; go_simp; with_reducible rfl; simp only [Act.put, List.setIfInBounds_toArray, List.set_cons_zero, List.set_cons_succ]) | (refine wpX_w undef (Or.inr ⟨by rfl, rfl⟩) ?_; simp only [Act.put, List.setIfInBounds_toArray, List.set_cons_zero, List.set_cons_succ]) | (refine wpX_l undef (((Below.refl _ _).drew)) (Or.inr ⟨by rfl, rfl⟩) ?_; simp only [Act.put, List.setIfInBounds_toArray, List.set_cons_zero, List.set_cons_succ]))
      refine wpX_e (by kernel_rfl) (fun K9 hK9 => ?_)
      go_simp
      refine hK9 _ _ ?_
      clear hK9 K9
      refine wpX_nil ?_
      simp only [OnlyN_normal]
      refine hKK _ _ ?_
      clear hKK KK
      go_wp2_with fail
      go_roundw
      case rel =>
        refine ⟨j, by go_num, by omega, by omega, ?_, Fr.drew (((HFR.out).setCell (p := ⟨g, (j + 1) * 2, none⟩) (.inl rfl) (_)).setCell (p := ⟨g, (j + 1) * 2 + 1, none⟩) (.inl rfl) (_))⟩
        have hst := ((((HOW.out).stored ((j + 1) * 2) (.int .u8 y.kk)).1).stored ((j + 1) * 2 + 1) (.int .i64 y.v)).1
        have he : setAll ((shiftAt l x (j + 1)).flatMap Page.cells) ((j + 1) * 2) (Page.cells y) = (shiftAt l x j).flatMap Page.cells := by
          rw [flat_set Page.cells_length (by omega) _ (j + 1) (by rw [shiftAt_length l x hi2]; omega), HY.out, shiftAt_step l x hj]
        rw [← he]
        exact hst
      case measure => simp [intOf] <;> omega
    · obtain rfl : i = rank cmpPage l x := by omega
      have rmj : Room wr g 73 (c2 * 2) ∧ l.length + 1 ≤ c2 := by
        rcases ownsRow_form HOW.out with ⟨hv, _⟩ | ⟨g', cap, hv, hn, _, hr, _⟩
        · cases hv
        · injection hv with hA _ hc
          injection hA with hA
          injection hA with hA
          subst hA; subst hc
          exact ⟨hr, hn⟩
      obtain ⟨hrm, hcap⟩ := rmj
      obtain ⟨k, hk⟩ : ∃ k, k = rank cmpPage l x := ⟨_, rfl⟩
      rw [← hk] at hi2 hlt ⊢
      obtain ⟨u0, t0⟩ := hrm.cell (i := k * 2) (by omega)
      obtain ⟨u1, t1⟩ := hrm.cell (i := k * 2 + 1) (by omega)
      have x0 := (HFR.out.cell (p := ⟨w.heap.size, 0, none⟩) hk4 (fun h => hgk1 h.symm)).trans z0
      have x1 := (HFR.out.cell (p := ⟨w.heap.size, 1, none⟩) hk4 (fun h => hgk1 h.symm)).trans z1
      have b1 : (0 : Int) ≤ (k : Int) := by omega
      have b2 : (k : Int) < (l.length : Int) + 1 := by omega
      have HK := Lib.hid hk
      have hkw : w.heap.size < wr.heap.size := by have := HFR.out.size; omega
      have hbw : b < wr.heap.size := World.block_lt_of_cell? wr _ r0
      clear hrm hk z0 z1
      go_wp2_with fail
      refine wp_region_E (fun w9 => Below wr.heap.size wr w9) [(0, 0), (1, 0), (2, 0), (3, 1), (4, 0), (5, 1), (6, 0), (7, 2)] (by kernel_rfl) (by kernel_rfl) (fun KK hKK => ?_)
      simp only [beside, List.filterMap_cons, List.filterMap_nil, List.getElem?_toArray, List.getElem?_cons_zero, List.getElem?_cons_succ, Option.map_some]
      repeat (first | (refine wpX_w ?_ (Or.inl ⟨by rfl, fun w9 => ?_⟩) ?_; rotate_left 1; go_simp; with_reducible rfl; simp only [Act.put, List.setIfInBounds_toArray, List.set_cons_zero, List.set_cons_succ]) | (refine wpX_l ?_ (((Below.refl _ _).drew)) (Or.inl ⟨by rfl, fun w9 hw9 => ?_⟩) ?_; rotate_left 1; obtain ⟨hc9, hf9⟩ := bcell hw9; go_simp; with_reducible rfl; simp only [Act.put, List.setIfInBounds_toArray, List.set_cons_zero, List.set_cons_succ]) | (refine wpX_w undef (Or.inr ⟨by rfl, rfl⟩) ?_; simp only [Act.put, List.setIfInBounds_toArray, List.set_cons_zero, List.set_cons_succ]) | (refine wpX_l undef (((Below.refl _ _).drew)) (Or.inr ⟨by rfl, rfl⟩) ?_; simp only [Act.put, List.setIfInBounds_toArray, List.set_cons_zero, List.set_cons_succ]))
      refine wpX_e (by kernel_rfl) (fun K9 hK9 => ?_)
      go_simp
      refine hK9 _ _ ?_
      clear hK9 K9
      refine wpX_nil ?_
      simp only [OnlyN_normal]
      refine hKK _ _ ?_
      clear hKK KK
      go_wp2_with fail
      go_ret
      have HOWk := HOW.out
      rw [← HK.out] at HOWk
      have hst := ((((HOWk).stored (k * 2) (.int .u8 x.kk)).1).stored (k * 2 + 1) (.int .i64 x.v)).1
      have he : setAll ((shiftAt l x k).flatMap Page.cells) (k * 2) (Page.cells x) = (put cmpPage l x).flatMap Page.cells := by
        rw [flat_set Page.cells_length (by omega) _ k (by rw [shiftAt_length l x hi2]; omega), shiftAt_end l x hi2, put_eq tc_page HO.out hh, HK.out]
      have hln := length_put tc_page HO.out hh
      refine ⟨by rw [hh]; rfl, false, some ⟨g, 0, none⟩, c2, ⟨?_, ?_⟩, ?_, ?_⟩
      · rw [hln]
        exact ((HB4.out.fr HFR.out (fun h => hgb h.symm)).far (p := ⟨g, k * 2, none⟩) (fun h => hgb h.symm) _).far (p := ⟨g, k * 2 + 1, none⟩) (fun h => hgb h.symm) _
      · rw [hln, ← he]
        exact hst
      · exact HF4.out.into (Fr.drew (((HFR.out).setCell (p := ⟨g, k * 2, none⟩) (.inl rfl) (_)).setCell (p := ⟨g, k * 2 + 1, none⟩) (.inl rfl) (_))) (fun k hk => by subst hk; exact HgM.out)
      · exact HgMv.out

theorem put_Page (b c : Nat) (sn : Bool) (A : Option Addr) (l : List Page) (x : Page) (w : World) (hS : PageSet w b sn A c l) (hs : Srt cmpPage l) (hl : (l.length : Int) ≤ 100000000) :
    Calls Try.prog 38 #[.pointer (some ⟨b, 0, none⟩), .agg #[.int .u8 x.kk, .int .i64 x.v]] w (PutPostPage w b sn A l x) := by
  cases hh : has cmpPage l x
  · exact put_new_Page b c sn A l x w hS hs hl hh
  · exact put_there_Page b c sn A l x w hS hs hl hh
end Go.Proofs.Ythogokcbbkjcdaa

namespace Go.Proofs.Ythogokcbbkjcdaa
open Go.RowKit

/-- Behind Drop. -/
def DropPostPage (w : World) (b : Nat) (sn : Bool) (A : Option Addr) (l : List Page) (x : Page) (e : Ending) (w' : World) : Prop :=
  e = .returned (.bool (has cmpPage l x)) ∧ ∃ sn' A' c', PageSet w' b sn' A' c' (drop cmpPage l x) ∧ Fr (SetMod b sn A) w w' ∧ Moved w sn A sn' A'
set_option maxRecDepth 100000 in
set_option maxHeartbeats 1000000 in
theorem drop_not_Page (b c : Nat) (sn : Bool) (A : Option Addr) (l : List Page) (x : Page) (w : World) (hS : PageSet w b sn A c l) (hs : Srt cmpPage l) (hl : (l.length : Int) ≤ 100000000) (hh : has cmpPage l x = false) :
    Calls Try.prog 52 #[.pointer (some ⟨b, 0, none⟩), .agg #[.int .u8 x.kk, .int .i64 x.v]] w (DropPostPage w b sn A l x) := by
  have HS := Lib.hid hS
  have HO := Lib.hid hs
  clear hS hs
  go_enter Try.func52, Try.ntmps52
  go_wp2_with fail
  refine (find_Page b c sn A l x _ (HS.out.new_ ((Below.refl _ _).alloc (Nat.le_refl _) _)) HO.out (by omega)).mono ?_
  rintro e w1 ⟨rfl, hb1⟩
  go_wp2_with fail
  go_ret
  refine ⟨by rw [hh]; rfl, sn, A, c, ?_, Fr.of_new (((Below.refl _ _).alloc (Nat.le_refl _) _).trans (hb1.mono (by simp))), .inl ⟨rfl, rfl⟩⟩
  rw [drop_self hh]
  exact HS.out.new_ (((Below.refl _ _).alloc (Nat.le_refl _) _).trans (hb1.mono (by simp)))

set_option maxRecDepth 100000 in
set_option maxHeartbeats 4000000 in
theorem drop_is_Page (b c : Nat) (sn : Bool) (A : Option Addr) (l : List Page) (x : Page) (w : World) (hS : PageSet w b sn A c l) (hs : Srt cmpPage l) (hl : (l.length : Int) ≤ 100000000) (hh : has cmpPage l x = true) :
    Calls Try.prog 52 #[.pointer (some ⟨b, 0, none⟩), .agg #[.int .u8 x.kk, .int .i64 x.v]] w (DropPostPage w b sn A l x) := by
  obtain ⟨hrk, hde, _, _⟩ := drop_eq tc_page hs hh
  have HDE := Lib.hid hde
  have HS := Lib.hid hS
  have HO := Lib.hid hs
  have hb := hS.lt
  clear hS hs hde
  go_enter Try.func52, Try.ntmps52
  go_wp2_with fail
  have hSa := HS.out.new_ ((Below.refl w.heap.size w).alloc (Nat.le_refl _) (.cells #[Value.int IntKind.u8 x.kk, Value.int IntKind.i64 x.v] 73))
  have HSa := Lib.hid hSa
  clear hSa
  refine (find_Page b c sn A l x _ HSa.out HO.out (by omega)).mono ?_
  rintro e w1 ⟨rfl, hb1⟩
  have HS1 := Lib.hid (HSa.out.new_ hb1)
  have hsz1 : w.heap.size + 1 ≤ w1.heap.size := by have := hb1.size; simp at this; omega
  have HB1 := Lib.hid hb1
  clear hb1
  go_wp2_with fail
  refine (own_Page b c sn A l _ HS1.out (by omega)).mono ?_
  rintro e w2 ⟨rfl, A1, c1, hS2, hF2, hM2⟩
  have hsz2 : w1.heap.size ≤ w2.heap.size := hF2.size
  obtain ⟨g, rfl⟩ : ∃ g, A1 = some ⟨g, 0, none⟩ := by
    rcases ownsRow_form hS2.row with ⟨_, h0, _⟩ | ⟨g, cap, hv, _⟩
    · omega
    · injection hv with hv; exact ⟨g, hv⟩
  have hgb : g ≠ b := hS2.row_ne (by decide) _ rfl
  obtain ⟨hroom, hcap, hcm⟩ := ownsRow_room hS2.row
  unfold maxLen at hcm
  have hgM : SetMod b sn A g ∨ w.heap.size ≤ g := by
    rcases hM2 with ⟨hsn, hA⟩ | ⟨_, g', hg', hA⟩
    · exact .inl (.inr ⟨hsn.symm, _, hA.symm, rfl⟩)
    · injection hA with hA
      injection hA with hA
      subst hA
      exact .inr (by omega)
  have hgMv : Moved w sn A false (some ⟨g, 0, none⟩) := by
    rcases hM2 with ⟨hsn, hA⟩ | ⟨_, g', hg', hA⟩
    · exact .inl ⟨hsn, hA⟩
    · injection hA with hA
      injection hA with hA
      subst hA
      exact .inr ⟨rfl, _, by omega, rfl⟩
  have hF : Fr (SetMod b sn A) w w2 := (Fr.of_new (((Below.refl _ _).alloc (Nat.le_refl _) _).trans (HB1.out.mono (by simp)))).into hF2 (fun k hk => .inl (.inl hk))
  have s0 := hS2.cell0
  have HgM := Lib.hid hgM
  have HgMv := Lib.hid hgMv
  have HF := Lib.hid hF
  have HBk := Lib.hid hS2.blk
  have HRo := Lib.hid hS2.row
  have hb2 : b < w2.heap.size := by omega
  clear hgM hgMv hF hS2 hF2 hM2 hroom
  go_wp2_with fail
  go_loopw [7] (fun s wr => ∃ i : Nat, s = .int .i64 i ∧ rank cmpPage l x ≤ i ∧ i < l.length ∧ wr.ownsRow 0 73 2 (.slice (some ⟨g, 0, none⟩) l.length c1) l.length ((downAt l (rank cmpPage l x) i).flatMap Page.cells) ∧ Fr (· = g) w2 wr) (fun s wr => l.length - (intOf s).toNat)
  case atStart => exact ⟨rank cmpPage l x, rfl, Nat.le_refl _, hrk, by rw [downAt_start]; exact HRo.out, Fr.refl _ _⟩
  case round =>
    obtain ⟨i, rfl, hi1, hi2, hown, hfr⟩ := hrel
    have hgw : g < wr.heap.size := (hown.lt g rfl).2
    have r0 : wr.cell? ⟨b, 0, none⟩ = some (.slice (some ⟨g, 0, none⟩) l.length c1) := (hfr.cell (p := ⟨b, 0, none⟩) hb2 (fun h => hgb h.symm)).trans s0
    have fz : ∀ o, wr.frozen? ⟨g, o, none⟩ = false := fun o => hown.frozenAt o
    have hbw : b < wr.heap.size := World.block_lt_of_cell? wr _ r0
    obtain ⟨hrm, _, _⟩ := ownsRow_room hown
    have HOW := Lib.hid hown
    have HFR := Lib.hid hfr
    clear hown hfr
    by_cases hlt : i + 1 < l.length
    · have hrd := ownsRow_rd (A := some ⟨g, 0, none⟩) (c := c1) (l := downAt l (rank cmpPage l x) i) Page.cells_length (by rw [downAt_length l hi1 hi2]; exact HOW.out)
      obtain ⟨g', o', hgo, _, hcell⟩ := hrd.at_ (k := i + 1) (by rw [downAt_length l hi1 hi2]; omega)
      injection hgo with hgo
      injection hgo with hg1 hg2
      subst hg1; subst hg2
      rw [downAt_read l hi1 hlt] at hcell
      have q0 : wr.cell? ⟨g, (i + 1) * 2, none⟩ = some (.int .u8 l[i + 1].kk) := by simpa using hcell 0 _ rfl
      have q1 : wr.cell? ⟨g, (i + 1) * 2 + 1, none⟩ = some (.int .i64 l[i + 1].v) := by simpa using hcell 1 _ rfl
      obtain ⟨u0, t0⟩ := hrm.cell (i := i * 2) (by omega)
      obtain ⟨u1, t1⟩ := hrm.cell (i := i * 2 + 1) (by omega)
      have b0 : (0 : Int) ≤ (i : Int) + 1 := by omega
      have b1 : (0 : Int) ≤ (i : Int) := by omega
      have b2 : (i : Int) < (l.length : Int) := by omega
      have b3 : (i : Int) + 1 < (l.length : Int) := by omega
      have v1 : IntKind.i64.wrap ((i : Int) + 1) = (i : Int) + 1 := IntWalk.i64_in _ (by omega)
      clear hcell hrd hrm
      obtain ⟨y, hy⟩ : ∃ y, y = l[i + 1] := ⟨_, rfl⟩
      rw [← hy] at q0 q1
      have HY := Lib.hid hy
      clear hy
      go_wp2_with fail
      refine wp_region_E (fun w9 => Below wr.heap.size wr w9) [(0, 0), (1, 0), (2, 0), (3, 1), (4, 0), (5, 0), (6, 0), (7, 0), (8, 1), (9, 0), (10, 0), (11, 0), (12, 1), (13, 0), (14, 2)] (by kernel_rfl) (by kernel_rfl) (fun KK hKK => ?_)
      simp only [beside, List.filterMap_cons, List.filterMap_nil, List.getElem?_toArray, List.getElem?_cons_zero, List.getElem?_cons_succ, Option.map_some]
      repeat (first | (refine wpX_w ?_ (Or.inl ⟨by rfl, fun w9 => ?_⟩) ?_; rotate_left 1; go_simp; with_reducible rfl; simp only [Act.put, List.setIfInBounds_toArray, List.set_cons_zero, List.set_cons_succ]) | (refine wpX_l ?_ (((Below.refl _ _).drew)) (Or.inl ⟨by rfl, fun w9 hw9 => ?_⟩) ?_; rotate_left 1; obtain ⟨hc9, hf9⟩ := bcell hw9; go_simp; with_reducible rfl; simp only [Act.put, List.setIfInBounds_toArray, List.set_cons_zero, List.set_cons_succ]) | (refine wpX_w undef (Or.inr ⟨by rfl, rfl⟩) ?_; simp only [Act.put, List.setIfInBounds_toArray, List.set_cons_zero, List.set_cons_succ]) | (refine wpX_l undef (((Below.refl _ _).drew)) (Or.inr ⟨by rfl, rfl⟩) ?_; simp only [Act.put, List.setIfInBounds_toArray, List.set_cons_zero, List.set_cons_succ]))
      refine wpX_e (by kernel_rfl) (fun K9 hK9 => ?_)
      go_simp
      refine hK9 _ _ ?_
      clear hK9 K9
      refine wpX_nil ?_
      simp only [OnlyN_normal]
      refine hKK _ _ ?_
      clear hKK KK
      go_wp2_with fail
      go_roundw
      case rel =>
        refine ⟨i + 1, by go_num, by omega, by omega, ?_, Fr.drew (((HFR.out).setCell (p := ⟨g, i * 2, none⟩) (.inl rfl) (_)).setCell (p := ⟨g, i * 2 + 1, none⟩) (.inl rfl) (_))⟩
        have hst := ((((HOW.out).stored (i * 2) (.int .u8 y.kk)).1).stored (i * 2 + 1) (.int .i64 y.v)).1
        have he : setAll ((downAt l (rank cmpPage l x) i).flatMap Page.cells) (i * 2) (Page.cells y) = (downAt l (rank cmpPage l x) (i + 1)).flatMap Page.cells := by
          rw [flat_set Page.cells_length (by omega) _ i (by rw [downAt_length l hi1 hi2]; omega), HY.out, downAt_step l hi1 hlt]
        rw [← he]
        exact hst
      case measure => simp [intOf] <;> omega
    · have hin : i = l.length - 1 := by omega
      have HIN := Lib.hid hin
      have b1 : (0 : Int) ≤ (l.length : Int) - 1 := by omega
      have b2 : (l.length : Int) - 1 ≤ (c1 : Int) := by omega
      have b3 : ¬ c1 = 0 := by omega
      have v1 : IntKind.i64.wrap ((l.length : Int) - 1) = (l.length : Int) - 1 := IntWalk.i64_in _ (by omega)
      have v2 : ((l.length : Int) - 1).toNat = l.length - 1 := by omega
      have b4 : (1 : Int) ≤ (l.length : Int) := by omega
      have b5 : l.length - 1 ≤ c1 := by omega
      have f0 : wr.frozen? ⟨b, 0, none⟩ = false := (HBk.out.fr HFR.out (fun h => hgb h.symm)).frozen 0
      clear hin hrm
      go_wp2_with fail
      refine wp_region_E (fun w9 => Below wr.heap.size wr w9) [(0, 0), (1, 0), (2, 0), (3, 0), (4, 1), (5, 0), (6, 0), (7, 0), (8, 1), (9, 0), (10, 0), (11, 0), (12, 0), (13, 0), (14, 2)] (by kernel_rfl) (by kernel_rfl) (fun KK hKK => ?_)
      simp only [beside, List.filterMap_cons, List.filterMap_nil, List.getElem?_toArray, List.getElem?_cons_zero, List.getElem?_cons_succ, Option.map_some]
      repeat (first | (refine wpX_w ?_ (Or.inl ⟨by rfl, fun w9 => ?_⟩) ?_; rotate_left 1; go_simp; with_reducible rfl; simp only [Act.put, List.setIfInBounds_toArray, List.set_cons_zero, List.set_cons_succ]) | (refine wpX_l ?_ (((Below.refl _ _).drew)) (Or.inl ⟨by rfl, fun w9 hw9 => ?_⟩) ?_; rotate_left 1; obtain ⟨hc9, hf9⟩ := bcell hw9; go_simp; with_reducible rfl; simp only [Act.put, List.setIfInBounds_toArray, List.set_cons_zero, List.set_cons_succ]) | (refine wpX_w undef (Or.inr ⟨by rfl, rfl⟩) ?_; simp only [Act.put, List.setIfInBounds_toArray, List.set_cons_zero, List.set_cons_succ]) | (refine wpX_l undef (((Below.refl _ _).drew)) (Or.inr ⟨by rfl, rfl⟩) ?_; simp only [Act.put, List.setIfInBounds_toArray, List.set_cons_zero, List.set_cons_succ]))
      refine wpX_e (by kernel_rfl) (fun K9 hK9 => ?_)
      go_simp
      refine hK9 _ _ ?_
      clear hK9 K9
      refine wpX_nil ?_
      simp only [OnlyN_normal]
      refine hKK _ _ ?_
      clear hKK KK
      go_wp2_with fail
      go_ret
      have hdl : (drop cmpPage l x).length = l.length - 1 := by rw [HDE.out]; simp; omega
      refine ⟨by rw [hh]; rfl, false, some ⟨g, 0, none⟩, c1, ⟨?_, ?_⟩, ?_, HgMv.out⟩
      · rw [hdl]
        exact (HBk.out.fr HFR.out (fun h => hgb h.symm)).set_ 0 _
      · rw [hdl]
        refine ownsRow_setCell_other (a := ⟨b, 0, none⟩) ?_ (by simpa [Value.ownBlock] using hgb) _
        have h1 := HOW.out
        rw [HIN.out] at h1
        have h2 := ownsRow_prefix Page.cells_length (by omega) h1 (m := l.length - 1) (by omega) (downAt_length l (by omega) (by omega))
        rw [downAt_end l hrk, ← HDE.out] at h2
        exact h2
      · exact (HF.out.into HFR.out (fun k hk => by subst hk; exact HgM.out)).drew.setCell (p := ⟨b, 0, none⟩) (.inl (.inl rfl)) _
theorem drop_Page (b c : Nat) (sn : Bool) (A : Option Addr) (l : List Page) (x : Page) (w : World) (hS : PageSet w b sn A c l) (hs : Srt cmpPage l) (hl : (l.length : Int) ≤ 100000000) :
    Calls Try.prog 52 #[.pointer (some ⟨b, 0, none⟩), .agg #[.int .u8 x.kk, .int .i64 x.v]] w (DropPostPage w b sn A l x) := by
  cases hh : has cmpPage l x
  · exact drop_not_Page b c sn A l x w hS hs hl hh
  · exact drop_is_Page b c sn A l x w hS hs hl hh
end Go.Proofs.Ythogokcbbkjcdaa

namespace Go.Proofs.Ythogokcbbkjcdaa
open Go.RowKit

set_option maxRecDepth 100000 in
set_option maxHeartbeats 1000000 in
theorem get_no_Page (b c : Nat) (sn : Bool) (A : Option Addr) (l : List Page) (x : Page) (w : World) (hS : PageSet w b sn A c l) (hs : Srt cmpPage l) (hl : (l.length : Int) ≤ 1000000000) (hh : has cmpPage l x = false) :
    Calls Try.prog 50 #[.pointer (some ⟨b, 0, none⟩), .agg #[.int .u8 x.kk, .int .i64 x.v]] w fun e w' => e = .returned (.tuple #[.agg #[.int .u8 0, .int .i64 0], .bool false]) ∧ Below w.heap.size w w' := by
  have HS := Lib.hid hS
  have HO := Lib.hid hs
  clear hS hs
  go_enter Try.func50, Try.ntmps50
  go_wp2_with fail
  refine (find_Page b c sn A l x _ (HS.out.new_ ((((Below.refl _ _).alloc (Nat.le_refl _) _).alloc (by simp) _).alloc (by simp; omega) _)) HO.out (by omega)).mono ?_
  rintro e w1 ⟨rfl, hb1⟩
  obtain ⟨hc1, hf1⟩ := bcell hb1
  have hz1 : w.heap.size + 2 < w1.heap.size := by have := hb1.size; simp at this; omega
  have HB := Lib.hid ((((((Below.refl w.heap.size w).alloc (Nat.le_refl _) _).alloc (by simp) _).alloc (by simp; omega) _)).trans (hb1.mono (by simp; omega)))
  clear hb1
  go_wp2_with fail
  exact bodyPost_ret (v := .tuple #[.agg #[.int .u8 0, .int .i64 0], .bool false]) (by simp [results, Try.results50, go_sem, hc1]) rfl ⟨rfl, by (repeat (first | exact Below.refl _ _ | exact HB.out | (refine Below.drew ?_) | (refine Below.alloc ?_ (by simp <;> omega) _) | (refine Below.setCell ?_ (by simp <;> omega) _)))⟩
set_option maxRecDepth 100000 in
set_option maxHeartbeats 1000000 in
theorem get_is_Page (b c : Nat) (sn : Bool) (A : Option Addr) (l : List Page) (x y : Page) (w : World) (hS : PageSet w b sn A c l) (hs : Srt cmpPage l) (hl : (l.length : Int) ≤ 1000000000) (hh : has cmpPage l x = true) (hy : l[rank cmpPage l x]? = some y) :
    Calls Try.prog 50 #[.pointer (some ⟨b, 0, none⟩), .agg #[.int .u8 x.kk, .int .i64 x.v]] w fun e w' => e = .returned (.tuple #[.agg #[.int .u8 y.kk, .int .i64 y.v], .bool true]) ∧ Below w.heap.size w w' := by
  have HS := Lib.hid hS
  have HO := Lib.hid hs
  obtain ⟨hrk, hye⟩ := List.getElem?_eq_some_iff.1 hy
  have hrd := hS.rd Page.cells_length
  have s0 := hS.cell0
  have hb := hS.lt
  clear hS hs hy
  obtain ⟨g, off, rfl, hgs, hcell⟩ := hrd.at_ hrk
  rw [hye] at hcell
  obtain ⟨k, hk⟩ : ∃ k, k = rank cmpPage l x := ⟨_, rfl⟩
  rw [← hk] at hcell hrk
  have q0 : w.cell? ⟨g, off + k * 2, none⟩ = some (.int .u8 y.kk) := by simpa using hcell 0 _ rfl
  have q1 : w.cell? ⟨g, off + k * 2 + 1, none⟩ = some (.int .i64 y.v) := by simpa using hcell 1 _ rfl
  have b1 : (0 : Int) ≤ (k : Int) := by omega
  have b2 : (k : Int) < (l.length : Int) := by omega
  have HK := Lib.hid hk
  clear hcell hrd hye hk
  go_enter Try.func50, Try.ntmps50
  go_wp2_with fail
  refine (find_Page b c sn _ l x _ (HS.out.new_ ((((Below.refl _ _).alloc (Nat.le_refl _) _).alloc (by simp) _).alloc (by simp; omega) _)) HO.out (by omega)).mono ?_
  rintro e w1 ⟨rfl, hb1⟩
  rw [← HK.out]
  obtain ⟨hc1, hf1⟩ := bcell hb1
  have hz1 : w.heap.size + 2 < w1.heap.size := by have := hb1.size; simp at this; omega
  have HB := Lib.hid ((((((Below.refl w.heap.size w).alloc (Nat.le_refl _) _).alloc (by simp) _).alloc (by simp; omega) _)).trans (hb1.mono (by simp; omega)))
  clear hb1
  have r0 := (HB.out.cell (p := ⟨b, 0, none⟩) hb).trans s0
  have r1 := (HB.out.cell (p := ⟨g, off + k * 2, none⟩) hgs).trans q0
  have r2 := (HB.out.cell (p := ⟨g, off + k * 2 + 1, none⟩) hgs).trans q1
  clear s0 q0 q1
  go_wp2_with fail
  exact bodyPost_ret (v := .tuple #[.agg #[.int .u8 y.kk, .int .i64 y.v], .bool true]) (by simp [results, Try.results50, go_sem, hc1]) rfl ⟨rfl, by (repeat (first | exact Below.refl _ _ | exact HB.out | (refine Below.drew ?_) | (refine Below.alloc ?_ (by simp <;> omega) _) | (refine Below.setCell ?_ (by simp <;> omega) _)))⟩

/-- Behind Clone: two sets over one list, each marked as seen. -/
def ClonePostPage (w : World) (b : Nat) (A : Option Addr) (c : Nat) (l : List Page) (e : Ending) (w' : World) : Prop :=
  ∃ k, e = .returned (.pointer (some ⟨k, 0, none⟩)) ∧ w.heap.size ≤ k ∧ PageSet w' b true A c l ∧ PageSet w' k true A c l ∧ Fr (· = b) w w'
set_option maxRecDepth 100000 in
set_option maxHeartbeats 1000000 in
theorem clone_Page (b c : Nat) (sn : Bool) (A : Option Addr) (l : List Page) (w : World) (hS : PageSet w b sn A c l) :
    Calls Try.prog 39 #[.pointer (some ⟨b, 0, none⟩)] w (ClonePostPage w b A c l) := by
  have s0 := hS.cell0
  have s1 := hS.cell1
  have f1 := hS.blk.frozen 1
  have hb := hS.lt
  have HS := Lib.hid hS
  clear hS
  go_enter Try.func39, Try.ntmps39
  go_wp2
  go_ret
  have h1 : PageSet (w.setCell ⟨b, 1, none⟩ (.bool true)) b true A c l := ⟨HS.out.blk.set_ 1 _, ownsRow_setCell_other HS.out.row (own_blk_ne HS.out.row HS.out.blk (by decide)) _⟩
  refine ⟨w.heap.size, by simp, Nat.le_refl _, h1.new_ ((Below.refl _ _).alloc (Nat.le_refl _) _), ⟨?_, ownsRow_new h1.row ((Below.refl _ _).alloc (Nat.le_refl _) _)⟩, ((Fr.refl (· = b) w).setCell (p := ⟨b, 1, none⟩) (.inl rfl) _).alloc _⟩
  have h2 := Blk.new (w.setCell ⟨b, 1, none⟩ (.bool true)) 88 #[.slice A l.length c, .bool true]
  simpa using h2
end Go.Proofs.Ythogokcbbkjcdaa

namespace Go.Proofs.Ythogokcbbkjcdaa
open Go.RowKit
/-- Behind New: a set in new memory. -/
def NewPostPage (w : World) (xs : List Page) (e : Ending) (w' : World) : Prop :=
  ∃ k, e = .returned (.pointer (some ⟨k, 0, none⟩)) ∧ w.heap.size ≤ k ∧ ∃ sn A c, PageSet w' k sn A c (puts cmpPage [] xs) ∧ AIn A (w.heap.size ≤ ·) ∧ Below w.heap.size w w'
set_option maxRecDepth 100000 in
set_option maxHeartbeats 2000000 in
theorem new_Page (A : Option Addr) (c : Nat) (xs : List Page) (w : World) (hrd : RowRd w 2 Page.cells A c xs) (hl : (xs.length : Int) ≤ 10000000) :
    Calls Try.prog 26 #[.slice A xs.length c] w (NewPostPage w xs) := by
  have HRD := Lib.hid hrd
  clear hrd
  go_enter Try.func26, Try.ntmps26
  go_wp2_with fail
  obtain ⟨W0, hW0⟩ : ∃ W0, W0 = w.alloc (.cells #[.slice none 0 0, .bool false] 88) := ⟨_, rfl⟩
  have hb0 : Below w.heap.size w W0 := by rw [hW0]; exact (Below.refl _ _).alloc (Nat.le_refl _) _
  have hS0 : PageSet W0 w.heap.size false none 0 [] := ⟨by rw [hW0]; exact Blk.new _ _ _, ⟨by simp, .inl ⟨rfl, rfl⟩⟩⟩
  rw [← hW0]
  clear hW0
  have HB0 := Lib.hid hb0
  have HS0 := Lib.hid hS0
  clear hb0 hS0
  go_loopw [10] (fun s wr => ∃ i : Nat, s = .int .i64 i ∧ i ≤ xs.length ∧ ∃ sn A' c', PageSet wr w.heap.size sn A' c' (puts cmpPage [] (xs.take i)) ∧ AIn A' (w.heap.size ≤ ·) ∧ Below w.heap.size w wr) (fun s wr => xs.length - (intOf s).toNat)
  case atStart => exact ⟨0, rfl, Nat.zero_le _, false, none, 0, HS0.out, AIn.none_ _, HB0.out⟩
  case round =>
    obtain ⟨i, rfl, hi, sn, A', c', hS, hA', hB⟩ := hrel
    have HS := Lib.hid hS
    have HA := Lib.hid hA'
    have HB := Lib.hid hB
    clear hS hA' hB
    by_cases hlt : i < xs.length
    · obtain ⟨x, hx⟩ : ∃ x, x = xs[i] := ⟨_, rfl⟩
      obtain ⟨g, off, rfl, hgs, hcell⟩ := (HRD.out.fr (Fr.of_new (M := fun _ => False) HB.out) (fun _ _ h => h)).at_ hlt
      rw [← hx] at hcell
      have q0 : wr.cell? ⟨g, off + i * 2, none⟩ = some (.int .u8 x.kk) := by simpa using hcell 0 _ rfl
      have q1 : wr.cell? ⟨g, off + i * 2 + 1, none⟩ = some (.int .i64 x.v) := by simpa using hcell 1 _ rfl
      have b1 : (0 : Int) ≤ (i : Int) := by omega
      have b2 : (i : Int) < (xs.length : Int) := by omega
      have HX := Lib.hid hx
      clear hcell hx
      go_wp2_with fail
      have hsr := Srt.puts tc_page (xs.take i) (Srt.nil (cmp := cmpPage))
      have hlen : (((puts cmpPage [] (xs.take i)).length : Nat) : Int) ≤ 100000000 := by
        have := length_puts_le tc_page (xs.take i) (Srt.nil (cmp := cmpPage))
        simp at this
        omega
      refine (put_Page w.heap.size c' sn A' _ x _ (HS.out.new_ ((Below.refl _ _).alloc (Nat.le_refl _) _)) hsr hlen).mono ?_
      rintro e w1 ⟨rfl, sn2, A2, c2, hS2, hF2, hM2⟩
      have hB1 : Below w.heap.size w w1 := (HB.out.alloc HB.out.size _).trans (hF2.below (by have := HB.out.size; (try simp); omega) (fun k hk hm => by
        rcases hm with hm | ⟨_, a, ha, hm⟩
        · omega
        · have := HA.out a ha; omega))
      have hA2 : AIn A2 (w.heap.size ≤ ·) := by
        rcases hM2 with ⟨_, rfl⟩ | ⟨_, g2, hg2, rfl⟩
        · exact HA.out
        · intro a ha; cases ha; have := HB.out.size; (try simp at hg2 ⊢); omega
      have HS2 := Lib.hid hS2
      have HB1 := Lib.hid hB1
      have HA2 := Lib.hid hA2
      clear hS2 hB1 hA2 hF2 hM2 hsr hlen q0 q1
      go_wp2_with fail
      go_roundw
      case rel =>
        refine ⟨i + 1, by go_num, by omega, sn2, A2, c2, ?_, HA2.out, HB1.out⟩
        rw [List.take_add_one, List.getElem?_eq_getElem hlt, ← HX.out]
        simp only [Option.toList_some, puts_snoc]
        exact HS2.out
      case measure => simp [intOf] <;> omega
    · have hie : i = xs.length := by omega
      subst hie
      go_wp2_with fail
      go_ret
      refine ⟨w.heap.size, rfl, Nat.le_refl _, sn, A', c', ?_, HA.out, HB.out⟩
      have := HS.out
      rwa [List.take_length] at this
end Go.Proofs.Ythogokcbbkjcdaa

namespace Go.Proofs.Ythogokcbbkjcdaa
open Go.RowKit
abbrev PageSets := Sets (α := Page) 88 73 2 Page.cells cmpPage
section
variable {D : Nat → Prop} {w : World} {S : Nat → Option (List Page)} {σ : Nat → St} {b : Nat} {l : List Page}
/-- A set changed: its own list is another now; what is protected lies as it lay. -/
def ChangedPage (D : Nat → Prop) (w : World) (S : Nat → Option (List Page)) (σ : Nat → St) (b : Nat) (l : List Page) (w' : World) : Prop :=
  ∃ σ', PageSets D w' (upd S b (some l)) σ' ∧ (∀ k, k ≠ b → σ' k = σ k) ∧ Fr (fun k => ¬ D k) w w' ∧ Fr (SetMod b (σ b).sn (σ b).A) w w'
theorem sPut_Page (x : Page) (h : PageSets D w S σ) (hb : S b = some l) (hl : (l.length : Int) ≤ 100000000) :
    Calls Try.prog 38 #[.pointer (some ⟨b, 0, none⟩), .agg #[.int .u8 x.kk, .int .i64 x.v]] w fun e w' => e = .returned (.bool (!has cmpPage l x)) ∧ ChangedPage D w S σ b (put cmpPage l x) w' := by
  refine (put_Page b _ _ _ l x w (h.at_ b l hb) (h.srt b l hb) hl).mono ?_
  rintro e w' ⟨he, sn', A', c', h1, hF, hM⟩
  exact ⟨he, _, h.moved (by decide) hb h1 ((h.srt b l hb).put tc_page x) hF hM, fun k hk => upd_ne _ _ hk, h.mod hb hF, hF⟩

theorem sDrop_Page (x : Page) (h : PageSets D w S σ) (hb : S b = some l) (hl : (l.length : Int) ≤ 100000000) :
    Calls Try.prog 52 #[.pointer (some ⟨b, 0, none⟩), .agg #[.int .u8 x.kk, .int .i64 x.v]] w fun e w' => e = .returned (.bool (has cmpPage l x)) ∧ ChangedPage D w S σ b (drop cmpPage l x) w' := by
  refine (drop_Page b _ _ _ l x w (h.at_ b l hb) (h.srt b l hb) hl).mono ?_
  rintro e w' ⟨he, sn', A', c', h1, hF, hM⟩
  exact ⟨he, _, h.moved (by decide) hb h1 ((h.srt b l hb).drop x) hF hM, fun k hk => upd_ne _ _ hk, h.mod hb hF, hF⟩

/-- A new set. -/
def MadePage (D : Nat → Prop) (w : World) (S : Nat → Option (List Page)) (_ : Nat → St) (l : List Page) (e : Ending) (w' : World) : Prop :=
  ∃ k, e = .returned (.pointer (some ⟨k, 0, none⟩)) ∧ w.heap.size ≤ k ∧ (∀ b l, S b = some l → b ≠ k) ∧ ∃ σ', PageSets D w' (upd S k (some l)) σ' ∧ Fr (fun k => ¬ D k) w w'
theorem sNew_Page (A : Option Addr) (c : Nat) (xs : List Page) (h : PageSets D w S σ) (hrd : RowRd w 2 Page.cells A c xs) (hl : (xs.length : Int) ≤ 10000000) :
    Calls Try.prog 26 #[.slice A xs.length c] w fun e w' => MadePage D w S σ (puts cmpPage [] xs) e w' ∧ Below w.heap.size w w' := by
  refine (new_Page A c xs w hrd hl).mono ?_
  rintro e w' ⟨k, he, hk, sn, A', c', h1, hA, hB⟩
  exact ⟨⟨k, he, hk, fun b l hb e => by have := h.lt hb; omega, _, h.add hk h1 (Srt.puts tc_page xs Srt.nil) (.inl hA) hB, Fr.of_new hB⟩, hB⟩

theorem sClone_Page (h : PageSets D w S σ) (hb : S b = some l) :
    Calls Try.prog 39 #[.pointer (some ⟨b, 0, none⟩)] w fun e w' => ∃ k, e = .returned (.pointer (some ⟨k, 0, none⟩)) ∧ w.heap.size ≤ k ∧ (∀ b l, S b = some l → b ≠ k) ∧
      ∃ σ', PageSets D w' (upd S k (some l)) σ' ∧ (∀ j, j ≠ k → j ≠ b → σ' j = σ j) ∧ (σ' b).sn = true ∧ (σ' b).A = (σ b).A ∧ (σ' k).sn = true ∧ (σ' k).A = (σ b).A ∧ Fr (fun k => ¬ D k) w w' ∧ Fr (· = b) w w' := by
  refine (clone_Page b _ _ _ l w (h.at_ b l hb)).mono ?_
  rintro e w' ⟨k, he, hk, h1, h2, hF⟩
  have hnb : b ≠ k := fun e => by have := h.lt hb; omega
  have hD : Fr (fun k => ¬ D k) w w' := hF.mono (fun k _ hk => by rw [hk]; exact (h.out b l hb).1)
  have hs := h.seen (by decide) hb h1 hF
  have hrow := (h.at_ b l hb).row_lt
  refine ⟨k, he, hk, fun b l hb e => by have := h.lt hb; omega, upd (upd σ b ⟨true, (σ b).A, (σ b).c⟩) k ⟨true, (σ b).A, (σ b).c⟩, ⟨fun j m hj => ?_, fun j m hj => ?_, fun j m hj => ?_, fun j m j' m' hj hj' hjj hsj a a' ha ha' => ?_, hs.low⟩, fun j h1 h2 => by rw [upd_ne _ _ h1, upd_ne _ _ h2], by rw [upd_ne _ _ hnb, upd_same], by rw [upd_ne _ _ hnb, upd_same], by rw [upd_same], by rw [upd_same], hD, hF⟩
  · by_cases e : j = k
    · subst e; rw [upd_same] at hj ⊢; cases hj; exact h2
    · rw [upd_ne _ _ e] at hj ⊢; exact hs.at_ j m hj
  · by_cases e : j = k
    · subst e; rw [upd_same] at hj; cases hj; exact h.srt b l hb
    · rw [upd_ne _ _ e] at hj; exact h.srt j m hj
  · by_cases e : j = k
    · subst e; rw [upd_same] at hj ⊢; cases hj
      exact ⟨fun hd => by have := h.low _ hd; omega, fun hs2 => by cases hs2⟩
    · rw [upd_ne _ _ e] at hj ⊢; exact hs.out j m hj
  · by_cases e : j = k
    · subst e; rw [upd_same] at hsj; cases hsj
    · rw [upd_ne _ _ e] at hj hsj ha
      by_cases e2 : j' = k
      · subst e2
        rw [upd_same] at ha'
        by_cases e3 : j = b
        · subst e3; rw [upd_same] at hsj; cases hsj
        · exact hs.apart j m b l hj hb e3 hsj a a' ha (by rw [upd_same]; exact ha')
      · rw [upd_ne _ _ e2] at hj' ha'
        exact hs.apart j m j' m' hj hj' hjj hsj a a' ha ha'
end
end Go.Proofs.Ythogokcbbkjcdaa

namespace Go.Proofs.Ythogokcbbkjcdaa

section
variable {P : Program} {ops : Array Oper} {Q : Exit → Act → World → Prop} {S : World → Prop}

/-- A plan: a row of operations, then the end, or one of two comes first. -/
inductive Pl where
  | fin (l : List (Nat × Cls))
  | fork (l : List (Nat × Cls)) (i : Nat) (r : Pl) (j : Nat) (s : Pl)

def setL (listed : Array Bool) (l : List (Nat × Cls)) : Array Bool := l.foldl (fun g x => g.setIfInBounds x.1 true) listed
def okL (ops : Array Oper) : List (Nat × Cls) → Array Bool → Bool
  | [], _ => true
  | (k, c) :: rest, listed => (if c == 2 then Region.ready .any ops listed == [k] else (Region.ready .any ops listed).contains k && Region.free .any ops listed k) && okL ops rest (listed.setIfInBounds k true)
def chkL (qs ls : List Nat) (l : List (Nat × Cls)) : Bool := l.all fun (k, c) => (c != 2) == qs.contains k && (c != 1 || ls.contains k)
def okPl (ops : Array Oper) (qs ls : List Nat) : Pl → Nat → Array Bool → Bool
  | .fin l, n, listed => n == l.length && chkL qs ls l && okL ops l listed && (Region.ready .any ops (setL listed l)).isEmpty && l.all fun x => x.1 < ops.size
  | .fork l i r j s, n, listed => decide (l.length + 1 ≤ n) && chkL qs ls l && okL ops l listed && (l.all fun x => x.1 < ops.size) && Region.ready .any ops (setL listed l) == [i, j] && !qs.contains i && !qs.contains j &&
      okPl ops qs ls r (n - l.length - 1) ((setL listed l).setIfInBounds i true) && okPl ops qs ls s (n - l.length - 1) ((setL listed l).setIfInBounds j true)

/-- A row of operations, each beside its number, and then R. -/
def wpY (P : Program) (ops : Array Oper) (Q : Exit → Act → World → Prop) (S : World → Prop) (ns : Nat → Bool) (R : Act → World → Prop) : List (Nat × Cls × Oper) → Act → World → Prop
  | [], a, w => R a w
  | (i, c, o) :: rest, a, w =>
    if c = 2 then (if Region.wanted o (yielded ops a.tmps) = true then o.wp P a w (fun a' w' => (ns i = true → S w') ∧ wpY P ops Q S ns R rest a' w') Q else (ns i = true → S w) ∧ wpY P ops Q S ns R rest (a.put o.dst undef) w)
    else ∃ v, (if c = 1 then YieldsIf P ops S o v a ∧ S w else Yields P ops o v a) ∧ wpY P ops Q S ns R rest (a.put o.dst v) w
def wpPl (P : Program) (ops : Array Oper) (Q : Exit → Act → World → Prop) (S : World → Prop) (ns : Nat → Bool) : Pl → Act → World → Prop
  | .fin l, a, w => wpY P ops Q S ns (fun a w => Q .normal a w) (beside ops l) a w
  | .fork l i r j s, a, w => wpY P ops Q S ns (fun a w => wpOp P ops Q i (fun a' w' => (ns i = true → S w') ∧ wpPl P ops Q S ns r a' w') a w ∧ wpOp P ops Q j (fun a' w' => (ns j = true → S w') ∧ wpPl P ops Q S ns s a' w') a w) (beside ops l) a w

theorem closed_setL : ∀ (l : List (Nat × Cls)) (listed : Array Bool), Closed ops listed → okL ops l listed = true → Closed ops (setL listed l)
  | [], _, h, _ => h
  | (k, c) :: rest, listed, h, hB => by
    simp only [okL, Bool.and_eq_true] at hB
    refine closed_setL rest _ (closed_ready h ?_) hB.2
    by_cases hc : c = 2
    · subst hc
      have hB1 := hB.1
      simp only [beq_self_eq_true, if_true] at hB1
      have hr : Region.ready .any ops listed = [k] := by simpa using hB1
      rw [hr]; simp
    · have hB1 := hB.1
      rw [if_neg (by simpa using hc)] at hB1
      simp only [Bool.and_eq_true] at hB1
      simpa using hB1.1

theorem wpAnyE_list {qt ns : Nat → Bool} {R : Act → World → Prop} {n : Nat} (hsel : Region.noSelect ops = true) (hQ : ∀ c a a' w, Q (.panic c) a w → Q (.panic c) a' w) :
    ∀ (rest : List (Nat × Cls)) (listed : Array Bool) (a : Act) (w : World), Closed ops listed → okL ops rest listed = true → (∀ x ∈ rest, x.1 < ops.size) →
      (∀ k c, (k, c) ∈ rest → (qt k = true ↔ c ≠ 2)) → (∀ k, (k, 1) ∈ rest → ∀ j, waitsT ops ops.size j k = false → j ≠ k → j < ops.size → ns j = true) →
      (∀ a w, R a w → wpAnyE P ops Q S qt ns n (setL listed rest) a w) → wpY P ops Q S ns R (beside ops rest) a w → wpAnyE P ops Q S qt ns (rest.length + n) listed a w
  | [], listed, a, w, _, _, _, _, _, hR, h => by
    have := hR a w h
    simpa [setL] using this
  | (k, c) :: rest, listed, a, w, hcl, hB, hl, hqt, hns, hR, h => by
    simp only [okL, Bool.and_eq_true] at hB
    obtain ⟨hB1, hB2⟩ := hB
    have hi : k < ops.size := hl (k, c) (by simp)
    have ho : ops[k]? = some ops[k] := Array.getElem?_eq_getElem hi
    have hb : beside ops ((k, c) :: rest) = (k, c, ops[k]) :: beside ops rest := by simp [beside, ho]
    have ih := fun listed' a w hcl' hB' hR' h' => wpAnyE_list (R := R) (n := n) hsel hQ rest listed' a w hcl' hB' (fun x hx => hl x (by simp [hx])) (fun k c hk => hqt k c (by simp [hk])) (fun k hk => hns k (by simp [hk])) hR' h'
    rw [hb] at h
    simp only [wpY] at h
    have hlen : ((k, c) :: rest).length + n = (rest.length + n) + 1 := by simp; omega
    rw [hlen]
    by_cases hc : c = 2
    · subst hc
      simp only [beq_self_eq_true, if_true] at hB1
      have hr : Region.ready .any ops listed = [k] := by simpa using hB1
      simp only [if_true] at h
      have hcl2 := closed_ready hcl (i := k) (by rw [hr]; simp)
      refine ⟨fun h0 => (by rw [hr] at h0; cases h0), fun i hi' => ?_⟩
      rw [hr] at hi'
      obtain rfl : i = k := by simpa using hi'
      have hbh : ∀ w', (ns i = true → S w') → behind S qt ns i w w' := fun w' hs => by
        unfold behind
        rw [if_neg (fun hq => (hqt i 2 (by simp)).1 hq rfl)]
        exact hs
      unfold wpOp
      simp only [ho]
      split
      · rename_i hw
        rw [if_pos hw] at h
        exact .inl (Oper.wp_mono (fun a' w' h' => ⟨hbh w' h'.1, ih _ a' w' hcl2 hB2 hR h'.2⟩) h)
      · rename_i hw
        rw [if_neg hw] at h
        exact ⟨hbh w h.1, ih _ _ w hcl2 hB2 hR h.2⟩
    · rw [if_neg (by simpa using hc)] at hB1
      simp only [Bool.and_eq_true] at hB1
      rw [if_neg hc] at h
      obtain ⟨v, hy, hk⟩ := h
      have hrdy : k ∈ Region.ready .any ops listed := by simpa using hB1.1
      have hrest := ih _ _ w (closed_ready hcl hrdy) hB2 hR hk
      by_cases h1 : c = 1
      · subst h1
        rw [if_pos rfl] at hy
        exact wpAnyE_first ho (Region.noSelect_spec hsel) (fun c a w => hQ c _ _ w) true ((hqt k 1 (by simp)).2 hc) (fun _ => hns k (by simp)) (rest.length + n) listed a w hcl (Region.free_spec ho hB1.2) hrdy
          (hy.1.imp (fun ⟨p, q⟩ => ⟨p, fun w' hw' => q w' (hw' rfl)⟩) id) (fun _ => hy.2) hrest
      · rw [if_neg h1] at hy
        exact wpAnyE_first ho (Region.noSelect_spec hsel) (fun c a w => hQ c _ _ w) false ((hqt k c (by simp)).2 hc) (fun h => by cases h) (rest.length + n) listed a w hcl (Region.free_spec ho hB1.2) hrdy
          (hy.imp (fun ⟨p, q⟩ => ⟨p, fun w' _ => q w'⟩) id) (fun h => by cases h) hrest

theorem wpAnyE_pl {qs ls : List Nat} (hsel : Region.noSelect ops = true) (hQ : ∀ c a a' w, Q (.panic c) a w → Q (.panic c) a' w) (p : Pl) :
    ∀ (n : Nat) (listed : Array Bool) (a : Act) (w : World), Closed ops listed → okPl ops qs ls p n listed = true →
      wpPl P ops Q S (fun j => ls.any fun k => k != j && !waitsT ops ops.size j k) p a w → wpAnyE P ops Q S (fun k => qs.contains k) (fun j => ls.any fun k => k != j && !waitsT ops ops.size j k) n listed a w := by
  have hq : ∀ l, chkL qs ls l = true → ∀ k c, (k, c) ∈ l → (qs.contains k = true ↔ c ≠ 2) := fun l hl k c hk => by
    have := List.all_eq_true.1 hl (k, c) hk
    simp only [Bool.and_eq_true, beq_iff_eq] at this
    rw [← this.1]; simp
  have hn : ∀ l, chkL qs ls l = true → ∀ k, (k, 1) ∈ l → ∀ j, waitsT ops ops.size j k = false → j ≠ k → j < ops.size → (ls.any fun k => k != j && !waitsT ops ops.size j k) = true := fun l hl k hk j hw hjk _ => by
    have := List.all_eq_true.1 hl (k, 1) hk
    simp only [Bool.and_eq_true] at this
    have h2 : ls.contains k = true := by simpa using this.2
    rw [List.any_eq_true]
    exact ⟨k, by simpa using h2, by rw [hw]; simp [Ne.symm hjk]⟩
  induction p with
  | fin l =>
    intro n listed a w hcl hB h
    simp only [okPl, Bool.and_eq_true, beq_iff_eq] at hB
    obtain ⟨⟨⟨⟨rfl, hc⟩, hL⟩, he⟩, hlt⟩ := hB
    have := wpAnyE_list (P := P) (Q := Q) (S := S) (qt := fun k => qs.contains k) (ns := fun j => ls.any fun k => k != j && !waitsT ops ops.size j k) (R := fun a w => Q .normal a w) (n := 0) hsel hQ l listed a w hcl hL (by simpa [List.all_eq_true] using hlt) (hq l hc) (hn l hc)
      (fun a w h => ⟨by simpa using he, h⟩) h
    simpa using this
  | fork l i r j s ihr ihs =>
    intro n listed a w hcl hB h
    simp only [okPl, Bool.and_eq_true, beq_iff_eq, decide_eq_true_eq, Bool.not_eq_true'] at hB
    obtain ⟨⟨⟨⟨⟨⟨⟨⟨hlen, hc⟩, hL⟩, hlt⟩, hrd⟩, hqi⟩, hqj⟩, hr⟩, hs⟩ := hB
    obtain ⟨m, rfl⟩ : ∃ m, n = l.length + (m + 1) := ⟨n - l.length - 1, by omega⟩
    have em : l.length + (m + 1) - l.length - 1 = m := by omega
    rw [em] at hr hs
    have hcl2 := closed_setL l listed hcl hL
    refine wpAnyE_list (P := P) (Q := Q) (S := S) (qt := fun k => qs.contains k) (ns := fun j => ls.any fun k => k != j && !waitsT ops ops.size j k) (n := m + 1) hsel hQ l listed a w hcl hL (by simpa [List.all_eq_true] using hlt) (hq l hc) (hn l hc) (fun a w hR => ?_) h
    refine ⟨fun h0 => (by rw [hrd] at h0; cases h0), fun k hk => ?_⟩
    have hcl3 := closed_ready hcl2 hk
    rw [hrd] at hk
    simp only [List.mem_cons, List.not_mem_nil, or_false] at hk
    rcases hk with rfl | rfl
    · refine wpOp_mono (fun a' w' h' => ⟨?_, ihr m _ a' w' hcl3 hr h'.2⟩) hR.1
      unfold behind
      rw [if_neg (by simp only [hqi]; simp)]
      exact h'.1
    · refine wpOp_mono (fun a' w' h' => ⟨?_, ihs m _ a' w' hcl3 hs h'.2⟩) hR.2
      unfold behind
      rw [if_neg (by simp only [hqj]; simp)]
      exact h'.1

/-- A REGION THAT DRAWS ITS ORDER, BY A PLAN. -/
theorem wp_region_Pl {id : Nat} {l : List Oper} {a : Act} {w : World} (S : World → Prop) (qs ls : List Nat) (p : Pl) (hm : P.follows .mixedOrders = true) (hsel : Region.noSelect l.toArray = true)
    (hB : okPl l.toArray qs ls p l.toArray.size (Array.replicate l.toArray.size false) = true)
    (h : ∀ K : Act → World → Prop, (∀ a w, Q .normal a w → K a w) → wpPl P l.toArray (OnlyN K) S (fun j => ls.any fun k => k != j && !waitsT l.toArray l.toArray.size j k) p a w.drew) : (Code.region id l.toArray true).wp P Q a w := by
  refine Code.wp_mono (Q := OnlyN fun a w => Q .normal a w) (fun e a w hq => by cases e <;> first | exact hq | exact hq.elim) (wp_region_any hm ?_)
  have hcl : Closed l.toArray (Array.replicate l.toArray.size false) := fun m o hm => by rw [getD_replicate_false] at hm; cases hm
  exact wpAny_of_E _ _ _ _ (wpAnyE_pl (P := P) (Q := OnlyN fun a w => Q .normal a w) (S := S) hsel (fun c a a' w h => h) p _ _ a w.drew hcl hB (h _ (fun _ _ h => h)))

/-! ### the steps -/
variable {ns : Nat → Bool} {R : Act → World → Prop} {rest : List (Nat × Cls × Oper)} {a : Act} {w : World} {i : Nat} {o : Oper}
theorem wpY_nil (h : R a w) : wpY P ops Q S ns R [] a w := h
theorem wpY_w (v : Value) (hy : Yields P ops o v a) (h : wpY P ops Q S ns R rest (a.put o.dst v) w) : wpY P ops Q S ns R ((i, 0, o) :: rest) a w := by
  simp only [wpY]
  exact ⟨v, by simpa using hy, h⟩
theorem wpY_l (v : Value) (hS : S w) (hy : YieldsIf P ops S o v a) (h : wpY P ops Q S ns R rest (a.put o.dst v) w) : wpY P ops Q S ns R ((i, 1, o) :: rest) a w := by
  simp only [wpY]
  exact ⟨v, by simpa using ⟨hy, hS⟩, h⟩
/-- Nothing is asked of the world behind it. -/
theorem wpY_e (hn : ns i = false)
    (h : ∀ K : Act → World → Prop, (∀ a w, wpY P ops Q S ns R rest a w → K a w) → if Region.wanted o (yielded ops a.tmps) = true then Oper.wp P o a w K Q else K (a.put o.dst undef) w) : wpY P ops Q S ns R ((i, 2, o) :: rest) a w := by
  have := h (fun a' w' => (ns i = true → S w') ∧ wpY P ops Q S ns R rest a' w') (fun a w h2 => ⟨fun h => absurd h (by rw [hn]; simp), h2⟩)
  simpa only [wpY, if_true] using this
theorem wpY_es
    (h : ∀ K : Act → World → Prop, (∀ a w, S w → wpY P ops Q S ns R rest a w → K a w) → if Region.wanted o (yielded ops a.tmps) = true then Oper.wp P o a w K Q else K (a.put o.dst undef) w) : wpY P ops Q S ns R ((i, 2, o) :: rest) a w := by
  have := h (fun a' w' => (ns i = true → S w') ∧ wpY P ops Q S ns R rest a' w') (fun a w h1 h2 => ⟨fun _ => h1, h2⟩)
  simpa only [wpY, if_true] using this
/-- One of the two comes first: nothing is asked of the world behind it. -/
theorem wpOp_e {H : Act → World → Prop} (ho : ops[i]? = some o) (hn : ns i = false)
    (h : ∀ K : Act → World → Prop, (∀ a w, H a w → K a w) → if Region.wanted o (yielded ops a.tmps) = true then Oper.wp P o a w K Q else K (a.put o.dst undef) w) :
    wpOp P ops Q i (fun a' w' => (ns i = true → S w') ∧ H a' w') a w := by
  have h2 := h (fun a' w' => (ns i = true → S w') ∧ H a' w') (fun a w h2 => ⟨fun h => absurd h (by rw [hn]; simp), h2⟩)
  unfold wpOp
  simp only [ho]
  split
  · rename_i hw
    rw [if_pos hw] at h2
    exact .inl h2
  · rename_i hw
    rw [if_neg hw] at h2
    exact h2
theorem wpOp_c {C : World → Prop} {H : Act → World → Prop} (hC : ∀ w, C w) (ho : ops[i]? = some o)
    (h : ∀ K : Act → World → Prop, (∀ a w, H a w → K a w) → if Region.wanted o (yielded ops a.tmps) = true then Oper.wp P o a w K Q else K (a.put o.dst undef) w) :
    wpOp P ops Q i (fun a' w' => C w' ∧ H a' w') a w := by
  have h2 := h (fun a' w' => C w' ∧ H a' w') (fun a w h2 => ⟨hC w, h2⟩)
  unfold wpOp
  simp only [ho]
  split
  · rename_i hw
    rw [if_pos hw] at h2
    exact .inl h2
  · rename_i hw
    rw [if_neg hw] at h2
    exact h2
theorem wpOp_cs {C : World → Prop} {H : Act → World → Prop} (ho : ops[i]? = some o)
    (h : ∀ K : Act → World → Prop, (∀ a w, C w → H a w → K a w) → if Region.wanted o (yielded ops a.tmps) = true then Oper.wp P o a w K Q else K (a.put o.dst undef) w) :
    wpOp P ops Q i (fun a' w' => C w' ∧ H a' w') a w := by
  have h2 := h (fun a' w' => C w' ∧ H a' w') (fun a w h1 h2 => ⟨h1, h2⟩)
  unfold wpOp
  simp only [ho]
  split
  · rename_i hw
    rw [if_pos hw] at h2
    exact .inl h2
  · rename_i hw
    rw [if_neg hw] at h2
    exact h2
theorem wpOp_es {H : Act → World → Prop} (ho : ops[i]? = some o)
    (h : ∀ K : Act → World → Prop, (∀ a w, S w → H a w → K a w) → if Region.wanted o (yielded ops a.tmps) = true then Oper.wp P o a w K Q else K (a.put o.dst undef) w) :
    wpOp P ops Q i (fun a' w' => (ns i = true → S w') ∧ H a' w') a w := by
  have h2 := h (fun a' w' => (ns i = true → S w') ∧ H a' w') (fun a w h1 h2 => ⟨fun _ => h1, h2⟩)
  unfold wpOp
  simp only [ho]
  split
  · rename_i hw
    rw [if_pos hw] at h2
    exact .inl h2
  · rename_i hw
    rw [if_neg hw] at h2
    exact h2
end
end Go.Proofs.Ythogokcbbkjcdaa
