/-
  Texts put together: FindPage, OpsPage, PutPage, DropPage, MiscPage, NewPage, WorkPage, BookMap, Tab, BookPut, BookPut2, TabNew, TabPut, TabFresh, TabHas, SeqP, ListPSym, TabAll, RTabNext, RefBefore.
-/
import Derived.Test.YtpndmjabjjbefaaGreatFc
import Derived.Test.YtpndmjabjjbefaaGreatFa
import Derived.Test.YtpndmjabjjbefaaGreatFb
import Derived.Deep.Cut
import Derived.Maps.RangeWalk
namespace Go.Proofs.YtpndmjabjjbefaaGreat
open Go.RowKit
abbrev PageSet := SetAt (α := Page) 161 135 2 Page.cells
theorem nilAhead_Page (k0 : Int) (k1 : Int) (w : World) : (nilAhead 310 135 (.agg #[.int .u8 k0, .int .i64 k1]) "Compare").run Tryz.prog w = .ok (some false) w := by kernel_rfl
theorem method_Page (k0 : Int) (k1 : Int) (w : World) : (method 310 135 (.agg #[.int .u8 k0, .int .i64 k1]) "Compare").run Tryz.prog w = .ok (172, .agg #[.int .u8 k0, .int .i64 k1]) w := by kernel_rfl
def FoundPage (l : List Page) (x : Page) (w : World) (e : Ending) (w' : World) : Prop :=
 e = .returned (.tuple #[.int .i64 (rank cmpPage l x), .bool (has cmpPage l x)]) ∧ Below w.heap.size w w'
set_option maxRecDepth 100000 in
set_option maxHeartbeats 4000000 in
theorem find_Page (b c : Nat) (sn : Bool) (A : Option Addr) (l : List Page) (x : Page) (w : World) (hS : PageSet w b sn A c l) (hs : Srt cmpPage l) (hl : (l.length : Int) ≤ 4611686018427387904) :
 Calls Tryz.prog 124 #[.pointer (some ⟨b, 0, none⟩), .agg #[.int .u8 x.kk, .int .i64 x.v]] w (FoundPage l x w) := by
 have hrd := hS.rd Page.cells_length
 have h0 := hS.cell0
 have hb := hS.lt
 clear hS
 have HS := Lib.hid hs
 have HRD := Lib.hid hrd
 clear hs hrd
 go_enter Tryz.func124, Tryz.ntmps124
 go_wp2_with fail
 go_quiet (fail)
 go_wp2_with fail
 obtain ⟨W0, hW0⟩ : ∃ W0, W0 = ((w.alloc (Obj.cells #[Value.int IntKind.u8 x.kk, Value.int IntKind.i64 x.v] 135)).drewN nq) := ⟨_, rfl⟩
 have hB0 : Below w.heap.size w W0 := by rw [hW0]; exact Below.drewN' ((Below.refl _ _).alloc (Nat.le_refl _) _) _
 have hx0 : W0.cell? ⟨w.heap.size, 0, none⟩ = some (.int .u8 x.kk) := by rw [hW0]; go_simp
 have hx1 : W0.cell? ⟨w.heap.size, 1, none⟩ = some (.int .i64 x.v) := by rw [hW0]; go_simp
 rw [← hW0]
 clear hW0
 have HB0 := Lib.hid hB0
 clear hB0
 go_loopw [6, 7] (fun lo hi wr => ∃ i j : Nat, lo = .int .i64 i ∧ hi = .int .i64 j ∧ i ≤ j ∧ j ≤ l.length ∧ (∀ k, (h : k < l.length) → k < i → cmpPage l[k] x < 0) ∧ (∀ k, (h : k < l.length) → j ≤ k → 0 < cmpPage l[k] x) ∧ Below W0.heap.size W0 wr) (fun lo hi wr => (intOf hi).toNat - (intOf lo).toNat)
 case atStart => exact ⟨0, l.length, rfl, rfl, Nat.zero_le _, Nat.le_refl _, fun k _ h => absurd h (by omega), fun k h h' => absurd h (by omega), Below.refl _ _⟩
 case round =>
  obtain ⟨i, j, rfl, rfl, hij, hj, hlo, hhi, hB⟩ := hrel
  have HLO := Lib.hid hlo
  have HHI := Lib.hid hhi
  clear hlo hhi
  have hsz : w.heap.size < W0.heap.size := World.block_lt_of_cell? W0 _ hx0
  by_cases hlt : i < j
  · obtain ⟨m, hm⟩ : ∃ m, m = i + (j - i) / 2 := ⟨_, rfl⟩
    have hml : m < l.length := by omega
    have hmj : m < j := by omega
    have hmi : i ≤ m := by omega
    have e1 : ((i : Int) + ((j : Int) - (i : Int)) / 2) = (m : Int) := by omega
    have E1 := Lib.hid e1
    clear e1 hm
    obtain ⟨g, off, rfl, hgs, hcell⟩ := HRD.out.at_ hml
    have low : ∀ (p : Addr), p.block < w.heap.size → wr.cell? p = w.cell? p := fun p hp => (hB.cell (p := p) (by omega)).trans (HB0.out.cell (p := p) hp)
    have r0 := (low ⟨b, 0, none⟩ hb).trans h0
    have q0 := (low ⟨g, off + m * 2, none⟩ hgs).trans (hcell 0 _ rfl)
    have q1 := (low ⟨g, off + m * 2 + 1, none⟩ hgs).trans (hcell 1 _ rfl)
    have y0 := (hB.cell (p := ⟨w.heap.size, 0, none⟩) hsz).trans hx0
    have y1 := (hB.cell (p := ⟨w.heap.size, 1, none⟩) hsz).trans hx1
    have b1 : (0 : Int) ≤ (m : Int) := by omega
    have b2 : (m : Int) < (l.length : Int) := by omega
    have hsw : W0.heap.size ≤ wr.heap.size := hB.size
    have N := nilAhead_Page
    have M := method_Page
    clear low hcell hx0 hx1 h0
    have HB := Lib.hid hB
    clear hB
    obtain ⟨y, hy⟩ : ∃ y, y = l[m] := ⟨_, rfl⟩
    rw [← hy] at q0 q1
    have HY := Lib.hid hy
    clear hy
    have hbw : b < wr.heap.size := by omega
    have hgw : g < wr.heap.size := by omega
    have hww : w.heap.size < wr.heap.size := by omega
    go_wp2_with fail
    rw [E1.out]
    go_region_held3 (fun w' => w'.cell? ⟨b, 0, none⟩ = some (.slice (some ⟨g, off, none⟩) l.length c) ∧ w'.cell? ⟨g, off + m * 2, none⟩ = some (.int .u8 y.kk) ∧ w'.cell? ⟨g, off + m * 2 + 1, none⟩ = some (.int .i64 y.v) ∧ w'.cell? ⟨w.heap.size, 0, none⟩ = some (.int .u8 x.kk) ∧ w'.cell? ⟨w.heap.size, 1, none⟩ = some (.int .i64 x.v))
     (first | go_keep | (refine ⟨?_, ?_, ?_, ?_, ?_⟩ <;> exact (hb1.cell (by simpa using by assumption)).trans (by simp [*])))
     ((go_at_call 172; refine (cmp_page y x _).mono ?_; rintro e w1 ⟨rfl, hb1⟩))
    have HB1 : Below W0.heap.size W0 w1 := HB.out.drew.trans (hb1.mono hsw)
    clear r0 q0 q1 y0 y1 N M
    by_cases hc : cmpPage y x = 0
    · have HC := Lib.hid hc
      have t1 : (cmpPage y x == 0) = true := by simp [hc]
      clear hc
      go_wp2_with fail
      go_ret2
      have e := HC.out
      rw [HY.out] at e
      refine ⟨?_, HB0.out.trans (HB1.mono (by omega))⟩
      rw [rank_some tc_page HS.out hml e, (at_some tc_page HS.out hml e).2.2.1]
      rfl
    · have t1 : (cmpPage y x == 0) = false := by simp [hc]
      by_cases hc2 : cmpPage y x < 0
      · have HC := Lib.hid hc2
        have t2 : decide (cmpPage y x < 0) = true := by simpa using hc2
        clear hc hc2
        go_wp2_with fail
        go_roundw
        case rel =>
         refine ⟨m + 1, j, by go_num, rfl, by omega, hj, fun k h1 h2 => ?_, HHI.out, HB1⟩
         have e := HC.out
         rw [HY.out] at e
         rcases Nat.lt_or_ge k m with h3 | h3
         · exact tc_page.lt_of_lt_of_le (HS.out.lt h3 hml) (by omega)
         · obtain rfl : k = m := by omega
           exact e
        case measure => simp [intOf]; omega
      · have t2 : decide (cmpPage y x < 0) = false := by simpa using hc2
        have hc3 : 0 < cmpPage y x := by omega
        have HC := Lib.hid hc3
        clear hc hc2 hc3
        go_wp2_with fail
        go_roundw
        case rel =>
         refine ⟨i, m, rfl, rfl, by omega, by omega, HLO.out, fun k h1 h2 => ?_, HB1⟩
         have e := HC.out
         rw [HY.out] at e
         rcases Nat.lt_or_ge m k with h3 | h3
         · exact (tc_page.symm _ _).1 (tc_page.lt_trans ((tc_page.symm _ _).2 e) (HS.out.lt h3 h1))
         · obtain rfl : k = m := by omega
           exact e
        case measure => simp [intOf]; omega
  · obtain rfl : i = j := by omega
    have HB := Lib.hid hB
    clear hB
    go_wp2_with fail
    go_ret2
    refine ⟨?_, HB0.out.trans (HB.out.mono (by omega))⟩
    rw [rank_none hj HLO.out HHI.out, (at_none HLO.out HHI.out).2.2]
    rfl
end Go.Proofs.YtpndmjabjjbefaaGreat
namespace Go.Proofs.YtpndmjabjjbefaaGreat
open Go.RowKit
theorem info_Page : (Tryz.prog.info? 135).map (fun i => (i.zero, i.size, i.bytes)) = some (some (.agg #[.int .u8 0, .int .i64 0]), 2, 16) := by kernel_rfl
theorem Page.one (x : Page) : ∀ u ∈ Page.cells x, u.oneCell' = true := by intro u hu; simp [Page.cells] at hu; rcases hu with rfl | rfl <;> rfl
theorem Page.oneAll (l : List Page) : ∀ u ∈ l.flatMap Page.cells, u.oneCell' = true := by intro u hu; obtain ⟨x, _, hx⟩ := List.mem_flatMap.1 hu; exact Page.one x u hx
def OwnPostPage (w : World) (b : Nat) (sn : Bool) (A : Option Addr) (l : List Page) (e : Ending) (w' : World) : Prop :=
 e = .returned (.tuple #[]) ∧ ∃ A' c', PageSet w' b false A' c' l ∧ Fr (· = b) w w' ∧ Moved w sn A false A'
set_option maxRecDepth 100000 in
set_option maxHeartbeats 1000000 in
theorem own_no_Page (b c : Nat) (A : Option Addr) (l : List Page) (w : World) (hS : PageSet w b false A c l) :
 Calls Tryz.prog 125 #[.pointer (some ⟨b, 0, none⟩)] w (OwnPostPage w b false A l) := by
 have h1 := hS.cell1
 have HS := Lib.hid hS
 clear hS
 go_enter Tryz.func125, Tryz.ntmps125
 go_wp2
 go_end0
 exact ⟨rfl, A, c, HS.out, Fr.refl _ _, .inl ⟨rfl, rfl⟩⟩
set_option maxRecDepth 100000 in
set_option maxHeartbeats 1000000 in
theorem own_yes_Page (b c : Nat) (A : Option Addr) (l : List Page) (w : World) (hS : PageSet w b true A c l) (hl : (l.length : Int) ≤ 1000000000) :
 Calls Tryz.prog 125 #[.pointer (some ⟨b, 0, none⟩)] w (OwnPostPage w b true A l) := by
 obtain ⟨i0, hi, hz0, hz1, hz2⟩ := info_parts info_Page
 have h0 := hS.cell0
 have h1 := hS.cell1
 have hb := hS.lt
 have f0 := hS.blk.frozen 0
 have f1 := hS.blk.frozen 1
 have hrd := hS.rd Page.cells_length
 have HB := Lib.hid hS.blk
 have HRD := Lib.hid hrd
 clear hS hrd
 have e1 : IntKind.i64.wrap ((l.length : Int) + 1) = (l.length : Int) + 1 := IntWalk.i64_in _ (by omega)
 have hmk : ∀ W : World, (Instr.makeSlice 159 (.int .i64 0) (.int .i64 ((l.length : Int) + 1))).run Tryz.prog W = .ok (.slice (some ⟨W.heap.size, 0, none⟩) 0 (l.length + 1)) (W.alloc (.cells (madeCells (Value.cells (.agg #[.int .u8 0, .int .i64 0])) ((l.length + 1) * 2)) 135)) := fun W => by
  have h := run_make (P := Tryz.prog) W 159 135 i0 _ Tryz.underlying159 hi hz0 .i64 .i64 0 ((l.length : Int) + 1) (by omega) (by omega) (by rw [hz2]; omega) (by omega)
  rw [hz1] at h
  simpa [show ((l.length : Int) + 1).toNat = l.length + 1 by omega] using h
 go_enter Tryz.func125, Tryz.ntmps125
 go_wp2_with fail
 refine wp_region_E (fun w9 => Below w.heap.size w w9) [(0, 0), (1, 0), (2, 0), (3, 0), (4, 1), (5, 0), (6, 0), (8, 0), (9, 0), (10, 0), (11, 1), (7, 2), (12, 2), (13, 0), (14, 0), (15, 2)] (by kernel_rfl) (by kernel_rfl) (fun KK hKK => ?_)
 simp only [beside, List.filterMap_cons, List.filterMap_nil, List.getElem?_toArray, List.getElem?_cons_zero, List.getElem?_cons_succ, Option.map_some]
 repeat ((first | (refine wpX_w ?_ (Or.inl ⟨by rfl, fun w9 => ?_⟩) ?_; rotate_left 1; go_simp; with_reducible rfl) | (refine wpX_l ?_ (((Below.refl _ _).drew)) (Or.inl ⟨by rfl, fun w9 hw9 => ?_⟩) ?_; rotate_left 1; obtain ⟨hc9, hf9⟩ := bcell hw9; go_simp; with_reducible rfl) | refine wpX_w undef (Or.inr ⟨by rfl, rfl⟩) ?_ | refine wpX_l undef (((Below.refl _ _).drew)) (Or.inr ⟨by rfl, rfl⟩) ?_); go_frame)
 refine wpX_es (fun K9 hK9 => ?_)
 go_simp
 refine hK9 _ _ (((Below.refl _ _).drew).alloc (Nat.le_refl _) _) ?_
 clear hK9 K9
 refine wpX_e (by kernel_rfl) (fun K9 hK9 => ?_)
 refine step_append_src _ (by rfl) _ _ _ (by rfl) 135 i0 _ 2 16 Tryz.underlying159 hi hz0 hz1 hz2 rfl (by omega) _ 0 [] (by rfl) (World.ownsRow_made _ _ _ (Nat.zero_le _) (by unfold maxLen; omega) (by simp [madeCells])) A l.length c (l.flatMap Page.cells) (by rfl) (flat_length Page.cells_length l)
  ((HRD.out.drew.alloc _).news Page.cells_length (by omega)) (Page.oneAll l) (by unfold maxLen; omega) (by omega) ?_
 intro v2 w2 hown hgr hnil hat
 refine hK9 _ _ ?_
 clear hK9 K9
 rw [Nat.zero_add, List.nil_append] at hown
 obtain ⟨A', c', rfl, _, _, hz⟩ := own_form2 hown
 have HB1 := (HB.out.drew.alloc (.cells (madeCells (Value.cells (.agg #[.int .u8 0, .int .i64 0])) ((l.length + 1) * 2)) 135)).grown hgr (by simp [Value.ownBlock]; omega)
 have c0 := (HB1.cell 0).trans rfl
 have c1 := (HB1.cell 1).trans rfl
 have z0 := HB1.frozen 0
 have z1 := HB1.frozen 1
 have HB2 := Lib.hid HB1
 clear HB1
 repeat ((first | (refine wpX_w ?_ (Or.inl ⟨by rfl, fun w9 => ?_⟩) ?_; rotate_left 1; go_simp; with_reducible rfl) | (refine wpX_l ?_ (((Below.refl _ _).drew).alloc (Nat.le_refl _) _) (Or.inl ⟨by rfl, fun w9 hw9 => ?_⟩) ?_; rotate_left 1; obtain ⟨hc9, hf9⟩ := bcell hw9; go_simp; with_reducible rfl) | refine wpX_w undef (Or.inr ⟨by rfl, rfl⟩) ?_ | refine wpX_l undef (((Below.refl _ _).drew).alloc (Nat.le_refl _) _) (Or.inr ⟨by rfl, rfl⟩) ?_); go_frame)
 refine wpX_e (by kernel_rfl) (fun K9 hK9 => ?_)
 go_simp
 refine hK9 _ _ ?_
 clear hK9 K9
 refine wpX_nil ?_
 simp only [OnlyN_normal]
 refine hKK _ _ ?_
 clear hKK KK
 go_wp2
 go_end0
 have hb2 : (Value.slice A' l.length c').ownBlock = some w.heap.size ∨ (Value.slice A' l.length c').ownBlock = some (w.heap.size + 1) := by
  rcases hat with h | h
  · left; rw [h]; rfl
  · right; rw [h]; simp
 have hA : ∃ g, w.heap.size ≤ g ∧ A' = some ⟨g, 0, none⟩ := by
  rcases A' with _ | a
  · exfalso; simp [Value.ownBlock] at hb2
  · obtain ⟨g, rfl⟩ := hz a rfl
    refine ⟨g, ?_, rfl⟩
    simp [Value.ownBlock] at hb2
    omega
 obtain ⟨g, hg, rfl⟩ := hA
 have HB1 := HB2.out
 have HF : Fr (· = b) w w2 := ((Fr.refl (· = b) w).drew.alloc _).grown hgr (fun k e => by simp [Value.ownBlock] at e; right; omega)
 refine ⟨rfl, some ⟨g, 0, none⟩, c', ⟨(HB1.set_ 0 _).set_ 1 _, ?_⟩, (HF.setCell (p := ⟨b, 0, none⟩) (.inl rfl) _).setCell (p := ⟨b, 1, none⟩) (.inl rfl) _, .inr ⟨rfl, g, hg, rfl⟩⟩
 have hne : (Value.slice (some ⟨g, 0, none⟩) l.length c').ownBlock ≠ some b := by simp [Value.ownBlock]; omega
 exact ownsRow_setCell_other (a := ⟨b, 1, none⟩) (ownsRow_setCell_other (a := ⟨b, 0, none⟩) hown hne _) hne _
theorem own_Page (b c : Nat) (sn : Bool) (A : Option Addr) (l : List Page) (w : World) (hS : PageSet w b sn A c l) (hl : (l.length : Int) ≤ 1000000000) :
 Calls Tryz.prog 125 #[.pointer (some ⟨b, 0, none⟩)] w (OwnPostPage w b sn A l) := by
 cases sn
 · exact own_no_Page b c A l w hS
 · exact own_yes_Page b c A l w hS hl
end Go.Proofs.YtpndmjabjjbefaaGreat
namespace Go.Proofs.YtpndmjabjjbefaaGreat
open Go.RowKit
def PutPostPage (w : World) (b : Nat) (sn : Bool) (A : Option Addr) (l : List Page) (x : Page) (e : Ending) (w' : World) : Prop :=
 e = .returned (.bool (!has cmpPage l x)) ∧ ∃ sn' A' c', PageSet w' b sn' A' c' (put cmpPage l x) ∧ Fr (SetMod b sn A) w w' ∧ Moved w sn A sn' A'
set_option maxRecDepth 100000 in
set_option maxHeartbeats 1000000 in
theorem put_there_Page (b c : Nat) (sn : Bool) (A : Option Addr) (l : List Page) (x : Page) (w : World) (hS : PageSet w b sn A c l) (hs : Srt cmpPage l) (hl : (l.length : Int) ≤ 100000000) (hh : has cmpPage l x = true) :
 Calls Tryz.prog 102 #[.pointer (some ⟨b, 0, none⟩), .agg #[.int .u8 x.kk, .int .i64 x.v]] w (PutPostPage w b sn A l x) := by
 have HS := Lib.hid hS
 have HO := Lib.hid hs
 clear hS hs
 go_enter Tryz.func102, Tryz.ntmps102
 go_wp2_with fail
 refine (find_Page b c sn A l x _ (HS.out.new_ ((Below.refl _ _).alloc (Nat.le_refl _) _)) HO.out (by omega)).mono ?_
 rintro e w1 ⟨rfl, hb1⟩
 go_wp2_with fail
 go_ret
 refine ⟨by rw [hh]; rfl, sn, A, c, ?_, Fr.of_new (((Below.refl _ _).alloc (Nat.le_refl _) _).trans (hb1.mono (by simp))), .inl ⟨rfl, rfl⟩⟩
 rw [put_has hh]
 exact HS.out.new_ (((Below.refl _ _).alloc (Nat.le_refl _) _).trans (hb1.mono (by simp)))
set_option maxRecDepth 100000 in
set_option maxHeartbeats 4000000 in
theorem put_new_Page (b c : Nat) (sn : Bool) (A : Option Addr) (l : List Page) (x : Page) (w : World) (hS : PageSet w b sn A c l) (hs : Srt cmpPage l) (hl : (l.length : Int) ≤ 100000000) (hh : has cmpPage l x = false) :
 Calls Tryz.prog 102 #[.pointer (some ⟨b, 0, none⟩), .agg #[.int .u8 x.kk, .int .i64 x.v]] w (PutPostPage w b sn A l x) := by
 obtain ⟨i0, hi, hz0, hz1, hz2⟩ := info_parts info_Page
 have HS := Lib.hid hS
 have HO := Lib.hid hs
 have hb := hS.lt
 clear hS hs
 have hrk := rank_le (cmp := cmpPage) l x
 go_enter Tryz.func102, Tryz.ntmps102
 go_wp2_with fail
 have hSa := HS.out.new_ ((Below.refl w.heap.size w).alloc (Nat.le_refl _) (.cells #[Value.int IntKind.u8 x.kk, Value.int IntKind.i64 x.v] 135))
 have HSa := Lib.hid hSa
 clear hSa
 refine (find_Page b c sn A l x _ HSa.out HO.out (by omega)).mono ?_
 rintro e w1 ⟨rfl, hb1⟩
 have HS1 := Lib.hid (HSa.out.new_ hb1)
 have hsz1 : w.heap.size + 1 ≤ w1.heap.size := by have := hb1.size; (try simp at this); omega
 have y0 := (hb1.cell (p := ⟨w.heap.size, 0, none⟩) (by simp)).trans ((Blk.new w 135 #[Value.int IntKind.u8 x.kk, Value.int IntKind.i64 x.v]).cell 0)
 have y1 := (hb1.cell (p := ⟨w.heap.size, 1, none⟩) (by simp)).trans ((Blk.new w 135 #[Value.int IntKind.u8 x.kk, Value.int IntKind.i64 x.v]).cell 1)
 have HB1 := Lib.hid hb1
 clear hb1
 go_wp2_with fail
 refine (own_Page b c sn A l _ HS1.out (by omega)).mono ?_
 rintro e w2 ⟨rfl, A1, c1, hS2, hF2, hM2⟩
 have hsz2 : w1.heap.size ≤ w2.heap.size := hF2.size
 have x0 : w2.cell? ⟨w.heap.size, 0, none⟩ = some (.int .u8 x.kk) := (hF2.cell (p := ⟨w.heap.size, 0, none⟩) (by dsimp only; omega) (by dsimp only; omega)).trans y0
 have x1 : w2.cell? ⟨w.heap.size, 1, none⟩ = some (.int .i64 x.v) := (hF2.cell (p := ⟨w.heap.size, 1, none⟩) (by dsimp only; omega) (by dsimp only; omega)).trans y1
 have s0 := hS2.cell0
 have f0 := hS2.blk.frozen 0
 have hb2 : b < w2.heap.size := by omega
 have hk2 : w.heap.size < w2.heap.size := by omega
 have HS2 := Lib.hid hS2
 have HF2 := Lib.hid hF2
 have HM2 := Lib.hid hM2
 clear hS2 hF2 hM2 y0 y1
 go_wp2_with fail
 refine wp_region_E (fun w9 => Below w2.heap.size w2 w9) [(0, 0), (1, 0), (2, 0), (3, 0), (4, 1), (5, 1), (6, 2), (7, 2), (8, 0), (9, 0), (10, 2)] (by kernel_rfl) (by kernel_rfl) (fun KK hKK => ?_)
 simp only [beside, List.filterMap_cons, List.filterMap_nil, List.getElem?_toArray, List.getElem?_cons_zero, List.getElem?_cons_succ, Option.map_some]
 repeat ((first | (refine wpX_w ?_ (Or.inl ⟨by rfl, fun w9 => ?_⟩) ?_; rotate_left 1; go_simp; with_reducible rfl) | (refine wpX_l ?_ (((Below.refl _ _).drew)) (Or.inl ⟨by rfl, fun w9 hw9 => ?_⟩) ?_; rotate_left 1; obtain ⟨hc9, hf9⟩ := bcell hw9; go_simp; with_reducible rfl) | refine wpX_w undef (Or.inr ⟨by rfl, rfl⟩) ?_ | refine wpX_l undef (((Below.refl _ _).drew)) (Or.inr ⟨by rfl, rfl⟩) ?_); go_frame)
 refine wpX_es (fun K9 hK9 => ?_)
 go_simp
 refine hK9 _ _ (((Below.refl _ _).drew).alloc (Nat.le_refl _) _) ?_
 clear hK9 K9
 refine wpX_e (by kernel_rfl) (fun K9 hK9 => ?_)
 refine step_append_src _ (by rfl) _ _ _ (by rfl) 135 i0 _ 2 16 Tryz.underlying159 hi hz0 hz1 hz2 rfl (by omega) _ l.length (l.flatMap Page.cells) (by rfl) (ownsRow_new HS2.out.row (((Below.refl _ _).drew).alloc (Nat.le_refl _) _)) (some ⟨w2.heap.size, 0, none⟩) 1 1 (Page.cells x) (by rfl) (by rfl)
  (fun _ => ⟨_, rfl, World.news_of_block (heap_alloc_new _ _)⟩) (Page.one x) (by unfold maxLen; omega) (by omega) ?_
 intro v2 w3 hown hgr hnil hat
 refine hK9 _ _ ?_
 clear hK9 K9
 obtain ⟨g, c2, rfl⟩ : ∃ g c2, v2 = .slice (some ⟨g, 0, none⟩) (l.length + 1) c2 := by
  rcases ownsRow_form hown with ⟨_, h0, _⟩ | ⟨g, c2, h, _⟩
  · omega
  · exact ⟨g, c2, h⟩
 have HXN : (Value.slice A1 l.length c1).ownBlock ≠ some w.heap.size := by
  intro h
  rcases HM2.out with ⟨hsn, hA⟩ | ⟨_, g2, hg2, hA⟩
  · rcases A1 with _ | a1
    · cases h
    · have h1 := HS.out.row_lt _ hA.symm
      simp only [Value.ownBlock, Option.some.injEq] at h
      omega
  · subst hA
    simp only [Value.ownBlock, Option.some.injEq] at h
    omega
 have HB3' := (HS2.out.blk.drew.alloc (.cells #[Value.int IntKind.u8 x.kk, Value.int IntKind.i64 x.v] 135)).grown hgr (own_blk_ne HS2.out.row HS2.out.blk (by decide))
 have c0 := (HB3'.cell 0).trans rfl
 have z0 := HB3'.frozen 0
 have HB3 := Lib.hid HB3'
 have HOWN := Lib.hid hown
 have HGR := Lib.hid hgr
 clear HB3' hown hgr
 repeat ((first | (refine wpX_w ?_ (Or.inl ⟨by rfl, fun w9 => ?_⟩) ?_; rotate_left 1; go_simp; with_reducible rfl) | (refine wpX_l ?_ (((Below.refl _ _).drew).alloc (Nat.le_refl _) _) (Or.inl ⟨by rfl, fun w9 hw9 => ?_⟩) ?_; rotate_left 1; obtain ⟨hc9, hf9⟩ := bcell hw9; go_simp; with_reducible rfl) | refine wpX_w undef (Or.inr ⟨by rfl, rfl⟩) ?_ | refine wpX_l undef (((Below.refl _ _).drew).alloc (Nat.le_refl _) _) (Or.inr ⟨by rfl, rfl⟩) ?_); go_frame)
 refine wpX_e (by kernel_rfl) (fun K9 hK9 => ?_)
 go_simp
 refine hK9 _ _ ?_
 clear hK9 K9
 refine wpX_nil ?_
 simp only [OnlyN_normal]
 refine hKK _ _ ?_
 clear hKK KK
 have hlg : ((l.length + 1 : Nat) : Int) = (l.length : Int) + 1 := by omega
 have hG : (SetMod b sn A g ∨ w.heap.size ≤ g) ∧ Moved w sn A false (some ⟨g, 0, none⟩) ∧ g ≠ w.heap.size ∧ g ≠ b := by
  rcases hat with h | h
  · rcases A1 with _ | a1
    · simp [Value.ownBlock] at h
    · obtain ⟨A', c', hv, _, _, hz⟩ := own_form2 HS2.out.row
      injection hv with hv _ _
      obtain ⟨g', rfl⟩ := hz a1 hv.symm
      have hgg : g' = g := by simpa [Value.ownBlock] using h.symm
      subst hgg
      have hne : g' ≠ b := HS2.out.row_ne (by decide) _ rfl
      rcases HM2.out with ⟨hsn, hA⟩ | ⟨_, g2, hg2, hA⟩
      · have h1 := HS.out.row_lt _ hA.symm
        exact ⟨.inl (.inr ⟨hsn.symm, _, hA.symm, rfl⟩), .inl ⟨hsn, hA⟩, by dsimp only at h1; omega, hne⟩
      · injection hA with hA
        injection hA with hA
        subst hA
        exact ⟨.inr (by omega), .inr ⟨rfl, _, by omega, rfl⟩, by omega, hne⟩
  · have hgg : g = w2.heap.size + 1 := by simpa [Value.ownBlock] using h
    subst hgg
    exact ⟨.inr (by omega), .inr ⟨rfl, _, by omega, rfl⟩, by omega, by omega⟩
 obtain ⟨hgM, hgMv, hgk1, hgb⟩ := hG
 obtain ⟨w4, hw4⟩ : ∃ w4, w4 = w3.setCell ⟨b, 0, none⟩ (.slice (some ⟨g, 0, none⟩) (l.length + 1) c2) := ⟨_, rfl⟩
 have hB4 : Blk w4 b 161 #[.slice (some ⟨g, 0, none⟩) (l.length + 1) c2, .bool false] := by rw [hw4]; exact HB3.out.set_ 0 _
 have hR4 : w4.ownsRow 0 135 2 (.slice (some ⟨g, 0, none⟩) (l.length + 1) c2) (l.length + 1) ((shiftAt l x l.length).flatMap Page.cells) := by
  rw [hw4, shiftAt_start]
  refine ownsRow_setCell_other (a := ⟨b, 0, none⟩) ?_ (by simpa [Value.ownBlock] using hgb) _
  rw [List.flatMap_append, List.flatMap_singleton]
  exact HOWN.out
 have hF4 : Fr (SetMod b sn A) w w4 := by
  rw [hw4]
  have h1 : Fr (SetMod b sn A) w w1 := Fr.of_new (((Below.refl _ _).alloc (Nat.le_refl _) _).trans (HB1.out.mono (by simp)))
  have h2 : Fr (SetMod b sn A) w w2 := h1.trans (HF2.out.mono (fun k _ h => .inl h))
  refine ((h2.drew.alloc _).grown HGR.out (fun k hk => ?_)).setCell (p := ⟨b, 0, none⟩) (.inl (.inl rfl)) _
  rcases A1 with _ | a1
  · cases hk
  · simp only [Value.ownBlock, Option.some.injEq] at hk
    subst hk
    rcases HM2.out with ⟨hsn, hA⟩ | ⟨_, g', hg', hA⟩
    · left; right; exact ⟨hsn.symm, a1, hA.symm, rfl⟩
    · injection hA with hA
      subst hA
      right; dsimp only; omega
 have z0 : w4.cell? ⟨w.heap.size, 0, none⟩ = some (.int .u8 x.kk) := by
  rw [hw4, World.cell?_setCell_other _ _ _ _ (by intro h; injection h; omega)]
  refine HGR.out.cell ((World.cell?_alloc_lt w2.drew _ ⟨w.heap.size, 0, none⟩ hk2).trans x0) ?_
  intro h
  exact HXN (by simpa using h.symm)
 have z1 : w4.cell? ⟨w.heap.size, 1, none⟩ = some (.int .i64 x.v) := by
  rw [hw4, World.cell?_setCell_other _ _ _ _ (by intro h; injection h; omega)]
  refine HGR.out.cell ((World.cell?_alloc_lt w2.drew _ ⟨w.heap.size, 1, none⟩ hk2).trans x1) ?_
  intro h
  exact HXN (by simpa using h.symm)
 have hk4 : w.heap.size < w4.heap.size := by rw [hw4]; have := HGR.out.size; simp at this ⊢; omega
 rw [← hw4]
 have HgM := Lib.hid hgM
 have HgMv := Lib.hid hgMv
 have HB4 := Lib.hid hB4
 have HR4 := Lib.hid hR4
 have HF4 := Lib.hid hF4
 have s4 := hB4.cell 0
 have s4' : w4.cell? ⟨b, 0, none⟩ = some (.slice (some ⟨g, 0, none⟩) (l.length + 1) c2) := s4
 clear s4 hw4 hB4 hR4 hF4 hat hgM hgMv hnil x0 x1 s0 f0
 go_wp2_with fail
 go_loopw [7] (fun s wr => ∃ i : Nat, s = .int .i64 i ∧ rank cmpPage l x ≤ i ∧ i ≤ l.length ∧ wr.ownsRow 0 135 2 (.slice (some ⟨g, 0, none⟩) (l.length + 1) c2) (l.length + 1) ((shiftAt l x i).flatMap Page.cells) ∧ Fr (· = g) w4 wr) (fun s wr => (intOf s).toNat)
 case atStart => exact ⟨l.length, by go_num, hrk, Nat.le_refl _, HR4.out, Fr.refl _ _⟩
 case round =>
  obtain ⟨i, rfl, hi1, hi2, hown, hfr⟩ := hrel
  have hgw : g < wr.heap.size := (hown.lt g rfl).2
  have r0 : wr.cell? ⟨b, 0, none⟩ = some (.slice (some ⟨g, 0, none⟩) (l.length + 1) c2) := (hfr.cell (p := ⟨b, 0, none⟩) HB4.out.lt (fun h => hgb h.symm)).trans s4'
  have fz : ∀ o, wr.frozen? ⟨g, o, none⟩ = false := fun o => hown.frozenAt o
  have HOW := Lib.hid hown
  have HFR := Lib.hid hfr
  clear hown hfr
  by_cases hlt : rank cmpPage l x < i
  · obtain ⟨j, rfl⟩ : ∃ j, i = j + 1 := ⟨i - 1, by omega⟩
    have hj : j < l.length := by omega
    have hrd := ownsRow_rd (A := some ⟨g, 0, none⟩) (c := c2) (l := shiftAt l x (j + 1)) Page.cells_length (by rw [shiftAt_length l x hi2]; exact HOW.out)
    obtain ⟨g', o', hgo, _, hcell⟩ := hrd.at_ (k := j) (by rw [shiftAt_length l x hi2]; omega)
    injection hgo with hgo
    injection hgo with hg1 hg2
    subst hg1; subst hg2
    rw [shiftAt_read l x hj] at hcell
    have q0 : wr.cell? ⟨g, j * 2, none⟩ = some (.int .u8 l[j].kk) := by simpa using hcell 0 _ rfl
    have q1 : wr.cell? ⟨g, j * 2 + 1, none⟩ = some (.int .i64 l[j].v) := by simpa using hcell 1 _ rfl
    have rmj : Room wr g 135 (c2 * 2) ∧ l.length + 1 ≤ c2 := by
     rcases ownsRow_form HOW.out with ⟨hv, _⟩ | ⟨g', cap, hv, hn, _, hr, _⟩
     · cases hv
     · injection hv with hA _ hc
       injection hA with hA
       injection hA with hA
       subst hA; subst hc
       exact ⟨hr, hn⟩
    obtain ⟨hrm, hcap⟩ := rmj
    obtain ⟨u0, t0⟩ := hrm.cell (i := (j + 1) * 2) (by omega)
    obtain ⟨u1, t1⟩ := hrm.cell (i := (j + 1) * 2 + 1) (by omega)
    have b0 : (0 : Int) ≤ (j : Int) + 1 := by omega
    have b1 : (0 : Int) ≤ (j : Int) := by omega
    have b4 : (j : Int) < (l.length : Int) := by omega
    have b2 : (j : Int) < (l.length : Int) + 1 := by omega
    have b3 : (j : Int) + 1 < (l.length : Int) + 1 := by omega
    have w1 : IntKind.i64.wrap ((j : Int)) = (j : Int) := IntWalk.i64_in _ (by omega)
    have w2 : IntKind.i64.wrap ((j : Int) + 1 - 1) = (j : Int) := by rw [IntWalk.i64_in _ (by omega)]; omega
    clear hcell hrd hrm
    obtain ⟨y, hy⟩ : ∃ y, y = l[j] := ⟨_, rfl⟩
    rw [← hy] at q0 q1
    have HY := Lib.hid hy
    have hbw : b < wr.heap.size := World.block_lt_of_cell? wr _ r0
    clear hy
    go_wp2_with fail
    refine wp_region_E (fun w9 => Below wr.heap.size wr w9) [(0, 0), (1, 0), (2, 0), (3, 1), (4, 0), (5, 0), (6, 0), (7, 0), (8, 1), (9, 0), (10, 0), (11, 0), (12, 1), (13, 0), (14, 2)] (by kernel_rfl) (by kernel_rfl) (fun KK hKK => ?_)
    simp only [beside, List.filterMap_cons, List.filterMap_nil, List.getElem?_toArray, List.getElem?_cons_zero, List.getElem?_cons_succ, Option.map_some]
    repeat ((first | (refine wpX_w ?_ (Or.inl ⟨by rfl, fun w9 => ?_⟩) ?_; rotate_left 1; go_simp; with_reducible rfl) | (refine wpX_l ?_ (((Below.refl _ _).drew)) (Or.inl ⟨by rfl, fun w9 hw9 => ?_⟩) ?_; rotate_left 1; obtain ⟨hc9, hf9⟩ := bcell hw9; go_simp; with_reducible rfl) | refine wpX_w undef (Or.inr ⟨by rfl, rfl⟩) ?_ | refine wpX_l undef (((Below.refl _ _).drew)) (Or.inr ⟨by rfl, rfl⟩) ?_); go_frame)
    refine wpX_e (by kernel_rfl) (fun K9 hK9 => ?_)
    go_simp
    refine hK9 _ _ ?_
    clear hK9 K9
    refine wpX_nil ?_
    simp only [OnlyN_normal]
    refine hKK _ _ ?_
    clear hKK KK
    go_wp2_with fail
    go_roundw
    case rel =>
     refine ⟨j, by go_num, by omega, by omega, ?_, Fr.drew (((HFR.out).setCell (p := ⟨g, (j + 1) * 2, none⟩) (.inl rfl) (_)).setCell (p := ⟨g, (j + 1) * 2 + 1, none⟩) (.inl rfl) (_))⟩
     have hst := ((((HOW.out).stored ((j + 1) * 2) (.int .u8 y.kk)).1).stored ((j + 1) * 2 + 1) (.int .i64 y.v)).1
     have he : setAll ((shiftAt l x (j + 1)).flatMap Page.cells) ((j + 1) * 2) (Page.cells y) = (shiftAt l x j).flatMap Page.cells := by
      rw [flat_set Page.cells_length (by omega) _ (j + 1) (by rw [shiftAt_length l x hi2]; omega), HY.out, shiftAt_step l x hj]
     rw [← he]
     exact hst
    case measure => simp [intOf] <;> omega
  · obtain rfl : i = rank cmpPage l x := by omega
    have rmj : Room wr g 135 (c2 * 2) ∧ l.length + 1 ≤ c2 := by
     rcases ownsRow_form HOW.out with ⟨hv, _⟩ | ⟨g', cap, hv, hn, _, hr, _⟩
     · cases hv
     · injection hv with hA _ hc
       injection hA with hA
       injection hA with hA
       subst hA; subst hc
       exact ⟨hr, hn⟩
    obtain ⟨hrm, hcap⟩ := rmj
    obtain ⟨k, hk⟩ : ∃ k, k = rank cmpPage l x := ⟨_, rfl⟩
    rw [← hk] at hi2 hlt ⊢
    obtain ⟨u0, t0⟩ := hrm.cell (i := k * 2) (by omega)
    obtain ⟨u1, t1⟩ := hrm.cell (i := k * 2 + 1) (by omega)
    have x0 := (HFR.out.cell (p := ⟨w.heap.size, 0, none⟩) hk4 (fun h => hgk1 h.symm)).trans z0
    have x1 := (HFR.out.cell (p := ⟨w.heap.size, 1, none⟩) hk4 (fun h => hgk1 h.symm)).trans z1
    have b1 : (0 : Int) ≤ (k : Int) := by omega
    have b2 : (k : Int) < (l.length : Int) + 1 := by omega
    have HK := Lib.hid hk
    have hkw : w.heap.size < wr.heap.size := by have := HFR.out.size; omega
    have hbw : b < wr.heap.size := World.block_lt_of_cell? wr _ r0
    clear hrm hk z0 z1
    go_wp2_with fail
    refine wp_region_E (fun w9 => Below wr.heap.size wr w9) [(0, 0), (1, 0), (2, 0), (3, 1), (4, 0), (5, 1), (6, 0), (7, 2)] (by kernel_rfl) (by kernel_rfl) (fun KK hKK => ?_)
    simp only [beside, List.filterMap_cons, List.filterMap_nil, List.getElem?_toArray, List.getElem?_cons_zero, List.getElem?_cons_succ, Option.map_some]
    repeat ((first | (refine wpX_w ?_ (Or.inl ⟨by rfl, fun w9 => ?_⟩) ?_; rotate_left 1; go_simp; with_reducible rfl) | (refine wpX_l ?_ (((Below.refl _ _).drew)) (Or.inl ⟨by rfl, fun w9 hw9 => ?_⟩) ?_; rotate_left 1; obtain ⟨hc9, hf9⟩ := bcell hw9; go_simp; with_reducible rfl) | refine wpX_w undef (Or.inr ⟨by rfl, rfl⟩) ?_ | refine wpX_l undef (((Below.refl _ _).drew)) (Or.inr ⟨by rfl, rfl⟩) ?_); go_frame)
    refine wpX_e (by kernel_rfl) (fun K9 hK9 => ?_)
    go_simp
    refine hK9 _ _ ?_
    clear hK9 K9
    refine wpX_nil ?_
    simp only [OnlyN_normal]
    refine hKK _ _ ?_
    clear hKK KK
    go_wp2_with fail
    go_ret
    have HOWk := HOW.out
    rw [← HK.out] at HOWk
    have hst := ((((HOWk).stored (k * 2) (.int .u8 x.kk)).1).stored (k * 2 + 1) (.int .i64 x.v)).1
    have he : setAll ((shiftAt l x k).flatMap Page.cells) (k * 2) (Page.cells x) = (put cmpPage l x).flatMap Page.cells := by
     rw [flat_set Page.cells_length (by omega) _ k (by rw [shiftAt_length l x hi2]; omega), shiftAt_end l x hi2, put_eq tc_page HO.out hh, HK.out]
    have hln := length_put tc_page HO.out hh
    refine ⟨by rw [hh]; rfl, false, some ⟨g, 0, none⟩, c2, ⟨?_, ?_⟩, ?_, ?_⟩
    · rw [hln]
      exact ((HB4.out.fr HFR.out (fun h => hgb h.symm)).far (p := ⟨g, k * 2, none⟩) (fun h => hgb h.symm) _).far (p := ⟨g, k * 2 + 1, none⟩) (fun h => hgb h.symm) _
    · rw [hln, ← he]
      exact hst
    · exact HF4.out.into (Fr.drew (((HFR.out).setCell (p := ⟨g, k * 2, none⟩) (.inl rfl) (_)).setCell (p := ⟨g, k * 2 + 1, none⟩) (.inl rfl) (_))) (fun k hk => by subst hk; exact HgM.out)
    · exact HgMv.out
theorem put_Page (b c : Nat) (sn : Bool) (A : Option Addr) (l : List Page) (x : Page) (w : World) (hS : PageSet w b sn A c l) (hs : Srt cmpPage l) (hl : (l.length : Int) ≤ 100000000) :
 Calls Tryz.prog 102 #[.pointer (some ⟨b, 0, none⟩), .agg #[.int .u8 x.kk, .int .i64 x.v]] w (PutPostPage w b sn A l x) := by
 cases hh : has cmpPage l x
 · exact put_new_Page b c sn A l x w hS hs hl hh
 · exact put_there_Page b c sn A l x w hS hs hl hh
end Go.Proofs.YtpndmjabjjbefaaGreat
namespace Go.Proofs.YtpndmjabjjbefaaGreat
open Go.RowKit
def DropPostPage (w : World) (b : Nat) (sn : Bool) (A : Option Addr) (l : List Page) (x : Page) (e : Ending) (w' : World) : Prop :=
 e = .returned (.bool (has cmpPage l x)) ∧ ∃ sn' A' c', PageSet w' b sn' A' c' (drop cmpPage l x) ∧ Fr (SetMod b sn A) w w' ∧ Moved w sn A sn' A'
set_option maxRecDepth 100000 in
set_option maxHeartbeats 1000000 in
theorem drop_not_Page (b c : Nat) (sn : Bool) (A : Option Addr) (l : List Page) (x : Page) (w : World) (hS : PageSet w b sn A c l) (hs : Srt cmpPage l) (hl : (l.length : Int) ≤ 100000000) (hh : has cmpPage l x = false) :
 Calls Tryz.prog 128 #[.pointer (some ⟨b, 0, none⟩), .agg #[.int .u8 x.kk, .int .i64 x.v]] w (DropPostPage w b sn A l x) := by
 have HS := Lib.hid hS
 have HO := Lib.hid hs
 clear hS hs
 go_enter Tryz.func128, Tryz.ntmps128
 go_wp2_with fail
 refine (find_Page b c sn A l x _ (HS.out.new_ ((Below.refl _ _).alloc (Nat.le_refl _) _)) HO.out (by omega)).mono ?_
 rintro e w1 ⟨rfl, hb1⟩
 go_wp2_with fail
 go_ret
 refine ⟨by rw [hh]; rfl, sn, A, c, ?_, Fr.of_new (((Below.refl _ _).alloc (Nat.le_refl _) _).trans (hb1.mono (by simp))), .inl ⟨rfl, rfl⟩⟩
 rw [drop_self hh]
 exact HS.out.new_ (((Below.refl _ _).alloc (Nat.le_refl _) _).trans (hb1.mono (by simp)))
set_option maxRecDepth 100000 in
set_option maxHeartbeats 4000000 in
theorem drop_is_Page (b c : Nat) (sn : Bool) (A : Option Addr) (l : List Page) (x : Page) (w : World) (hS : PageSet w b sn A c l) (hs : Srt cmpPage l) (hl : (l.length : Int) ≤ 100000000) (hh : has cmpPage l x = true) :
 Calls Tryz.prog 128 #[.pointer (some ⟨b, 0, none⟩), .agg #[.int .u8 x.kk, .int .i64 x.v]] w (DropPostPage w b sn A l x) := by
 obtain ⟨hrk, hde, _, _⟩ := drop_eq tc_page hs hh
 have HDE := Lib.hid hde
 have HS := Lib.hid hS
 have HO := Lib.hid hs
 have hb := hS.lt
 clear hS hs hde
 go_enter Tryz.func128, Tryz.ntmps128
 go_wp2_with fail
 have hSa := HS.out.new_ ((Below.refl w.heap.size w).alloc (Nat.le_refl _) (.cells #[Value.int IntKind.u8 x.kk, Value.int IntKind.i64 x.v] 135))
 have HSa := Lib.hid hSa
 clear hSa
 refine (find_Page b c sn A l x _ HSa.out HO.out (by omega)).mono ?_
 rintro e w1 ⟨rfl, hb1⟩
 have HS1 := Lib.hid (HSa.out.new_ hb1)
 have hsz1 : w.heap.size + 1 ≤ w1.heap.size := by have := hb1.size; simp at this; omega
 have HB1 := Lib.hid hb1
 clear hb1
 go_wp2_with fail
 refine (own_Page b c sn A l _ HS1.out (by omega)).mono ?_
 rintro e w2 ⟨rfl, A1, c1, hS2, hF2, hM2⟩
 have hsz2 : w1.heap.size ≤ w2.heap.size := hF2.size
 obtain ⟨g, rfl⟩ : ∃ g, A1 = some ⟨g, 0, none⟩ := by
  rcases ownsRow_form hS2.row with ⟨_, h0, _⟩ | ⟨g, cap, hv, _⟩
  · omega
  · injection hv with hv; exact ⟨g, hv⟩
 have hgb : g ≠ b := hS2.row_ne (by decide) _ rfl
 obtain ⟨hroom, hcap, hcm⟩ := ownsRow_room hS2.row
 unfold maxLen at hcm
 have hgM : SetMod b sn A g ∨ w.heap.size ≤ g := by
  rcases hM2 with ⟨hsn, hA⟩ | ⟨_, g', hg', hA⟩
  · exact .inl (.inr ⟨hsn.symm, _, hA.symm, rfl⟩)
  · injection hA with hA
    injection hA with hA
    subst hA
    exact .inr (by omega)
 have hgMv : Moved w sn A false (some ⟨g, 0, none⟩) := by
  rcases hM2 with ⟨hsn, hA⟩ | ⟨_, g', hg', hA⟩
  · exact .inl ⟨hsn, hA⟩
  · injection hA with hA
    injection hA with hA
    subst hA
    exact .inr ⟨rfl, _, by omega, rfl⟩
 have hF : Fr (SetMod b sn A) w w2 := (Fr.of_new (((Below.refl _ _).alloc (Nat.le_refl _) _).trans (HB1.out.mono (by simp)))).into hF2 (fun k hk => .inl (.inl hk))
 have s0 := hS2.cell0
 have HgM := Lib.hid hgM
 have HgMv := Lib.hid hgMv
 have HF := Lib.hid hF
 have HBk := Lib.hid hS2.blk
 have HRo := Lib.hid hS2.row
 have hb2 : b < w2.heap.size := by omega
 clear hgM hgMv hF hS2 hF2 hM2 hroom
 go_wp2_with fail
 go_loopw [7] (fun s wr => ∃ i : Nat, s = .int .i64 i ∧ rank cmpPage l x ≤ i ∧ i < l.length ∧ wr.ownsRow 0 135 2 (.slice (some ⟨g, 0, none⟩) l.length c1) l.length ((downAt l (rank cmpPage l x) i).flatMap Page.cells) ∧ Fr (· = g) w2 wr) (fun s wr => l.length - (intOf s).toNat)
 case atStart => exact ⟨rank cmpPage l x, rfl, Nat.le_refl _, hrk, by rw [downAt_start]; exact HRo.out, Fr.refl _ _⟩
 case round =>
  obtain ⟨i, rfl, hi1, hi2, hown, hfr⟩ := hrel
  have hgw : g < wr.heap.size := (hown.lt g rfl).2
  have r0 : wr.cell? ⟨b, 0, none⟩ = some (.slice (some ⟨g, 0, none⟩) l.length c1) := (hfr.cell (p := ⟨b, 0, none⟩) hb2 (fun h => hgb h.symm)).trans s0
  have fz : ∀ o, wr.frozen? ⟨g, o, none⟩ = false := fun o => hown.frozenAt o
  have hbw : b < wr.heap.size := World.block_lt_of_cell? wr _ r0
  obtain ⟨hrm, _, _⟩ := ownsRow_room hown
  have HOW := Lib.hid hown
  have HFR := Lib.hid hfr
  clear hown hfr
  by_cases hlt : i + 1 < l.length
  · have hrd := ownsRow_rd (A := some ⟨g, 0, none⟩) (c := c1) (l := downAt l (rank cmpPage l x) i) Page.cells_length (by rw [downAt_length l hi1 hi2]; exact HOW.out)
    obtain ⟨g', o', hgo, _, hcell⟩ := hrd.at_ (k := i + 1) (by rw [downAt_length l hi1 hi2]; omega)
    injection hgo with hgo
    injection hgo with hg1 hg2
    subst hg1; subst hg2
    rw [downAt_read l hi1 hlt] at hcell
    have q0 : wr.cell? ⟨g, (i + 1) * 2, none⟩ = some (.int .u8 l[i + 1].kk) := by simpa using hcell 0 _ rfl
    have q1 : wr.cell? ⟨g, (i + 1) * 2 + 1, none⟩ = some (.int .i64 l[i + 1].v) := by simpa using hcell 1 _ rfl
    obtain ⟨u0, t0⟩ := hrm.cell (i := i * 2) (by omega)
    obtain ⟨u1, t1⟩ := hrm.cell (i := i * 2 + 1) (by omega)
    have b0 : (0 : Int) ≤ (i : Int) + 1 := by omega
    have b1 : (0 : Int) ≤ (i : Int) := by omega
    have b2 : (i : Int) < (l.length : Int) := by omega
    have b3 : (i : Int) + 1 < (l.length : Int) := by omega
    have v1 : IntKind.i64.wrap ((i : Int) + 1) = (i : Int) + 1 := IntWalk.i64_in _ (by omega)
    clear hcell hrd hrm
    obtain ⟨y, hy⟩ : ∃ y, y = l[i + 1] := ⟨_, rfl⟩
    rw [← hy] at q0 q1
    have HY := Lib.hid hy
    clear hy
    go_wp2_with fail
    refine wp_region_E (fun w9 => Below wr.heap.size wr w9) [(0, 0), (1, 0), (2, 0), (3, 1), (4, 0), (5, 0), (6, 0), (7, 0), (8, 1), (9, 0), (10, 0), (11, 0), (12, 1), (13, 0), (14, 2)] (by kernel_rfl) (by kernel_rfl) (fun KK hKK => ?_)
    simp only [beside, List.filterMap_cons, List.filterMap_nil, List.getElem?_toArray, List.getElem?_cons_zero, List.getElem?_cons_succ, Option.map_some]
    repeat ((first | (refine wpX_w ?_ (Or.inl ⟨by rfl, fun w9 => ?_⟩) ?_; rotate_left 1; go_simp; with_reducible rfl) | (refine wpX_l ?_ (((Below.refl _ _).drew)) (Or.inl ⟨by rfl, fun w9 hw9 => ?_⟩) ?_; rotate_left 1; obtain ⟨hc9, hf9⟩ := bcell hw9; go_simp; with_reducible rfl) | refine wpX_w undef (Or.inr ⟨by rfl, rfl⟩) ?_ | refine wpX_l undef (((Below.refl _ _).drew)) (Or.inr ⟨by rfl, rfl⟩) ?_); go_frame)
    refine wpX_e (by kernel_rfl) (fun K9 hK9 => ?_)
    go_simp
    refine hK9 _ _ ?_
    clear hK9 K9
    refine wpX_nil ?_
    simp only [OnlyN_normal]
    refine hKK _ _ ?_
    clear hKK KK
    go_wp2_with fail
    go_roundw
    case rel =>
     refine ⟨i + 1, by go_num, by omega, by omega, ?_, Fr.drew (((HFR.out).setCell (p := ⟨g, i * 2, none⟩) (.inl rfl) (_)).setCell (p := ⟨g, i * 2 + 1, none⟩) (.inl rfl) (_))⟩
     have hst := ((((HOW.out).stored (i * 2) (.int .u8 y.kk)).1).stored (i * 2 + 1) (.int .i64 y.v)).1
     have he : setAll ((downAt l (rank cmpPage l x) i).flatMap Page.cells) (i * 2) (Page.cells y) = (downAt l (rank cmpPage l x) (i + 1)).flatMap Page.cells := by
      rw [flat_set Page.cells_length (by omega) _ i (by rw [downAt_length l hi1 hi2]; omega), HY.out, downAt_step l hi1 hlt]
     rw [← he]
     exact hst
    case measure => simp [intOf] <;> omega
  · have hin : i = l.length - 1 := by omega
    have HIN := Lib.hid hin
    have b1 : (0 : Int) ≤ (l.length : Int) - 1 := by omega
    have b2 : (l.length : Int) - 1 ≤ (c1 : Int) := by omega
    have b3 : ¬ c1 = 0 := by omega
    have v1 : IntKind.i64.wrap ((l.length : Int) - 1) = (l.length : Int) - 1 := IntWalk.i64_in _ (by omega)
    have v2 : ((l.length : Int) - 1).toNat = l.length - 1 := by omega
    have b4 : (1 : Int) ≤ (l.length : Int) := by omega
    have b5 : l.length - 1 ≤ c1 := by omega
    have f0 : wr.frozen? ⟨b, 0, none⟩ = false := (HBk.out.fr HFR.out (fun h => hgb h.symm)).frozen 0
    clear hin hrm
    go_wp2_with fail
    refine wp_region_E (fun w9 => Below wr.heap.size wr w9) [(0, 0), (1, 0), (2, 0), (3, 0), (4, 1), (5, 0), (6, 0), (7, 0), (8, 1), (9, 0), (10, 0), (11, 0), (12, 0), (13, 0), (14, 2)] (by kernel_rfl) (by kernel_rfl) (fun KK hKK => ?_)
    simp only [beside, List.filterMap_cons, List.filterMap_nil, List.getElem?_toArray, List.getElem?_cons_zero, List.getElem?_cons_succ, Option.map_some]
    repeat ((first | (refine wpX_w ?_ (Or.inl ⟨by rfl, fun w9 => ?_⟩) ?_; rotate_left 1; go_simp; with_reducible rfl) | (refine wpX_l ?_ (((Below.refl _ _).drew)) (Or.inl ⟨by rfl, fun w9 hw9 => ?_⟩) ?_; rotate_left 1; obtain ⟨hc9, hf9⟩ := bcell hw9; go_simp; with_reducible rfl) | refine wpX_w undef (Or.inr ⟨by rfl, rfl⟩) ?_ | refine wpX_l undef (((Below.refl _ _).drew)) (Or.inr ⟨by rfl, rfl⟩) ?_); go_frame)
    refine wpX_e (by kernel_rfl) (fun K9 hK9 => ?_)
    go_simp
    refine hK9 _ _ ?_
    clear hK9 K9
    refine wpX_nil ?_
    simp only [OnlyN_normal]
    refine hKK _ _ ?_
    clear hKK KK
    go_wp2_with fail
    go_ret
    have hdl : (drop cmpPage l x).length = l.length - 1 := by rw [HDE.out]; simp; omega
    refine ⟨by rw [hh]; rfl, false, some ⟨g, 0, none⟩, c1, ⟨?_, ?_⟩, ?_, HgMv.out⟩
    · rw [hdl]
      exact (HBk.out.fr HFR.out (fun h => hgb h.symm)).set_ 0 _
    · rw [hdl]
      refine ownsRow_setCell_other (a := ⟨b, 0, none⟩) ?_ (by simpa [Value.ownBlock] using hgb) _
      have h1 := HOW.out
      rw [HIN.out] at h1
      have h2 := ownsRow_prefix Page.cells_length (by omega) h1 (m := l.length - 1) (by omega) (downAt_length l (by omega) (by omega))
      rw [downAt_end l hrk, ← HDE.out] at h2
      exact h2
    · exact (HF.out.into HFR.out (fun k hk => by subst hk; exact HgM.out)).drew.setCell (p := ⟨b, 0, none⟩) (.inl (.inl rfl)) _
theorem drop_Page (b c : Nat) (sn : Bool) (A : Option Addr) (l : List Page) (x : Page) (w : World) (hS : PageSet w b sn A c l) (hs : Srt cmpPage l) (hl : (l.length : Int) ≤ 100000000) :
 Calls Tryz.prog 128 #[.pointer (some ⟨b, 0, none⟩), .agg #[.int .u8 x.kk, .int .i64 x.v]] w (DropPostPage w b sn A l x) := by
 cases hh : has cmpPage l x
 · exact drop_not_Page b c sn A l x w hS hs hl hh
 · exact drop_is_Page b c sn A l x w hS hs hl hh
end Go.Proofs.YtpndmjabjjbefaaGreat
namespace Go.Proofs.YtpndmjabjjbefaaGreat
open Go.RowKit
set_option maxRecDepth 100000 in
set_option maxHeartbeats 1000000 in
theorem get_no_Page (b c : Nat) (sn : Bool) (A : Option Addr) (l : List Page) (x : Page) (w : World) (hS : PageSet w b sn A c l) (hs : Srt cmpPage l) (hl : (l.length : Int) ≤ 1000000000) (hh : has cmpPage l x = false) :
 Calls Tryz.prog 126 #[.pointer (some ⟨b, 0, none⟩), .agg #[.int .u8 x.kk, .int .i64 x.v]] w fun e w' => e = .returned (.tuple #[.agg #[.int .u8 0, .int .i64 0], .bool false]) ∧ Below w.heap.size w w' := by
 have HS := Lib.hid hS
 have HO := Lib.hid hs
 clear hS hs
 go_enter Tryz.func126, Tryz.ntmps126
 go_wp2_with fail
 refine (find_Page b c sn A l x _ (HS.out.new_ ((((Below.refl _ _).alloc (Nat.le_refl _) _).alloc (by simp) _).alloc (by simp; omega) _)) HO.out (by omega)).mono ?_
 rintro e w1 ⟨rfl, hb1⟩
 obtain ⟨hc1, hf1⟩ := bcell hb1
 have hz1 : w.heap.size + 2 < w1.heap.size := by have := hb1.size; simp at this; omega
 have HB := Lib.hid ((((((Below.refl w.heap.size w).alloc (Nat.le_refl _) _).alloc (by simp) _).alloc (by simp; omega) _)).trans (hb1.mono (by simp; omega)))
 clear hb1
 go_wp2_with fail
 exact bodyPost_ret (v := .tuple #[.agg #[.int .u8 0, .int .i64 0], .bool false]) (by simp [results, Tryz.results126, go_sem, hc1]) rfl ⟨rfl, by (repeat (first | exact Below.refl _ _ | exact HB.out | refine Below.drew ?_ | refine Below.al ?_ _ | refine Below.sc ?_ _))⟩
set_option maxRecDepth 100000 in
set_option maxHeartbeats 1000000 in
theorem get_is_Page (b c : Nat) (sn : Bool) (A : Option Addr) (l : List Page) (x y : Page) (w : World) (hS : PageSet w b sn A c l) (hs : Srt cmpPage l) (hl : (l.length : Int) ≤ 1000000000) (hh : has cmpPage l x = true) (hy : l[rank cmpPage l x]? = some y) :
 Calls Tryz.prog 126 #[.pointer (some ⟨b, 0, none⟩), .agg #[.int .u8 x.kk, .int .i64 x.v]] w fun e w' => e = .returned (.tuple #[.agg #[.int .u8 y.kk, .int .i64 y.v], .bool true]) ∧ Below w.heap.size w w' := by
 have HS := Lib.hid hS
 have HO := Lib.hid hs
 obtain ⟨hrk, hye⟩ := List.getElem?_eq_some_iff.1 hy
 have hrd := hS.rd Page.cells_length
 have s0 := hS.cell0
 have hb := hS.lt
 clear hS hs hy
 obtain ⟨g, off, rfl, hgs, hcell⟩ := hrd.at_ hrk
 rw [hye] at hcell
 obtain ⟨k, hk⟩ : ∃ k, k = rank cmpPage l x := ⟨_, rfl⟩
 rw [← hk] at hcell hrk
 have q0 : w.cell? ⟨g, off + k * 2, none⟩ = some (.int .u8 y.kk) := by simpa using hcell 0 _ rfl
 have q1 : w.cell? ⟨g, off + k * 2 + 1, none⟩ = some (.int .i64 y.v) := by simpa using hcell 1 _ rfl
 have b1 : (0 : Int) ≤ (k : Int) := by omega
 have b2 : (k : Int) < (l.length : Int) := by omega
 have HK := Lib.hid hk
 clear hcell hrd hye hk
 go_enter Tryz.func126, Tryz.ntmps126
 go_wp2_with fail
 refine (find_Page b c sn _ l x _ (HS.out.new_ ((((Below.refl _ _).alloc (Nat.le_refl _) _).alloc (by simp) _).alloc (by simp; omega) _)) HO.out (by omega)).mono ?_
 rintro e w1 ⟨rfl, hb1⟩
 rw [← HK.out]
 obtain ⟨hc1, hf1⟩ := bcell hb1
 have hz1 : w.heap.size + 2 < w1.heap.size := by have := hb1.size; simp at this; omega
 have HB := Lib.hid ((((((Below.refl w.heap.size w).alloc (Nat.le_refl _) _).alloc (by simp) _).alloc (by simp; omega) _)).trans (hb1.mono (by simp; omega)))
 clear hb1
 have r0 := (HB.out.cell (p := ⟨b, 0, none⟩) hb).trans s0
 have r1 := (HB.out.cell (p := ⟨g, off + k * 2, none⟩) hgs).trans q0
 have r2 := (HB.out.cell (p := ⟨g, off + k * 2 + 1, none⟩) hgs).trans q1
 clear s0 q0 q1
 go_wp2_with fail
 exact bodyPost_ret (v := .tuple #[.agg #[.int .u8 y.kk, .int .i64 y.v], .bool true]) (by simp [results, Tryz.results126, go_sem, hc1]) rfl ⟨rfl, by (repeat (first | exact Below.refl _ _ | exact HB.out | refine Below.drew ?_ | refine Below.al ?_ _ | refine Below.sc ?_ _))⟩
def ClonePostPage (w : World) (b : Nat) (A : Option Addr) (c : Nat) (l : List Page) (e : Ending) (w' : World) : Prop :=
 ∃ k, e = .returned (.pointer (some ⟨k, 0, none⟩)) ∧ w.heap.size ≤ k ∧ PageSet w' b true A c l ∧ PageSet w' k true A c l ∧ Fr (· = b) w w'
set_option maxRecDepth 100000 in
set_option maxHeartbeats 1000000 in
theorem clone_Page (b c : Nat) (sn : Bool) (A : Option Addr) (l : List Page) (w : World) (hS : PageSet w b sn A c l) :
 Calls Tryz.prog 103 #[.pointer (some ⟨b, 0, none⟩)] w (ClonePostPage w b A c l) := by
 have s0 := hS.cell0
 have s1 := hS.cell1
 have f1 := hS.blk.frozen 1
 have hb := hS.lt
 have HS := Lib.hid hS
 clear hS
 go_enter Tryz.func103, Tryz.ntmps103
 go_wp2
 go_ret
 have h1 : PageSet (w.setCell ⟨b, 1, none⟩ (.bool true)) b true A c l := ⟨HS.out.blk.set_ 1 _, ownsRow_setCell_other HS.out.row (own_blk_ne HS.out.row HS.out.blk (by decide)) _⟩
 refine ⟨w.heap.size, by simp, Nat.le_refl _, h1.new_ ((Below.refl _ _).alloc (Nat.le_refl _) _), ⟨?_, ownsRow_new h1.row ((Below.refl _ _).alloc (Nat.le_refl _) _)⟩, ((Fr.refl (· = b) w).setCell (p := ⟨b, 1, none⟩) (.inl rfl) _).alloc _⟩
 have h2 := Blk.new (w.setCell ⟨b, 1, none⟩ (.bool true)) 161 #[.slice A l.length c, .bool true]
 simpa using h2
end Go.Proofs.YtpndmjabjjbefaaGreat
namespace Go.Proofs.YtpndmjabjjbefaaGreat
open Go.RowKit
def NewPostPage (w : World) (xs : List Page) (e : Ending) (w' : World) : Prop :=
 ∃ k, e = .returned (.pointer (some ⟨k, 0, none⟩)) ∧ w.heap.size ≤ k ∧ ∃ sn A c, PageSet w' k sn A c (puts cmpPage [] xs) ∧ AIn A (w.heap.size ≤ ·) ∧ Below w.heap.size w w'
set_option maxRecDepth 100000 in
set_option maxHeartbeats 2000000 in
theorem new_Page (A : Option Addr) (c : Nat) (xs : List Page) (w : World) (hrd : RowRd w 2 Page.cells A c xs) (hl : (xs.length : Int) ≤ 10000000) :
 Calls Tryz.prog 74 #[.slice A xs.length c] w (NewPostPage w xs) := by
 have HRD := Lib.hid hrd
 clear hrd
 go_enter Tryz.func74, Tryz.ntmps74
 go_wp2_with fail
 obtain ⟨W0, hW0⟩ : ∃ W0, W0 = w.alloc (.cells #[.slice none 0 0, .bool false] 161) := ⟨_, rfl⟩
 have hb0 : Below w.heap.size w W0 := by rw [hW0]; exact (Below.refl _ _).alloc (Nat.le_refl _) _
 have hS0 : PageSet W0 w.heap.size false none 0 [] := ⟨by rw [hW0]; exact Blk.new _ _ _, ⟨by simp, .inl ⟨rfl, rfl⟩⟩⟩
 rw [← hW0]
 clear hW0
 have HB0 := Lib.hid hb0
 have HS0 := Lib.hid hS0
 clear hb0 hS0
 go_loopw [10] (fun s wr => ∃ i : Nat, s = .int .i64 i ∧ i ≤ xs.length ∧ ∃ sn A' c', PageSet wr w.heap.size sn A' c' (puts cmpPage [] (xs.take i)) ∧ AIn A' (w.heap.size ≤ ·) ∧ Below w.heap.size w wr) (fun s wr => xs.length - (intOf s).toNat)
 case atStart => exact ⟨0, rfl, Nat.zero_le _, false, none, 0, HS0.out, AIn.none_ _, HB0.out⟩
 case round =>
  obtain ⟨i, rfl, hi, sn, A', c', hS, hA', hB⟩ := hrel
  have HS := Lib.hid hS
  have HA := Lib.hid hA'
  have HB := Lib.hid hB
  clear hS hA' hB
  by_cases hlt : i < xs.length
  · obtain ⟨x, hx⟩ : ∃ x, x = xs[i] := ⟨_, rfl⟩
    obtain ⟨g, off, rfl, hgs, hcell⟩ := (HRD.out.fr (Fr.of_new (M := fun _ => False) HB.out) (fun _ _ h => h)).at_ hlt
    rw [← hx] at hcell
    have q0 : wr.cell? ⟨g, off + i * 2, none⟩ = some (.int .u8 x.kk) := by simpa using hcell 0 _ rfl
    have q1 : wr.cell? ⟨g, off + i * 2 + 1, none⟩ = some (.int .i64 x.v) := by simpa using hcell 1 _ rfl
    have b1 : (0 : Int) ≤ (i : Int) := by omega
    have b2 : (i : Int) < (xs.length : Int) := by omega
    have HX := Lib.hid hx
    clear hcell hx
    go_wp2_with fail
    have hsr := Srt.puts tc_page (xs.take i) (Srt.nil (cmp := cmpPage))
    have hlen : (((puts cmpPage [] (xs.take i)).length : Nat) : Int) ≤ 100000000 := by
     have := length_puts_le tc_page (xs.take i) (Srt.nil (cmp := cmpPage))
     simp at this
     omega
    refine (put_Page w.heap.size c' sn A' _ x _ (HS.out.new_ ((Below.refl _ _).alloc (Nat.le_refl _) _)) hsr hlen).mono ?_
    rintro e w1 ⟨rfl, sn2, A2, c2, hS2, hF2, hM2⟩
    have hB1 : Below w.heap.size w w1 := (HB.out.alloc HB.out.size _).trans (hF2.below (by have := HB.out.size; (try simp); omega) (fun k hk hm => by
     rcases hm with hm | ⟨_, a, ha, hm⟩
     · omega
     · have := HA.out a ha; omega))
    have hA2 : AIn A2 (w.heap.size ≤ ·) := by
     rcases hM2 with ⟨_, rfl⟩ | ⟨_, g2, hg2, rfl⟩
     · exact HA.out
     · intro a ha; cases ha; have := HB.out.size; (try simp at hg2 ⊢); omega
    have HS2 := Lib.hid hS2
    have HB1 := Lib.hid hB1
    have HA2 := Lib.hid hA2
    clear hS2 hB1 hA2 hF2 hM2 hsr hlen q0 q1
    go_wp2_with fail
    go_roundw
    case rel =>
     refine ⟨i + 1, by go_num, by omega, sn2, A2, c2, ?_, HA2.out, HB1.out⟩
     rw [List.take_add_one, List.getElem?_eq_getElem hlt, ← HX.out]
     simp only [Option.toList_some, puts_snoc]
     exact HS2.out
    case measure => simp [intOf] <;> omega
  · have hie : i = xs.length := by omega
    subst hie
    go_wp2_with fail
    go_ret
    refine ⟨w.heap.size, rfl, Nat.le_refl _, sn, A', c', ?_, HA.out, HB.out⟩
    have := HS.out
    rwa [List.take_length] at this
end Go.Proofs.YtpndmjabjjbefaaGreat
namespace Go.Proofs.YtpndmjabjjbefaaGreat
open Go.RowKit
abbrev PageSets := Sets (α := Page) 161 135 2 Page.cells cmpPage
section
variable {D : Nat → Prop} {w : World} {S : Nat → Option (List Page)} {σ : Nat → St} {b : Nat} {l : List Page}
theorem sClone_Page (h : PageSets D w S σ) (hb : S b = some l) :
 Calls Tryz.prog 103 #[.pointer (some ⟨b, 0, none⟩)] w fun e w' => ∃ k, e = .returned (.pointer (some ⟨k, 0, none⟩)) ∧ w.heap.size ≤ k ∧ (∀ b l, S b = some l → b ≠ k) ∧
  ∃ σ', PageSets D w' (upd S k (some l)) σ' ∧ (∀ j, j ≠ k → j ≠ b → σ' j = σ j) ∧ (σ' b).sn = true ∧ (σ' b).A = (σ b).A ∧ (σ' k).sn = true ∧ (σ' k).A = (σ b).A ∧ Fr (fun k => ¬ D k) w w' ∧ Fr (· = b) w w' := by
 refine (clone_Page b _ _ _ l w (h.at_ b l hb)).mono ?_
 rintro e w' ⟨k, he, hk, h1, h2, hF⟩
 have hnb : b ≠ k := fun e => by have := h.lt hb; omega
 have hD : Fr (fun k => ¬ D k) w w' := hF.mono (fun k _ hk => by rw [hk]; exact (h.out b l hb).1)
 have hs := h.seen (by decide) hb h1 hF
 have hrow := (h.at_ b l hb).row_lt
 refine ⟨k, he, hk, fun b l hb e => by have := h.lt hb; omega, upd (upd σ b ⟨true, (σ b).A, (σ b).c⟩) k ⟨true, (σ b).A, (σ b).c⟩, ⟨fun j m hj => ?_, fun j m hj => ?_, fun j m hj => ?_, fun j m j' m' hj hj' hjj hsj a a' ha ha' => ?_, hs.low⟩, fun j h1 h2 => by rw [upd_ne _ _ h1, upd_ne _ _ h2], by rw [upd_ne _ _ hnb, upd_same], by rw [upd_ne _ _ hnb, upd_same], by rw [upd_same], by rw [upd_same], hD, hF⟩
 · by_cases e : j = k
   · subst e; rw [upd_same] at hj ⊢; cases hj; exact h2
   · rw [upd_ne _ _ e] at hj ⊢; exact hs.at_ j m hj
 · by_cases e : j = k
   · subst e; rw [upd_same] at hj; cases hj; exact h.srt b l hb
   · rw [upd_ne _ _ e] at hj; exact h.srt j m hj
 · by_cases e : j = k
   · subst e; rw [upd_same] at hj ⊢; cases hj
     exact ⟨fun hd => by have := h.low _ hd; omega, fun hs2 => by cases hs2⟩
   · rw [upd_ne _ _ e] at hj ⊢; exact hs.out j m hj
 · by_cases e : j = k
   · subst e; rw [upd_same] at hsj; cases hsj
   · rw [upd_ne _ _ e] at hj hsj ha
     by_cases e2 : j' = k
     · subst e2
       rw [upd_same] at ha'
       by_cases e3 : j = b
       · subst e3; rw [upd_same] at hsj; cases hsj
       · exact hs.apart j m b l hj hb e3 hsj a a' ha (by rw [upd_same]; exact ha')
     · rw [upd_ne _ _ e2] at hj' ha'
       exact hs.apart j m j' m' hj hj' hjj hsj a a' ha ha'
end
end Go.Proofs.YtpndmjabjjbefaaGreat
namespace Go.Proofs.YtpndmjabjjbefaaGreat
open Go.RowKit
def mget (m : List Page) (c : UInt8) : Option Int := (m.find? fun p => p.key == c).map Page.v
def mput (m : List Page) (p : Page) : List Page := put cmpPage (drop cmpPage m p) p
theorem mget_none {m : List Page} {c : UInt8} (h : has cmpPage m ⟨c, 0⟩ = false) : mget m c = none := by
 unfold mget
 rw [List.find?_eq_none.2]
 · rfl
 · intro p hp
   have := has_false.1 h p hp
   simp only [beq_iff_eq]
   exact fun e => this (cmpPage_eq.2 e)
theorem mget_some {m : List Page} (hs : Srt cmpPage m) {c : UInt8} {p : Page} (hp : p ∈ m) (h : p.key = c) : mget m c = some p.v := by
 unfold mget
 obtain ⟨i, hi, rfl⟩ := List.getElem_of_mem hp
 have : m.find? (fun p => p.key == c) = some m[i] := by
  rw [List.find?_eq_some_iff_getElem]
  refine ⟨by simpa using h, i, hi, rfl, fun j hj => ?_⟩
  have h2 := hs.lt hj hi
  simp only [Bool.not_eq_true', beq_eq_false_iff_ne]
  intro e
  have : cmpPage m[j] m[i] = 0 := cmpPage_eq.2 (e.trans h.symm)
  omega
 rw [this]; rfl
theorem found_page {m : List Page} (hs : Srt cmpPage m) {c : UInt8} {v : Int} (h : has cmpPage m ⟨c, v⟩ = true) : ∃ y, m[rank cmpPage m ⟨c, v⟩]? = some y ∧ y.key = c ∧ mget m c = some y.v := by
 obtain ⟨_, _, hk, e⟩ := drop_eq tc_page hs h
 exact ⟨_, List.getElem?_eq_getElem hk, cmpPage_eq.1 e, mget_some hs (List.getElem_mem hk) (cmpPage_eq.1 e)⟩
set_option maxHeartbeats 1000000 in
theorem at_is (c : UInt8) (w : World) : Calls Tryz.prog 127 #[.int .u8 (c.toNat : Int)] w fun e w' => e = .returned (.agg #[.int .u8 (c.toNat : Int), .int .i64 0]) ∧ Below w.heap.size w w' := by
 go_enter Tryz.func127, Tryz.ntmps127
 go_wp2_with fail
 exact bodyPost_ret (v := .agg #[.int .u8 (c.toNat : Int), .int .i64 0]) (by simp [results, Tryz.results127, go_sem]) rfl ⟨rfl, by (repeat (first | exact Below.refl _ _ | refine Below.drew ?_ | refine Below.al ?_ _ | refine Below.sc ?_ _))⟩
set_option maxRecDepth 100000 in
set_option maxHeartbeats 4000000 in
theorem mapget_no (bm bp cc : Nat) (sn : Bool) (A : Option Addr) (m : List Page) (c : UInt8) (w : World) (hM : Blk w bm 137 #[.pointer (some ⟨bp, 0, none⟩)]) (hS : PageSet w bp sn A cc m) (hs : Srt cmpPage m) (hl : (m.length : Int) ≤ 1000000) (hh : has cmpPage m ⟨c, 0⟩ = false) :
 Calls Tryz.prog 104 #[.pointer (some ⟨bm, 0, none⟩), .int .u8 (c.toNat : Int)] w fun e w' => e = .returned (.tuple #[.int .i64 0, .bool false]) ∧ Below w.heap.size w w' := by
 have s0 := (hM.cell 0).trans rfl
 have hml := hM.lt
 have HS := Lib.hid hS
 have HO := Lib.hid hs
 have HM := Lib.hid hM
 have HH := Lib.hid hh
 clear hS hs hM hh
 go_enter Tryz.func104, Tryz.ntmps104
 go_wp2_with fail
 refine wp_region_Pl (fun w9 => Below w.heap.size w w9) [0, 1, 2, 3, 4, 7, 8, 9, 12] [3] (.fork [(0, 0), (1, 0), (2, 0), (3, 1), (4, 0)] 5 (.fork [] 6 (.fin [(7, 0), (8, 0), (9, 0), (10, 2), (11, 2), (12, 0)]) 10 (.fin [(6, 2), (7, 0), (8, 0), (9, 0), (11, 2), (12, 0)])) 10 (.fin [(5, 2), (6, 2), (7, 0), (8, 0), (9, 0), (11, 2), (12, 0)])) (by kernel_rfl) (by kernel_rfl) (by kernel_rfl) (fun KK hKK => ?_)
 simp only [wpPl, beside, List.filterMap_cons, List.filterMap_nil, List.getElem?_toArray, List.getElem?_cons_zero, List.getElem?_cons_succ, Option.map_some]
 repeat ((first | (refine wpY_w ?_ (Or.inl ⟨by rfl, fun w9 => ?_⟩) ?_; rotate_left 1; go_simp; with_reducible rfl) | (refine wpY_l ?_ ((Below.refl _ _).drew) (Or.inl ⟨by rfl, fun w9 hw9 => ?_⟩) ?_; rotate_left 1; obtain ⟨hc9, hf9⟩ := bcell hw9; go_simp; with_reducible rfl) | refine wpY_w undef (Or.inr ⟨by rfl, rfl⟩) ?_ | refine wpY_l undef ((Below.refl _ _).drew) (Or.inr ⟨by rfl, rfl⟩) ?_); go_frame)
 refine wpY_nil ⟨?_, ?_⟩
 · refine wpOp_cs rfl (fun K9 hK9 => ?_)
   go_simp
   refine (at_is c _).mono ?_
   rintro e wa ⟨rfl, hba⟩
   have HBa := Lib.hid (((Below.refl w.heap.size w).drew).trans (hba.mono (by first | omega | simp)))
   clear hba
   have hza := HBa.out.size
   refine hK9 _ _ (fun _ => HBa.out) ?_
   clear hK9 K9
   try go_frame
   try simp only [beside, List.filterMap_nil]
   refine wpY_nil ⟨?_, ?_⟩
   · refine wpOp_cs rfl (fun K9 hK9 => ?_)
     go_simp
     refine (get_no_Page bp cc sn A m ⟨c, 0⟩ _ (HS.out.new_ (HBa.out)) HO.out (by omega) HH.out).mono ?_
     rintro e wg ⟨rfl, hbg⟩
     have HBg := Lib.hid ((HBa.out).trans (hbg.mono (by have := HBa.out.size; first | omega | (simp; done) | (simp; omega))))
     clear hbg
     have hzg := HBg.out.size
     refine hK9 _ _ (fun _ => HBg.out) ?_
     clear hK9 K9
     try go_frame
     try simp only [beside, List.filterMap_nil]
     repeat ((first | (refine wpY_w ?_ (Or.inl ⟨by rfl, fun w9 => ?_⟩) ?_; rotate_left 1; go_simp; with_reducible rfl) | (refine wpY_l ?_ (HBg.out) (Or.inl ⟨by rfl, fun w9 hw9 => ?_⟩) ?_; rotate_left 1; obtain ⟨hc9, hf9⟩ := bcell hw9; go_simp; with_reducible rfl) | refine wpY_w undef (Or.inr ⟨by rfl, rfl⟩) ?_ | refine wpY_l undef (HBg.out) (Or.inr ⟨by rfl, rfl⟩) ?_); go_frame)
     refine wpY_es (fun K9 hK9 => ?_)
     go_simp
     have hB9 := (HBg.out).alloc (by have := HBg.out.size; first | omega | (simp; done) | (simp; omega)) (.cells #[.int .u8 0, .int .i64 0] 135)
     have HB9 := Lib.hid hB9
     have hk9 : Blk (wg.alloc (.cells #[.int .u8 0, .int .i64 0] 135)) wg.heap.size 135 #[.int .u8 0, .int .i64 0] := Blk.new wg 135 #[.int .u8 0, .int .i64 0]
     have HK9 := Lib.hid hk9
     clear hB9 hk9
     have hz9 := HB9.out.size
     refine hK9 _ _ (HB9.out) ?_
     clear hK9 K9
     try go_frame
     refine wpY_es (fun K9 hK9 => ?_)
     have u0 := ((HK9.out).cell 0).trans rfl
     have u1 := ((HK9.out).cell 1).trans rfl
     have f0 := (HK9.out).frozen 0
     have f1 := (HK9.out).frozen 1
     have hgl := (HK9.out).lt
     go_simp
     refine hK9 _ _ (by (repeat (first | exact Below.refl _ _ | exact HBa.out | exact HBg.out | exact HB9.out | (refine Below.drew ?_) | (refine Below.alloc ?_ (by first | omega | (simp; done) | (simp; omega)) _) | (refine Below.setCell ?_ (by first | omega | (simp; done) | (simp; omega)) _)))) ?_
     clear hK9 K9
     try go_frame
     repeat ((first | (refine wpY_w ?_ (Or.inl ⟨by rfl, fun w9 => ?_⟩) ?_; rotate_left 1; go_simp; with_reducible rfl) | (refine wpY_l ?_ (by (repeat (first | exact Below.refl _ _ | exact HBa.out | exact HBg.out | exact HB9.out | (refine Below.drew ?_) | (refine Below.alloc ?_ (by first | omega | (simp; done) | (simp; omega)) _) | (refine Below.setCell ?_ (by first | omega | (simp; done) | (simp; omega)) _)))) (Or.inl ⟨by rfl, fun w9 hw9 => ?_⟩) ?_; rotate_left 1; obtain ⟨hc9, hf9⟩ := bcell hw9; go_simp; with_reducible rfl) | refine wpY_w undef (Or.inr ⟨by rfl, rfl⟩) ?_ | refine wpY_l undef (by (repeat (first | exact Below.refl _ _ | exact HBa.out | exact HBg.out | exact HB9.out | (refine Below.drew ?_) | (refine Below.alloc ?_ (by first | omega | (simp; done) | (simp; omega)) _) | (refine Below.setCell ?_ (by first | omega | (simp; done) | (simp; omega)) _)))) (Or.inr ⟨by rfl, rfl⟩) ?_); go_frame)
     refine wpY_nil ?_
     simp only [OnlyN_normal]
     refine hKK _ _ ?_
     clear hKK KK
     go_wp2_with fail
     go_ret2
     exact ⟨rfl, by (repeat (first | exact Below.refl _ _ | exact HBa.out | exact HBg.out | exact HB9.out | (refine Below.drew ?_) | (refine Below.alloc ?_ (by first | omega | (simp; done) | (simp; omega)) _) | (refine Below.setCell ?_ (by first | omega | (simp; done) | (simp; omega)) _)))⟩
   · refine wpOp_cs rfl (fun K9 hK9 => ?_)
     go_simp
     have hB9 := (HBa.out).alloc (by have := HBa.out.size; first | omega | (simp; done) | (simp; omega)) (.cells #[.int .u8 0, .int .i64 0] 135)
     have HB9 := Lib.hid hB9
     have hk9 : Blk (wa.alloc (.cells #[.int .u8 0, .int .i64 0] 135)) wa.heap.size 135 #[.int .u8 0, .int .i64 0] := Blk.new wa 135 #[.int .u8 0, .int .i64 0]
     have HK9 := Lib.hid hk9
     clear hB9 hk9
     have hz9 := HB9.out.size
     refine hK9 _ _ (fun _ => HB9.out) ?_
     clear hK9 K9
     try go_frame
     try simp only [beside, List.filterMap_nil]
     refine wpY_es (fun K9 hK9 => ?_)
     go_simp
     refine (get_no_Page bp cc sn A m ⟨c, 0⟩ _ (HS.out.new_ (HB9.out)) HO.out (by omega) HH.out).mono ?_
     rintro e wg ⟨rfl, hbg⟩
     have hkg := (HK9.out).new_ hbg
     have HKg := Lib.hid hkg
     clear hkg
     have HBg := Lib.hid ((HB9.out).trans (hbg.mono (by have := HB9.out.size; first | omega | (simp at this ⊢; done) | (simp at this ⊢; omega))))
     clear hbg
     have hzg := HBg.out.size
     refine hK9 _ _ (HBg.out) ?_
     clear hK9 K9
     try go_frame
     repeat ((first | (refine wpY_w ?_ (Or.inl ⟨by rfl, fun w9 => ?_⟩) ?_; rotate_left 1; go_simp; with_reducible rfl) | (refine wpY_l ?_ (HBg.out) (Or.inl ⟨by rfl, fun w9 hw9 => ?_⟩) ?_; rotate_left 1; obtain ⟨hc9, hf9⟩ := bcell hw9; go_simp; with_reducible rfl) | refine wpY_w undef (Or.inr ⟨by rfl, rfl⟩) ?_ | refine wpY_l undef (HBg.out) (Or.inr ⟨by rfl, rfl⟩) ?_); go_frame)
     refine wpY_es (fun K9 hK9 => ?_)
     have u0 := ((HKg.out).cell 0).trans rfl
     have u1 := ((HKg.out).cell 1).trans rfl
     have f0 := (HKg.out).frozen 0
     have f1 := (HKg.out).frozen 1
     have hgl := (HKg.out).lt
     go_simp
     refine hK9 _ _ (by (repeat (first | exact Below.refl _ _ | exact HBa.out | exact HB9.out | exact HBg.out | (refine Below.drew ?_) | (refine Below.alloc ?_ (by first | omega | (simp; done) | (simp; omega)) _) | (refine Below.setCell ?_ (by first | omega | (simp; done) | (simp; omega)) _)))) ?_
     clear hK9 K9
     try go_frame
     repeat ((first | (refine wpY_w ?_ (Or.inl ⟨by rfl, fun w9 => ?_⟩) ?_; rotate_left 1; go_simp; with_reducible rfl) | (refine wpY_l ?_ (by (repeat (first | exact Below.refl _ _ | exact HBa.out | exact HB9.out | exact HBg.out | (refine Below.drew ?_) | (refine Below.alloc ?_ (by first | omega | (simp; done) | (simp; omega)) _) | (refine Below.setCell ?_ (by first | omega | (simp; done) | (simp; omega)) _)))) (Or.inl ⟨by rfl, fun w9 hw9 => ?_⟩) ?_; rotate_left 1; obtain ⟨hc9, hf9⟩ := bcell hw9; go_simp; with_reducible rfl) | refine wpY_w undef (Or.inr ⟨by rfl, rfl⟩) ?_ | refine wpY_l undef (by (repeat (first | exact Below.refl _ _ | exact HBa.out | exact HB9.out | exact HBg.out | (refine Below.drew ?_) | (refine Below.alloc ?_ (by first | omega | (simp; done) | (simp; omega)) _) | (refine Below.setCell ?_ (by first | omega | (simp; done) | (simp; omega)) _)))) (Or.inr ⟨by rfl, rfl⟩) ?_); go_frame)
     refine wpY_nil ?_
     simp only [OnlyN_normal]
     refine hKK _ _ ?_
     clear hKK KK
     go_wp2_with fail
     go_ret2
     exact ⟨rfl, by (repeat (first | exact Below.refl _ _ | exact HBa.out | exact HB9.out | exact HBg.out | (refine Below.drew ?_) | (refine Below.alloc ?_ (by first | omega | (simp; done) | (simp; omega)) _) | (refine Below.setCell ?_ (by first | omega | (simp; done) | (simp; omega)) _)))⟩
 · refine wpOp_cs rfl (fun K9 hK9 => ?_)
   go_simp
   have hB9 := ((Below.refl w.heap.size w).drew).alloc (by first | omega | simp) (.cells #[.int .u8 0, .int .i64 0] 135)
   have HB9 := Lib.hid hB9
   have hk9 : Blk (w.drew.alloc (.cells #[.int .u8 0, .int .i64 0] 135)) w.heap.size 135 #[.int .u8 0, .int .i64 0] := Blk.new w.drew 135 #[.int .u8 0, .int .i64 0]
   have HK9 := Lib.hid hk9
   clear hB9 hk9
   have hz9 := HB9.out.size
   refine hK9 _ _ (fun _ => HB9.out) ?_
   clear hK9 K9
   try go_frame
   try simp only [beside, List.filterMap_nil]
   refine wpY_es (fun K9 hK9 => ?_)
   go_simp
   refine (at_is c _).mono ?_
   rintro e wa ⟨rfl, hba⟩
   have hka := (HK9.out).new_ hba
   have HKa := Lib.hid hka
   clear hka
   have HBa := Lib.hid ((HB9.out).trans (hba.mono (by have := HB9.out.size; first | omega | (simp at this ⊢; done) | (simp at this ⊢; omega))))
   clear hba
   have hza := HBa.out.size
   refine hK9 _ _ (HBa.out) ?_
   clear hK9 K9
   try go_frame
   refine wpY_es (fun K9 hK9 => ?_)
   go_simp
   refine (get_no_Page bp cc sn A m ⟨c, 0⟩ _ (HS.out.new_ (HBa.out)) HO.out (by omega) HH.out).mono ?_
   rintro e wg ⟨rfl, hbg⟩
   have hkg := (HKa.out).new_ hbg
   have HKg := Lib.hid hkg
   clear hkg
   have HBg := Lib.hid ((HBa.out).trans (hbg.mono (by have := HBa.out.size; first | omega | (simp; done) | (simp; omega))))
   clear hbg
   have hzg := HBg.out.size
   refine hK9 _ _ (HBg.out) ?_
   clear hK9 K9
   try go_frame
   repeat ((first | (refine wpY_w ?_ (Or.inl ⟨by rfl, fun w9 => ?_⟩) ?_; rotate_left 1; go_simp; with_reducible rfl) | (refine wpY_l ?_ (HBg.out) (Or.inl ⟨by rfl, fun w9 hw9 => ?_⟩) ?_; rotate_left 1; obtain ⟨hc9, hf9⟩ := bcell hw9; go_simp; with_reducible rfl) | refine wpY_w undef (Or.inr ⟨by rfl, rfl⟩) ?_ | refine wpY_l undef (HBg.out) (Or.inr ⟨by rfl, rfl⟩) ?_); go_frame)
   refine wpY_es (fun K9 hK9 => ?_)
   have u0 := ((HKg.out).cell 0).trans rfl
   have u1 := ((HKg.out).cell 1).trans rfl
   have f0 := (HKg.out).frozen 0
   have f1 := (HKg.out).frozen 1
   have hgl := (HKg.out).lt
   go_simp
   refine hK9 _ _ (by (repeat (first | exact Below.refl _ _ | exact HB9.out | exact HBa.out | exact HBg.out | (refine Below.drew ?_) | (refine Below.alloc ?_ (by first | omega | (simp; done) | (simp; omega)) _) | (refine Below.setCell ?_ (by first | omega | (simp; done) | (simp; omega)) _)))) ?_
   clear hK9 K9
   try go_frame
   repeat ((first | (refine wpY_w ?_ (Or.inl ⟨by rfl, fun w9 => ?_⟩) ?_; rotate_left 1; go_simp; with_reducible rfl) | (refine wpY_l ?_ (by (repeat (first | exact Below.refl _ _ | exact HB9.out | exact HBa.out | exact HBg.out | (refine Below.drew ?_) | (refine Below.alloc ?_ (by first | omega | (simp; done) | (simp; omega)) _) | (refine Below.setCell ?_ (by first | omega | (simp; done) | (simp; omega)) _)))) (Or.inl ⟨by rfl, fun w9 hw9 => ?_⟩) ?_; rotate_left 1; obtain ⟨hc9, hf9⟩ := bcell hw9; go_simp; with_reducible rfl) | refine wpY_w undef (Or.inr ⟨by rfl, rfl⟩) ?_ | refine wpY_l undef (by (repeat (first | exact Below.refl _ _ | exact HB9.out | exact HBa.out | exact HBg.out | (refine Below.drew ?_) | (refine Below.alloc ?_ (by first | omega | (simp; done) | (simp; omega)) _) | (refine Below.setCell ?_ (by first | omega | (simp; done) | (simp; omega)) _)))) (Or.inr ⟨by rfl, rfl⟩) ?_); go_frame)
   refine wpY_nil ?_
   simp only [OnlyN_normal]
   refine hKK _ _ ?_
   clear hKK KK
   go_wp2_with fail
   go_ret2
   exact ⟨rfl, by (repeat (first | exact Below.refl _ _ | exact HB9.out | exact HBa.out | exact HBg.out | (refine Below.drew ?_) | (refine Below.alloc ?_ (by first | omega | (simp; done) | (simp; omega)) _) | (refine Below.setCell ?_ (by first | omega | (simp; done) | (simp; omega)) _)))⟩
set_option maxRecDepth 100000 in
set_option maxHeartbeats 4000000 in
theorem mapget_is (bm bp cc : Nat) (sn : Bool) (A : Option Addr) (m : List Page) (c : UInt8) (y : Page) (w : World) (hM : Blk w bm 137 #[.pointer (some ⟨bp, 0, none⟩)]) (hS : PageSet w bp sn A cc m) (hs : Srt cmpPage m) (hl : (m.length : Int) ≤ 1000000) (hh : has cmpPage m ⟨c, 0⟩ = true) (hy : m[rank cmpPage m ⟨c, 0⟩]? = some y) :
 Calls Tryz.prog 104 #[.pointer (some ⟨bm, 0, none⟩), .int .u8 (c.toNat : Int)] w fun e w' => e = .returned (.tuple #[.int .i64 y.v, .bool true]) ∧ Below w.heap.size w w' := by
 have s0 := (hM.cell 0).trans rfl
 have hml := hM.lt
 have HS := Lib.hid hS
 have HO := Lib.hid hs
 have HM := Lib.hid hM
 have HH := Lib.hid hh
 have HY := Lib.hid hy
 clear hy
 clear hS hs hM hh
 go_enter Tryz.func104, Tryz.ntmps104
 go_wp2_with fail
 refine wp_region_Pl (fun w9 => Below w.heap.size w w9) [0, 1, 2, 3, 4, 7, 8, 9, 12] [3] (.fork [(0, 0), (1, 0), (2, 0), (3, 1), (4, 0)] 5 (.fork [] 6 (.fin [(7, 0), (8, 0), (9, 0), (10, 2), (11, 2), (12, 0)]) 10 (.fin [(6, 2), (7, 0), (8, 0), (9, 0), (11, 2), (12, 0)])) 10 (.fin [(5, 2), (6, 2), (7, 0), (8, 0), (9, 0), (11, 2), (12, 0)])) (by kernel_rfl) (by kernel_rfl) (by kernel_rfl) (fun KK hKK => ?_)
 simp only [wpPl, beside, List.filterMap_cons, List.filterMap_nil, List.getElem?_toArray, List.getElem?_cons_zero, List.getElem?_cons_succ, Option.map_some]
 repeat ((first | (refine wpY_w ?_ (Or.inl ⟨by rfl, fun w9 => ?_⟩) ?_; rotate_left 1; go_simp; with_reducible rfl) | (refine wpY_l ?_ ((Below.refl _ _).drew) (Or.inl ⟨by rfl, fun w9 hw9 => ?_⟩) ?_; rotate_left 1; obtain ⟨hc9, hf9⟩ := bcell hw9; go_simp; with_reducible rfl) | refine wpY_w undef (Or.inr ⟨by rfl, rfl⟩) ?_ | refine wpY_l undef ((Below.refl _ _).drew) (Or.inr ⟨by rfl, rfl⟩) ?_); go_frame)
 refine wpY_nil ⟨?_, ?_⟩
 · refine wpOp_cs rfl (fun K9 hK9 => ?_)
   go_simp
   refine (at_is c _).mono ?_
   rintro e wa ⟨rfl, hba⟩
   have HBa := Lib.hid (((Below.refl w.heap.size w).drew).trans (hba.mono (by first | omega | simp)))
   clear hba
   have hza := HBa.out.size
   refine hK9 _ _ (fun _ => HBa.out) ?_
   clear hK9 K9
   try go_frame
   try simp only [beside, List.filterMap_nil]
   refine wpY_nil ⟨?_, ?_⟩
   · refine wpOp_cs rfl (fun K9 hK9 => ?_)
     go_simp
     refine (get_is_Page bp cc sn A m ⟨c, 0⟩ y _ (HS.out.new_ (HBa.out)) HO.out (by omega) HH.out HY.out).mono ?_
     rintro e wg ⟨rfl, hbg⟩
     have HBg := Lib.hid ((HBa.out).trans (hbg.mono (by have := HBa.out.size; first | omega | (simp; done) | (simp; omega))))
     clear hbg
     have hzg := HBg.out.size
     refine hK9 _ _ (fun _ => HBg.out) ?_
     clear hK9 K9
     try go_frame
     try simp only [beside, List.filterMap_nil]
     repeat ((first | (refine wpY_w ?_ (Or.inl ⟨by rfl, fun w9 => ?_⟩) ?_; rotate_left 1; go_simp; with_reducible rfl) | (refine wpY_l ?_ (HBg.out) (Or.inl ⟨by rfl, fun w9 hw9 => ?_⟩) ?_; rotate_left 1; obtain ⟨hc9, hf9⟩ := bcell hw9; go_simp; with_reducible rfl) | refine wpY_w undef (Or.inr ⟨by rfl, rfl⟩) ?_ | refine wpY_l undef (HBg.out) (Or.inr ⟨by rfl, rfl⟩) ?_); go_frame)
     refine wpY_es (fun K9 hK9 => ?_)
     go_simp
     have hB9 := (HBg.out).alloc (by have := HBg.out.size; first | omega | (simp; done) | (simp; omega)) (.cells #[.int .u8 0, .int .i64 0] 135)
     have HB9 := Lib.hid hB9
     have hk9 : Blk (wg.alloc (.cells #[.int .u8 0, .int .i64 0] 135)) wg.heap.size 135 #[.int .u8 0, .int .i64 0] := Blk.new wg 135 #[.int .u8 0, .int .i64 0]
     have HK9 := Lib.hid hk9
     clear hB9 hk9
     have hz9 := HB9.out.size
     refine hK9 _ _ (HB9.out) ?_
     clear hK9 K9
     try go_frame
     refine wpY_es (fun K9 hK9 => ?_)
     have u0 := ((HK9.out).cell 0).trans rfl
     have u1 := ((HK9.out).cell 1).trans rfl
     have f0 := (HK9.out).frozen 0
     have f1 := (HK9.out).frozen 1
     have hgl := (HK9.out).lt
     go_simp
     refine hK9 _ _ (by (repeat (first | exact Below.refl _ _ | exact HBa.out | exact HBg.out | exact HB9.out | (refine Below.drew ?_) | (refine Below.alloc ?_ (by first | omega | (simp; done) | (simp; omega)) _) | (refine Below.setCell ?_ (by first | omega | (simp; done) | (simp; omega)) _)))) ?_
     clear hK9 K9
     try go_frame
     repeat ((first | (refine wpY_w ?_ (Or.inl ⟨by rfl, fun w9 => ?_⟩) ?_; rotate_left 1; go_simp; with_reducible rfl) | (refine wpY_l ?_ (by (repeat (first | exact Below.refl _ _ | exact HBa.out | exact HBg.out | exact HB9.out | (refine Below.drew ?_) | (refine Below.alloc ?_ (by first | omega | (simp; done) | (simp; omega)) _) | (refine Below.setCell ?_ (by first | omega | (simp; done) | (simp; omega)) _)))) (Or.inl ⟨by rfl, fun w9 hw9 => ?_⟩) ?_; rotate_left 1; obtain ⟨hc9, hf9⟩ := bcell hw9; go_simp; with_reducible rfl) | refine wpY_w undef (Or.inr ⟨by rfl, rfl⟩) ?_ | refine wpY_l undef (by (repeat (first | exact Below.refl _ _ | exact HBa.out | exact HBg.out | exact HB9.out | (refine Below.drew ?_) | (refine Below.alloc ?_ (by first | omega | (simp; done) | (simp; omega)) _) | (refine Below.setCell ?_ (by first | omega | (simp; done) | (simp; omega)) _)))) (Or.inr ⟨by rfl, rfl⟩) ?_); go_frame)
     refine wpY_nil ?_
     simp only [OnlyN_normal]
     refine hKK _ _ ?_
     clear hKK KK
     go_wp2_with fail
     go_ret2
     exact ⟨rfl, by (repeat (first | exact Below.refl _ _ | exact HBa.out | exact HBg.out | exact HB9.out | (refine Below.drew ?_) | (refine Below.alloc ?_ (by first | omega | (simp; done) | (simp; omega)) _) | (refine Below.setCell ?_ (by first | omega | (simp; done) | (simp; omega)) _)))⟩
   · refine wpOp_cs rfl (fun K9 hK9 => ?_)
     go_simp
     have hB9 := (HBa.out).alloc (by have := HBa.out.size; first | omega | (simp; done) | (simp; omega)) (.cells #[.int .u8 0, .int .i64 0] 135)
     have HB9 := Lib.hid hB9
     have hk9 : Blk (wa.alloc (.cells #[.int .u8 0, .int .i64 0] 135)) wa.heap.size 135 #[.int .u8 0, .int .i64 0] := Blk.new wa 135 #[.int .u8 0, .int .i64 0]
     have HK9 := Lib.hid hk9
     clear hB9 hk9
     have hz9 := HB9.out.size
     refine hK9 _ _ (fun _ => HB9.out) ?_
     clear hK9 K9
     try go_frame
     try simp only [beside, List.filterMap_nil]
     refine wpY_es (fun K9 hK9 => ?_)
     go_simp
     refine (get_is_Page bp cc sn A m ⟨c, 0⟩ y _ (HS.out.new_ (HB9.out)) HO.out (by omega) HH.out HY.out).mono ?_
     rintro e wg ⟨rfl, hbg⟩
     have hkg := (HK9.out).new_ hbg
     have HKg := Lib.hid hkg
     clear hkg
     have HBg := Lib.hid ((HB9.out).trans (hbg.mono (by have := HB9.out.size; first | omega | (simp at this ⊢; done) | (simp at this ⊢; omega))))
     clear hbg
     have hzg := HBg.out.size
     refine hK9 _ _ (HBg.out) ?_
     clear hK9 K9
     try go_frame
     repeat ((first | (refine wpY_w ?_ (Or.inl ⟨by rfl, fun w9 => ?_⟩) ?_; rotate_left 1; go_simp; with_reducible rfl) | (refine wpY_l ?_ (HBg.out) (Or.inl ⟨by rfl, fun w9 hw9 => ?_⟩) ?_; rotate_left 1; obtain ⟨hc9, hf9⟩ := bcell hw9; go_simp; with_reducible rfl) | refine wpY_w undef (Or.inr ⟨by rfl, rfl⟩) ?_ | refine wpY_l undef (HBg.out) (Or.inr ⟨by rfl, rfl⟩) ?_); go_frame)
     refine wpY_es (fun K9 hK9 => ?_)
     have u0 := ((HKg.out).cell 0).trans rfl
     have u1 := ((HKg.out).cell 1).trans rfl
     have f0 := (HKg.out).frozen 0
     have f1 := (HKg.out).frozen 1
     have hgl := (HKg.out).lt
     go_simp
     refine hK9 _ _ (by (repeat (first | exact Below.refl _ _ | exact HBa.out | exact HB9.out | exact HBg.out | (refine Below.drew ?_) | (refine Below.alloc ?_ (by first | omega | (simp; done) | (simp; omega)) _) | (refine Below.setCell ?_ (by first | omega | (simp; done) | (simp; omega)) _)))) ?_
     clear hK9 K9
     try go_frame
     repeat ((first | (refine wpY_w ?_ (Or.inl ⟨by rfl, fun w9 => ?_⟩) ?_; rotate_left 1; go_simp; with_reducible rfl) | (refine wpY_l ?_ (by (repeat (first | exact Below.refl _ _ | exact HBa.out | exact HB9.out | exact HBg.out | (refine Below.drew ?_) | (refine Below.alloc ?_ (by first | omega | (simp; done) | (simp; omega)) _) | (refine Below.setCell ?_ (by first | omega | (simp; done) | (simp; omega)) _)))) (Or.inl ⟨by rfl, fun w9 hw9 => ?_⟩) ?_; rotate_left 1; obtain ⟨hc9, hf9⟩ := bcell hw9; go_simp; with_reducible rfl) | refine wpY_w undef (Or.inr ⟨by rfl, rfl⟩) ?_ | refine wpY_l undef (by (repeat (first | exact Below.refl _ _ | exact HBa.out | exact HB9.out | exact HBg.out | (refine Below.drew ?_) | (refine Below.alloc ?_ (by first | omega | (simp; done) | (simp; omega)) _) | (refine Below.setCell ?_ (by first | omega | (simp; done) | (simp; omega)) _)))) (Or.inr ⟨by rfl, rfl⟩) ?_); go_frame)
     refine wpY_nil ?_
     simp only [OnlyN_normal]
     refine hKK _ _ ?_
     clear hKK KK
     go_wp2_with fail
     go_ret2
     exact ⟨rfl, by (repeat (first | exact Below.refl _ _ | exact HBa.out | exact HB9.out | exact HBg.out | (refine Below.drew ?_) | (refine Below.alloc ?_ (by first | omega | (simp; done) | (simp; omega)) _) | (refine Below.setCell ?_ (by first | omega | (simp; done) | (simp; omega)) _)))⟩
 · refine wpOp_cs rfl (fun K9 hK9 => ?_)
   go_simp
   have hB9 := ((Below.refl w.heap.size w).drew).alloc (by first | omega | simp) (.cells #[.int .u8 0, .int .i64 0] 135)
   have HB9 := Lib.hid hB9
   have hk9 : Blk (w.drew.alloc (.cells #[.int .u8 0, .int .i64 0] 135)) w.heap.size 135 #[.int .u8 0, .int .i64 0] := Blk.new w.drew 135 #[.int .u8 0, .int .i64 0]
   have HK9 := Lib.hid hk9
   clear hB9 hk9
   have hz9 := HB9.out.size
   refine hK9 _ _ (fun _ => HB9.out) ?_
   clear hK9 K9
   try go_frame
   try simp only [beside, List.filterMap_nil]
   refine wpY_es (fun K9 hK9 => ?_)
   go_simp
   refine (at_is c _).mono ?_
   rintro e wa ⟨rfl, hba⟩
   have hka := (HK9.out).new_ hba
   have HKa := Lib.hid hka
   clear hka
   have HBa := Lib.hid ((HB9.out).trans (hba.mono (by have := HB9.out.size; first | omega | (simp at this ⊢; done) | (simp at this ⊢; omega))))
   clear hba
   have hza := HBa.out.size
   refine hK9 _ _ (HBa.out) ?_
   clear hK9 K9
   try go_frame
   refine wpY_es (fun K9 hK9 => ?_)
   go_simp
   refine (get_is_Page bp cc sn A m ⟨c, 0⟩ y _ (HS.out.new_ (HBa.out)) HO.out (by omega) HH.out HY.out).mono ?_
   rintro e wg ⟨rfl, hbg⟩
   have hkg := (HKa.out).new_ hbg
   have HKg := Lib.hid hkg
   clear hkg
   have HBg := Lib.hid ((HBa.out).trans (hbg.mono (by have := HBa.out.size; first | omega | (simp; done) | (simp; omega))))
   clear hbg
   have hzg := HBg.out.size
   refine hK9 _ _ (HBg.out) ?_
   clear hK9 K9
   try go_frame
   repeat ((first | (refine wpY_w ?_ (Or.inl ⟨by rfl, fun w9 => ?_⟩) ?_; rotate_left 1; go_simp; with_reducible rfl) | (refine wpY_l ?_ (HBg.out) (Or.inl ⟨by rfl, fun w9 hw9 => ?_⟩) ?_; rotate_left 1; obtain ⟨hc9, hf9⟩ := bcell hw9; go_simp; with_reducible rfl) | refine wpY_w undef (Or.inr ⟨by rfl, rfl⟩) ?_ | refine wpY_l undef (HBg.out) (Or.inr ⟨by rfl, rfl⟩) ?_); go_frame)
   refine wpY_es (fun K9 hK9 => ?_)
   have u0 := ((HKg.out).cell 0).trans rfl
   have u1 := ((HKg.out).cell 1).trans rfl
   have f0 := (HKg.out).frozen 0
   have f1 := (HKg.out).frozen 1
   have hgl := (HKg.out).lt
   go_simp
   refine hK9 _ _ (by (repeat (first | exact Below.refl _ _ | exact HB9.out | exact HBa.out | exact HBg.out | (refine Below.drew ?_) | (refine Below.alloc ?_ (by first | omega | (simp; done) | (simp; omega)) _) | (refine Below.setCell ?_ (by first | omega | (simp; done) | (simp; omega)) _)))) ?_
   clear hK9 K9
   try go_frame
   repeat ((first | (refine wpY_w ?_ (Or.inl ⟨by rfl, fun w9 => ?_⟩) ?_; rotate_left 1; go_simp; with_reducible rfl) | (refine wpY_l ?_ (by (repeat (first | exact Below.refl _ _ | exact HB9.out | exact HBa.out | exact HBg.out | (refine Below.drew ?_) | (refine Below.alloc ?_ (by first | omega | (simp; done) | (simp; omega)) _) | (refine Below.setCell ?_ (by first | omega | (simp; done) | (simp; omega)) _)))) (Or.inl ⟨by rfl, fun w9 hw9 => ?_⟩) ?_; rotate_left 1; obtain ⟨hc9, hf9⟩ := bcell hw9; go_simp; with_reducible rfl) | refine wpY_w undef (Or.inr ⟨by rfl, rfl⟩) ?_ | refine wpY_l undef (by (repeat (first | exact Below.refl _ _ | exact HB9.out | exact HBa.out | exact HBg.out | (refine Below.drew ?_) | (refine Below.alloc ?_ (by first | omega | (simp; done) | (simp; omega)) _) | (refine Below.setCell ?_ (by first | omega | (simp; done) | (simp; omega)) _)))) (Or.inr ⟨by rfl, rfl⟩) ?_); go_frame)
   refine wpY_nil ?_
   simp only [OnlyN_normal]
   refine hKK _ _ ?_
   clear hKK KK
   go_wp2_with fail
   go_ret2
   exact ⟨rfl, by (repeat (first | exact Below.refl _ _ | exact HB9.out | exact HBa.out | exact HBg.out | (refine Below.drew ?_) | (refine Below.alloc ?_ (by first | omega | (simp; done) | (simp; omega)) _) | (refine Below.setCell ?_ (by first | omega | (simp; done) | (simp; omega)) _)))⟩
end Go.Proofs.YtpndmjabjjbefaaGreat
namespace Go.Proofs.YtpndmjabjjbefaaGreat
open Go.RowKit
def KB (w w' : World) : Prop := ∀ (g : Nat) (t : TypeId) (cs : Array Value), t ≠ 131 → t ≠ 23 → t ≠ 161 → t ≠ 135 → Blk w g t cs → Blk w' g t cs
theorem KB.refl (w : World) : KB w w := fun _ _ _ _ _ _ _ h => h
theorem KB.trans {a b c : World} (h : KB a b) (k : KB b c) : KB a c := fun g t cs h1 h2 h3 h4 h5 => k g t cs h1 h2 h3 h4 (h g t cs h1 h2 h3 h4 h5)
theorem KB.of_below {w w' : World} (h : Below w.heap.size w w') : KB w w' := fun _ _ _ _ _ _ _ hb => hb.new_ h
theorem blk_far {α : Type} {tSet tE size : Nat} {cells : α → List Value} {w : World} {b : Nat} {sn : Bool} {A : Option Addr} {c : Nat} {l : List α} {g : Nat} {t : TypeId} {cs : Array Value}
 (hS : SetAt tSet tE size cells w b sn A c l) (hB : Blk w g t cs) (h1 : t ≠ tSet) (h2 : t ≠ tE) : ¬ SetMod b sn A g := by
 rintro (rfl | ⟨_, a, ha, rfl⟩)
 · exact hB.ne_ hS.blk h1 rfl
 · have := own_blk_ne hS.row hB (Ne.symm h2)
   subst ha
   exact this (by simp [Value.ownBlock])
theorem KB.of_sym {w w' : World} {b : Nat} {sn : Bool} {A : Option Addr} {c : Nat} {l : List Sym} (hS : SymSet w b sn A c l) (hF : Fr (SetMod b sn A) w w') : KB w w' := fun _ _ _ h1 h2 _ _ hB => hB.fr hF (blk_far hS hB h1 h2)
theorem KB.of_page {w w' : World} {b : Nat} {sn : Bool} {A : Option Addr} {c : Nat} {l : List Page} (hS : PageSet w b sn A c l) (hF : Fr (SetMod b sn A) w w') : KB w w' := fun _ _ _ _ _ h3 h4 hB => hB.fr hF (blk_far hS hB h3 h4)
theorem SetAt.other {α β : Type} {tSet tE size tSet2 tE2 size2 : Nat} {cells : α → List Value} {cells2 : β → List Value} {w w' : World} {b b2 : Nat} {sn sn2 : Bool} {A A2 : Option Addr} {c c2 : Nat} {l : List α} {l2 : List β}
 (h : SetAt tSet tE size cells w b sn A c l) (h2 : SetAt tSet2 tE2 size2 cells2 w b2 sn2 A2 c2 l2) (n1 : tSet2 ≠ tSet) (n2 : tSet2 ≠ tE) (n3 : tE2 ≠ tSet) (n4 : tE2 ≠ tE) (hF : Fr (SetMod b sn A) w w') : SetAt tSet2 tE2 size2 cells2 w' b2 sn2 A2 c2 l2 := by
 refine h2.fr hF (blk_far h h2.blk n1 n2) ?_
 intro a ha
 rcases ownsRow_form h2.row with ⟨hv, _⟩ | ⟨g, cap, hv, _, _, hr, _⟩
 · injection hv with hv; rw [ha] at hv; cases hv
 · injection hv with hv
   rw [ha] at hv
   injection hv with hv
   subst hv
   obtain ⟨cur, hcur, _⟩ := hr
   exact blk_far h (show Blk w g tE2 cur from hcur) n3 n4
theorem Sets.other {α β : Type} {tSet tE size tSet2 tE2 size2 : Nat} {cells : α → List Value} {cells2 : β → List Value} {cmp2 : β → β → Int} {D : Nat → Prop} {w w' : World} {b : Nat} {sn : Bool} {A : Option Addr} {c : Nat} {l : List α} {S2 : Nat → Option (List β)} {σ2 : Nat → St}
 (H2 : Sets tSet2 tE2 size2 cells2 cmp2 D w S2 σ2) (h : SetAt tSet tE size cells w b sn A c l) (n1 : tSet2 ≠ tSet) (n2 : tSet2 ≠ tE) (n3 : tE2 ≠ tSet) (n4 : tE2 ≠ tE) (hF : Fr (SetMod b sn A) w w') : Sets tSet2 tE2 size2 cells2 cmp2 D w' S2 σ2 :=
 ⟨fun b' l' hb => h.other (H2.at_ b' l' hb) n1 n2 n3 n4 hF, H2.srt, H2.out, H2.apart, fun k hk => Nat.lt_of_lt_of_le (H2.low k hk) hF.size⟩
structure Tabs (D : Nat → Prop) (w : World) (S : Nat → Option (List Sym)) (σ : Nat → St) (S2 : Nat → Option (List Page)) (σ2 : Nat → St) : Prop where
 syms : SymSets D w S σ
 pages : PageSets D w S2 σ2
section
variable {D : Nat → Prop} {w w' : World} {S : Nat → Option (List Sym)} {σ : Nat → St} {S2 : Nat → Option (List Page)} {σ2 : Nat → St}
theorem Tabs.below (h : Tabs D w S σ S2 σ2) (hb : Below w.heap.size w w') : Tabs D w' S σ S2 σ2 := ⟨h.syms.below hb, h.pages.below hb⟩
theorem Tabs.protect (h : Tabs D w S σ S2 σ2) (hb : Below w.heap.size w w') : Tabs (fun k => D k ∨ (w.heap.size ≤ k ∧ k < w'.heap.size)) w' S σ S2 σ2 := ⟨h.syms.protect hb, h.pages.protect hb⟩
theorem Tabs.start (w : World) : Tabs (· < w.heap.size) w (fun _ => none) (fun _ => ⟨false, none, 0⟩) (fun _ => none) (fun _ => ⟨false, none, 0⟩) := ⟨Sets.start _ _ _ _ _ w, Sets.start _ _ _ _ _ w⟩
def Off {α : Type} (k : Nat) (S : Nat → Option (List α)) (σ : Nat → St) : Prop := ∀ b l, S b = some l → b ≠ k ∧ AIn (σ b).A (· ≠ k)
theorem Off.new_ {α : Type} {tSet tE size : Nat} {cells : α → List Value} {cmp : α → α → Int} {S : Nat → Option (List α)} (h : Sets tSet tE size cells cmp D w S σ) {k : Nat} (hk : w.heap.size ≤ k) : Off k S σ :=
 fun b l hb => ⟨by have := h.lt hb; omega, fun a ha => by have := (h.at_ b l hb).row_lt a ha; omega⟩
theorem Off.moved {α : Type} {S : Nat → Option (List α)} {k b : Nat} {l l' : List α} {st : St} (h : Off k S σ) (hb : S b = some l) (hM : Moved w (σ b).sn (σ b).A st.sn st.A) (hk : k < w.heap.size) : Off k (upd S b (some l')) (upd σ b st) := by
 intro b' m hm
 by_cases e : b' = b
 · subst e
   refine ⟨(h b' l hb).1, ?_⟩
   rw [upd_same]
   rcases hM with ⟨_, hA⟩ | ⟨_, g, hg, hA⟩
   · rw [hA]; exact (h b' l hb).2
   · rw [hA]; intro a ha; cases ha; dsimp only; omega
 · rw [upd_ne _ _ e] at hm ⊢
   exact h b' m hm
def SymStep (D : Nat → Prop) (w : World) (S : Nat → Option (List Sym)) (σ : Nat → St) (S2 : Nat → Option (List Page)) (σ2 : Nat → St) (b : Nat) (l : List Sym) (w' : World) : Prop :=
 (∃ σ', Tabs D w' (upd S b (some l)) σ' S2 σ2 ∧ ∀ k, k < w.heap.size → Off k S σ → Off k (upd S b (some l)) σ') ∧ KB w w' ∧ Fr (fun k => ¬ D k) w w' ∧ Fr (SetMod b (σ b).sn (σ b).A) w w'
def PageStep (D : Nat → Prop) (w : World) (S : Nat → Option (List Sym)) (σ : Nat → St) (S2 : Nat → Option (List Page)) (σ2 : Nat → St) (b : Nat) (m : List Page) (w' : World) : Prop :=
 (∃ σ2', Tabs D w' S σ (upd S2 b (some m)) σ2' ∧ ∀ k, k < w.heap.size → Off k S2 σ2 → Off k (upd S2 b (some m)) σ2') ∧ KB w w' ∧ Fr (fun k => ¬ D k) w w' ∧ Fr (SetMod b (σ2 b).sn (σ2 b).A) w w'
theorem Tabs.sym {b : Nat} {l l' : List Sym} {st : St} (h : Tabs D w S σ S2 σ2) (hb : S b = some l) (h1 : SymSet w' b st.sn st.A st.c l') (hs : Srt cmpSym l') (hF : Fr (SetMod b (σ b).sn (σ b).A) w w') (hM : Moved w (σ b).sn (σ b).A st.sn st.A) : SymStep D w S σ S2 σ2 b l' w' :=
 ⟨⟨upd σ b st, ⟨h.syms.moved (by decide) hb h1 hs hF hM, h.pages.other (h.syms.at_ b l hb) (by decide) (by decide) (by decide) (by decide) hF⟩, fun _ hk ho => ho.moved hb hM hk⟩, KB.of_sym (h.syms.at_ b l hb) hF, h.syms.mod hb hF, hF⟩
theorem Tabs.page {b : Nat} {m m' : List Page} {st : St} (h : Tabs D w S σ S2 σ2) (hb : S2 b = some m) (h1 : PageSet w' b st.sn st.A st.c m') (hs : Srt cmpPage m') (hF : Fr (SetMod b (σ2 b).sn (σ2 b).A) w w') (hM : Moved w (σ2 b).sn (σ2 b).A st.sn st.A) : PageStep D w S σ S2 σ2 b m' w' :=
 ⟨⟨upd σ2 b st, ⟨h.syms.other (h.pages.at_ b m hb) (by decide) (by decide) (by decide) (by decide) hF, h.pages.moved (by decide) hb h1 hs hF hM⟩, fun _ hk ho => ho.moved hb hM hk⟩, KB.of_page (h.pages.at_ b m hb) hF, h.pages.mod hb hF, hF⟩
theorem tPut_Sym {b : Nat} {l : List Sym} (x : Sym) (h : Tabs D w S σ S2 σ2) (hb : S b = some l) (hl : (l.length : Int) ≤ 100000000) :
 Calls Tryz.prog 73 #[.pointer (some ⟨b, 0, none⟩), .agg #[.int .i64 x.kind, .string x.text, .int .i64 x.n]] w fun e w' => e = .returned (.bool (!has cmpSym l x)) ∧ SymStep D w S σ S2 σ2 b (put cmpSym l x) w' := by
 refine (put_Sym b _ _ _ l x w (h.syms.at_ b l hb) (h.syms.srt b l hb) hl).mono ?_
 rintro e w' ⟨he, sn', A', c', h1, hF, hM⟩
 exact ⟨he, h.sym (st := ⟨sn', A', c'⟩) hb h1 ((h.syms.srt b l hb).put tc_sym x) hF hM⟩
theorem tPut_Page {b : Nat} {m : List Page} (x : Page) (h : Tabs D w S σ S2 σ2) (hb : S2 b = some m) (hl : (m.length : Int) ≤ 100000000) :
 Calls Tryz.prog 102 #[.pointer (some ⟨b, 0, none⟩), .agg #[.int .u8 x.kk, .int .i64 x.v]] w fun e w' => e = .returned (.bool (!has cmpPage m x)) ∧ PageStep D w S σ S2 σ2 b (put cmpPage m x) w' := by
 refine (put_Page b _ _ _ m x w (h.pages.at_ b m hb) (h.pages.srt b m hb) hl).mono ?_
 rintro e w' ⟨he, sn', A', c', h1, hF, hM⟩
 exact ⟨he, h.page (st := ⟨sn', A', c'⟩) hb h1 ((h.pages.srt b m hb).put tc_page x) hF hM⟩
theorem tDrop_Page {b : Nat} {m : List Page} (x : Page) (h : Tabs D w S σ S2 σ2) (hb : S2 b = some m) (hl : (m.length : Int) ≤ 100000000) :
 Calls Tryz.prog 128 #[.pointer (some ⟨b, 0, none⟩), .agg #[.int .u8 x.kk, .int .i64 x.v]] w fun e w' => e = .returned (.bool (has cmpPage m x)) ∧ PageStep D w S σ S2 σ2 b (drop cmpPage m x) w' := by
 refine (drop_Page b _ _ _ m x w (h.pages.at_ b m hb) (h.pages.srt b m hb) hl).mono ?_
 rintro e w' ⟨he, sn', A', c', h1, hF, hM⟩
 exact ⟨he, h.page (st := ⟨sn', A', c'⟩) hb h1 ((h.pages.srt b m hb).drop x) hF hM⟩
theorem Tabs.weaken {D' : Nat → Prop} (h : Tabs D w S σ S2 σ2) (hD : ∀ k, D' k → D k) : Tabs D' w S σ S2 σ2 := ⟨h.syms.weaken hD, h.pages.weaken hD⟩
theorem Sets.off {α : Type} {tSet tE size : Nat} {cells : α → List Value} {cmp : α → α → Int} {S : Nat → Option (List α)} (h : Sets tSet tE size cells cmp D w S σ) {k : Nat} (ho : Off k S σ) (hF : Fr (· = k) w w') : Sets tSet tE size cells cmp D w' S σ :=
 ⟨fun b l hb => (h.at_ b l hb).fr hF (ho b l hb).1 (ho b l hb).2, h.srt, h.out, h.apart, fun k hk => Nat.lt_of_lt_of_le (h.low k hk) hF.size⟩
theorem Tabs.off {k : Nat} (h : Tabs D w S σ S2 σ2) (ho : Off k S σ) (ho2 : Off k S2 σ2) (hF : Fr (· = k) w w') : Tabs D w' S σ S2 σ2 := ⟨h.syms.off ho hF, h.pages.off ho2 hF⟩
end
end Go.Proofs.YtpndmjabjjbefaaGreat
namespace Go.Proofs.YtpndmjabjjbefaaGreat
open Go.RowKit
def MapPut (D : Nat → Prop) (w : World) (S : Nat → Option (List Sym)) (σ : Nat → St) (S2 : Nat → Option (List Page)) (σ2 : Nat → St) (bp : Nat) (m : List Page) (w' : World) : Prop :=
 (∃ σ2', Tabs D w' S σ (upd S2 bp (some m)) σ2' ∧ ∀ k, k < w.heap.size → Off k S2 σ2 → Off k (upd S2 bp (some m)) σ2') ∧ KB w w' ∧ Fr (fun k => ¬ D k) w w'
set_option maxRecDepth 100000 in
set_option maxHeartbeats 4000000 in
theorem mapput_no {D : Nat → Prop} {w : World} {S : Nat → Option (List Sym)} {σ : Nat → St} {S2 : Nat → Option (List Page)} {σ2 : Nat → St} (bm bp : Nat) (m : List Page) (c : UInt8) (v : Int) (hT : Tabs D w S σ S2 σ2) (hb : S2 bp = some m) (hM : Blk w bm 137 #[.pointer (some ⟨bp, 0, none⟩)]) (hl : (m.length : Int) ≤ 1000000) (hh : has cmpPage m ⟨c, 0⟩ = false) :
 Calls Tryz.prog 105 #[.pointer (some ⟨bm, 0, none⟩), .int .u8 (c.toNat : Int), .int .i64 v] w fun e w' => e = .returned (.bool true) ∧ MapPut D w S σ S2 σ2 bp (mput m ⟨c, v⟩) w' := by
 have hS := hT.pages.at_ bp m hb
 have hs := hT.pages.srt bp m hb
 obtain ⟨sn, hsn⟩ : ∃ sn, sn = (σ2 bp).sn := ⟨_, rfl⟩
 obtain ⟨A, hA⟩ : ∃ A, A = (σ2 bp).A := ⟨_, rfl⟩
 obtain ⟨cc, hcc⟩ : ∃ cc, cc = (σ2 bp).c := ⟨_, rfl⟩
 rw [← hsn, ← hA, ← hcc] at hS
 clear hsn hA hcc
 have s0 := (hM.cell 0).trans rfl
 have hml := hM.lt
 have HS := Lib.hid hS
 have HO := Lib.hid hs
 have HM := Lib.hid hM
 have HH := Lib.hid hh
 have HT := Lib.hid hT
 have HBB := Lib.hid hb
 clear hS hs hM hh hT hb
 go_enter Tryz.func105, Tryz.ntmps105
 go_upto_region 3 with (fail)
 go_cut [8] from 11 (fun b wc => b = .bool false ∧ Below w.heap.size w wc)
 case first =>
  refine wp_region_Pl (fun w9 => Below w.heap.size w w9) [0, 1, 2, 3, 4, 7, 8, 9, 12] [3] (.fork [(0, 0), (1, 0), (2, 0), (3, 1), (4, 0)] 5 (.fork [] 6 (.fin [(7, 0), (8, 0), (9, 0), (10, 2), (11, 2), (12, 0)]) 10 (.fin [(6, 2), (7, 0), (8, 0), (9, 0), (11, 2), (12, 0)])) 10 (.fin [(5, 2), (6, 2), (7, 0), (8, 0), (9, 0), (11, 2), (12, 0)])) (by kernel_rfl) (by kernel_rfl) (by kernel_rfl) (fun KK hKK => ?_)
  simp only [wpPl, beside, List.filterMap_cons, List.filterMap_nil, List.getElem?_toArray, List.getElem?_cons_zero, List.getElem?_cons_succ, Option.map_some]
  repeat ((first | (refine wpY_w ?_ (Or.inl ⟨by rfl, fun w9 => ?_⟩) ?_; rotate_left 1; go_simp; with_reducible rfl) | (refine wpY_l ?_ ((Below.refl _ _).drew) (Or.inl ⟨by rfl, fun w9 hw9 => ?_⟩) ?_; rotate_left 1; obtain ⟨hc9, hf9⟩ := bcell hw9; go_simp; with_reducible rfl) | refine wpY_w undef (Or.inr ⟨by rfl, rfl⟩) ?_ | refine wpY_l undef ((Below.refl _ _).drew) (Or.inr ⟨by rfl, rfl⟩) ?_); go_frame)
  refine wpY_nil ⟨?_, ?_⟩
  · refine wpOp_cs rfl (fun K9 hK9 => ?_)
    go_simp
    refine (at_is c _).mono ?_
    rintro e wa ⟨rfl, hba⟩
    have HBa := Lib.hid (((Below.refl w.heap.size w).drew).trans (hba.mono (by first | omega | simp)))
    clear hba
    have hza := HBa.out.size
    refine hK9 _ _ (fun _ => HBa.out) ?_
    clear hK9 K9
    try go_frame
    try simp only [beside, List.filterMap_nil]
    refine wpY_nil ⟨?_, ?_⟩
    · refine wpOp_cs rfl (fun K9 hK9 => ?_)
      go_simp
      refine (get_no_Page bp cc sn A m ⟨c, 0⟩ _ (HS.out.new_ (HBa.out)) HO.out (by omega) HH.out).mono ?_
      rintro e wg ⟨rfl, hbg⟩
      have HBg := Lib.hid ((HBa.out).trans (hbg.mono (by have := HBa.out.size; first | omega | (simp; done) | (simp; omega))))
      clear hbg
      have hzg := HBg.out.size
      refine hK9 _ _ (fun _ => HBg.out) ?_
      clear hK9 K9
      try go_frame
      try simp only [beside, List.filterMap_nil]
      repeat ((first | (refine wpY_w ?_ (Or.inl ⟨by rfl, fun w9 => ?_⟩) ?_; rotate_left 1; go_simp; with_reducible rfl) | (refine wpY_l ?_ (HBg.out) (Or.inl ⟨by rfl, fun w9 hw9 => ?_⟩) ?_; rotate_left 1; obtain ⟨hc9, hf9⟩ := bcell hw9; go_simp; with_reducible rfl) | refine wpY_w undef (Or.inr ⟨by rfl, rfl⟩) ?_ | refine wpY_l undef (HBg.out) (Or.inr ⟨by rfl, rfl⟩) ?_); go_frame)
      refine wpY_es (fun K9 hK9 => ?_)
      go_simp
      have hB9 := (HBg.out).alloc (by have := HBg.out.size; first | omega | (simp; done) | (simp; omega)) (.cells #[.int .u8 0, .int .i64 0] 135)
      have HB9 := Lib.hid hB9
      have hk9 : Blk (wg.alloc (.cells #[.int .u8 0, .int .i64 0] 135)) wg.heap.size 135 #[.int .u8 0, .int .i64 0] := Blk.new wg 135 #[.int .u8 0, .int .i64 0]
      have HK9 := Lib.hid hk9
      clear hB9 hk9
      have hz9 := HB9.out.size
      refine hK9 _ _ (HB9.out) ?_
      clear hK9 K9
      try go_frame
      refine wpY_es (fun K9 hK9 => ?_)
      have u0 := ((HK9.out).cell 0).trans rfl
      have u1 := ((HK9.out).cell 1).trans rfl
      have f0 := (HK9.out).frozen 0
      have f1 := (HK9.out).frozen 1
      have hgl := (HK9.out).lt
      go_simp
      refine hK9 _ _ (by (repeat (first | exact Below.refl _ _ | exact HBa.out | exact HBg.out | exact HB9.out | (refine Below.drew ?_) | (refine Below.alloc ?_ (by first | omega | (simp; done) | (simp; omega)) _) | (refine Below.setCell ?_ (by first | omega | (simp; done) | (simp; omega)) _)))) ?_
      clear hK9 K9
      try go_frame
      repeat ((first | (refine wpY_w ?_ (Or.inl ⟨by rfl, fun w9 => ?_⟩) ?_; rotate_left 1; go_simp; with_reducible rfl) | (refine wpY_l ?_ (by (repeat (first | exact Below.refl _ _ | exact HBa.out | exact HBg.out | exact HB9.out | (refine Below.drew ?_) | (refine Below.alloc ?_ (by first | omega | (simp; done) | (simp; omega)) _) | (refine Below.setCell ?_ (by first | omega | (simp; done) | (simp; omega)) _)))) (Or.inl ⟨by rfl, fun w9 hw9 => ?_⟩) ?_; rotate_left 1; obtain ⟨hc9, hf9⟩ := bcell hw9; go_simp; with_reducible rfl) | refine wpY_w undef (Or.inr ⟨by rfl, rfl⟩) ?_ | refine wpY_l undef (by (repeat (first | exact Below.refl _ _ | exact HBa.out | exact HBg.out | exact HB9.out | (refine Below.drew ?_) | (refine Below.alloc ?_ (by first | omega | (simp; done) | (simp; omega)) _) | (refine Below.setCell ?_ (by first | omega | (simp; done) | (simp; omega)) _)))) (Or.inr ⟨by rfl, rfl⟩) ?_); go_frame)
      refine wpY_nil ?_
      simp only [OnlyN_normal]
      refine hKK _ _ ?_
      clear hKK KK
      go_wp2_with fail
      go_meet
      case rel => exact ⟨rfl, by (repeat (first | exact Below.refl _ _ | exact HBa.out | exact HBg.out | exact HB9.out | (refine Below.drew ?_) | (refine Below.alloc ?_ (by first | omega | (simp; done) | (simp; omega)) _) | (refine Below.setCell ?_ (by first | omega | (simp; done) | (simp; omega)) _)))⟩
    · refine wpOp_cs rfl (fun K9 hK9 => ?_)
      go_simp
      have hB9 := (HBa.out).alloc (by have := HBa.out.size; first | omega | (simp; done) | (simp; omega)) (.cells #[.int .u8 0, .int .i64 0] 135)
      have HB9 := Lib.hid hB9
      have hk9 : Blk (wa.alloc (.cells #[.int .u8 0, .int .i64 0] 135)) wa.heap.size 135 #[.int .u8 0, .int .i64 0] := Blk.new wa 135 #[.int .u8 0, .int .i64 0]
      have HK9 := Lib.hid hk9
      clear hB9 hk9
      have hz9 := HB9.out.size
      refine hK9 _ _ (fun _ => HB9.out) ?_
      clear hK9 K9
      try go_frame
      try simp only [beside, List.filterMap_nil]
      refine wpY_es (fun K9 hK9 => ?_)
      go_simp
      refine (get_no_Page bp cc sn A m ⟨c, 0⟩ _ (HS.out.new_ (HB9.out)) HO.out (by omega) HH.out).mono ?_
      rintro e wg ⟨rfl, hbg⟩
      have hkg := (HK9.out).new_ hbg
      have HKg := Lib.hid hkg
      clear hkg
      have HBg := Lib.hid ((HB9.out).trans (hbg.mono (by have := HB9.out.size; first | omega | (simp at this ⊢; done) | (simp at this ⊢; omega))))
      clear hbg
      have hzg := HBg.out.size
      refine hK9 _ _ (HBg.out) ?_
      clear hK9 K9
      try go_frame
      repeat ((first | (refine wpY_w ?_ (Or.inl ⟨by rfl, fun w9 => ?_⟩) ?_; rotate_left 1; go_simp; with_reducible rfl) | (refine wpY_l ?_ (HBg.out) (Or.inl ⟨by rfl, fun w9 hw9 => ?_⟩) ?_; rotate_left 1; obtain ⟨hc9, hf9⟩ := bcell hw9; go_simp; with_reducible rfl) | refine wpY_w undef (Or.inr ⟨by rfl, rfl⟩) ?_ | refine wpY_l undef (HBg.out) (Or.inr ⟨by rfl, rfl⟩) ?_); go_frame)
      refine wpY_es (fun K9 hK9 => ?_)
      have u0 := ((HKg.out).cell 0).trans rfl
      have u1 := ((HKg.out).cell 1).trans rfl
      have f0 := (HKg.out).frozen 0
      have f1 := (HKg.out).frozen 1
      have hgl := (HKg.out).lt
      go_simp
      refine hK9 _ _ (by (repeat (first | exact Below.refl _ _ | exact HBa.out | exact HB9.out | exact HBg.out | (refine Below.drew ?_) | (refine Below.alloc ?_ (by first | omega | (simp; done) | (simp; omega)) _) | (refine Below.setCell ?_ (by first | omega | (simp; done) | (simp; omega)) _)))) ?_
      clear hK9 K9
      try go_frame
      repeat ((first | (refine wpY_w ?_ (Or.inl ⟨by rfl, fun w9 => ?_⟩) ?_; rotate_left 1; go_simp; with_reducible rfl) | (refine wpY_l ?_ (by (repeat (first | exact Below.refl _ _ | exact HBa.out | exact HB9.out | exact HBg.out | (refine Below.drew ?_) | (refine Below.alloc ?_ (by first | omega | (simp; done) | (simp; omega)) _) | (refine Below.setCell ?_ (by first | omega | (simp; done) | (simp; omega)) _)))) (Or.inl ⟨by rfl, fun w9 hw9 => ?_⟩) ?_; rotate_left 1; obtain ⟨hc9, hf9⟩ := bcell hw9; go_simp; with_reducible rfl) | refine wpY_w undef (Or.inr ⟨by rfl, rfl⟩) ?_ | refine wpY_l undef (by (repeat (first | exact Below.refl _ _ | exact HBa.out | exact HB9.out | exact HBg.out | (refine Below.drew ?_) | (refine Below.alloc ?_ (by first | omega | (simp; done) | (simp; omega)) _) | (refine Below.setCell ?_ (by first | omega | (simp; done) | (simp; omega)) _)))) (Or.inr ⟨by rfl, rfl⟩) ?_); go_frame)
      refine wpY_nil ?_
      simp only [OnlyN_normal]
      refine hKK _ _ ?_
      clear hKK KK
      go_wp2_with fail
      go_meet
      case rel => exact ⟨rfl, by (repeat (first | exact Below.refl _ _ | exact HBa.out | exact HB9.out | exact HBg.out | (refine Below.drew ?_) | (refine Below.alloc ?_ (by first | omega | (simp; done) | (simp; omega)) _) | (refine Below.setCell ?_ (by first | omega | (simp; done) | (simp; omega)) _)))⟩
  · refine wpOp_cs rfl (fun K9 hK9 => ?_)
    go_simp
    have hB9 := ((Below.refl w.heap.size w).drew).alloc (by first | omega | simp) (.cells #[.int .u8 0, .int .i64 0] 135)
    have HB9 := Lib.hid hB9
    have hk9 : Blk (w.drew.alloc (.cells #[.int .u8 0, .int .i64 0] 135)) w.heap.size 135 #[.int .u8 0, .int .i64 0] := Blk.new w.drew 135 #[.int .u8 0, .int .i64 0]
    have HK9 := Lib.hid hk9
    clear hB9 hk9
    have hz9 := HB9.out.size
    refine hK9 _ _ (fun _ => HB9.out) ?_
    clear hK9 K9
    try go_frame
    try simp only [beside, List.filterMap_nil]
    refine wpY_es (fun K9 hK9 => ?_)
    go_simp
    refine (at_is c _).mono ?_
    rintro e wa ⟨rfl, hba⟩
    have hka := (HK9.out).new_ hba
    have HKa := Lib.hid hka
    clear hka
    have HBa := Lib.hid ((HB9.out).trans (hba.mono (by have := HB9.out.size; first | omega | (simp at this ⊢; done) | (simp at this ⊢; omega))))
    clear hba
    have hza := HBa.out.size
    refine hK9 _ _ (HBa.out) ?_
    clear hK9 K9
    try go_frame
    refine wpY_es (fun K9 hK9 => ?_)
    go_simp
    refine (get_no_Page bp cc sn A m ⟨c, 0⟩ _ (HS.out.new_ (HBa.out)) HO.out (by omega) HH.out).mono ?_
    rintro e wg ⟨rfl, hbg⟩
    have hkg := (HKa.out).new_ hbg
    have HKg := Lib.hid hkg
    clear hkg
    have HBg := Lib.hid ((HBa.out).trans (hbg.mono (by have := HBa.out.size; first | omega | (simp; done) | (simp; omega))))
    clear hbg
    have hzg := HBg.out.size
    refine hK9 _ _ (HBg.out) ?_
    clear hK9 K9
    try go_frame
    repeat ((first | (refine wpY_w ?_ (Or.inl ⟨by rfl, fun w9 => ?_⟩) ?_; rotate_left 1; go_simp; with_reducible rfl) | (refine wpY_l ?_ (HBg.out) (Or.inl ⟨by rfl, fun w9 hw9 => ?_⟩) ?_; rotate_left 1; obtain ⟨hc9, hf9⟩ := bcell hw9; go_simp; with_reducible rfl) | refine wpY_w undef (Or.inr ⟨by rfl, rfl⟩) ?_ | refine wpY_l undef (HBg.out) (Or.inr ⟨by rfl, rfl⟩) ?_); go_frame)
    refine wpY_es (fun K9 hK9 => ?_)
    have u0 := ((HKg.out).cell 0).trans rfl
    have u1 := ((HKg.out).cell 1).trans rfl
    have f0 := (HKg.out).frozen 0
    have f1 := (HKg.out).frozen 1
    have hgl := (HKg.out).lt
    go_simp
    refine hK9 _ _ (by (repeat (first | exact Below.refl _ _ | exact HB9.out | exact HBa.out | exact HBg.out | (refine Below.drew ?_) | (refine Below.alloc ?_ (by first | omega | (simp; done) | (simp; omega)) _) | (refine Below.setCell ?_ (by first | omega | (simp; done) | (simp; omega)) _)))) ?_
    clear hK9 K9
    try go_frame
    repeat ((first | (refine wpY_w ?_ (Or.inl ⟨by rfl, fun w9 => ?_⟩) ?_; rotate_left 1; go_simp; with_reducible rfl) | (refine wpY_l ?_ (by (repeat (first | exact Below.refl _ _ | exact HB9.out | exact HBa.out | exact HBg.out | (refine Below.drew ?_) | (refine Below.alloc ?_ (by first | omega | (simp; done) | (simp; omega)) _) | (refine Below.setCell ?_ (by first | omega | (simp; done) | (simp; omega)) _)))) (Or.inl ⟨by rfl, fun w9 hw9 => ?_⟩) ?_; rotate_left 1; obtain ⟨hc9, hf9⟩ := bcell hw9; go_simp; with_reducible rfl) | refine wpY_w undef (Or.inr ⟨by rfl, rfl⟩) ?_ | refine wpY_l undef (by (repeat (first | exact Below.refl _ _ | exact HB9.out | exact HBa.out | exact HBg.out | (refine Below.drew ?_) | (refine Below.alloc ?_ (by first | omega | (simp; done) | (simp; omega)) _) | (refine Below.setCell ?_ (by first | omega | (simp; done) | (simp; omega)) _)))) (Or.inr ⟨by rfl, rfl⟩) ?_); go_frame)
    refine wpY_nil ?_
    simp only [OnlyN_normal]
    refine hKK _ _ ?_
    clear hKK KK
    go_wp2_with fail
    go_meet
    case rel => exact ⟨rfl, by (repeat (first | exact Below.refl _ _ | exact HB9.out | exact HBa.out | exact HBg.out | (refine Below.drew ?_) | (refine Below.alloc ?_ (by first | omega | (simp; done) | (simp; omega)) _) | (refine Below.setCell ?_ (by first | omega | (simp; done) | (simp; omega)) _)))⟩
 case rest =>
  obtain ⟨rfl, hB⟩ := hcut
  have r0 := ((HM.out.new_ hB).cell 0).trans rfl
  have hT2 := HT.out.below hB
  have HB := Lib.hid hB
  have HT2 := Lib.hid hT2
  clear hB hT2 s0
  go_wp2_with fail
  refine (tPut_Page ⟨c, v⟩ HT2.out HBB.out (by omega)).mono ?_
  rintro e w5 ⟨rfl, hch⟩
  have HP := Lib.hid hch
  clear hch
  go_wp2_with fail
  go_ret
  have hd : drop cmpPage m ⟨c, v⟩ = m := drop_self (by
   have h1 := HH.out
   rw [has_false] at h1 ⊢
   intro y hy e
   exact h1 y hy (cmpPage_eq.2 (cmpPage_eq.1 e)))
  have hf : has cmpPage m ⟨c, v⟩ = false := by
   have h1 := HH.out
   rw [has_false] at h1 ⊢
   intro y hy e
   exact h1 y hy (cmpPage_eq.2 (cmpPage_eq.1 e))
  obtain ⟨⟨σ5, h1, h6⟩, h2, h3, _⟩ := HP.out
  refine ⟨by rw [hf] <;> rfl, ?_, (KB.of_below HB.out).trans h2, (Fr.of_new HB.out).trans h3⟩
  unfold mput
  rw [hd]
  exact ⟨σ5, h1, fun k hk ho => h6 k (Nat.lt_of_lt_of_le hk HB.out.size) ho⟩
end Go.Proofs.YtpndmjabjjbefaaGreat
namespace Go.Proofs.YtpndmjabjjbefaaGreat
open Go.RowKit
theorem drop_key {m : List Page} {x y : Page} (h : x.key = y.key) : drop cmpPage m x = drop cmpPage m y := by
 unfold drop
 apply List.filter_congr
 intro z _
 have e : cmpPage z x = cmpPage z y := by unfold cmpPage Page.kk; rw [h]
 rw [e]
set_option maxRecDepth 100000 in
set_option maxHeartbeats 4000000 in
theorem mapput_is {D : Nat → Prop} {w : World} {S : Nat → Option (List Sym)} {σ : Nat → St} {S2 : Nat → Option (List Page)} {σ2 : Nat → St} (bm bp : Nat) (m : List Page) (c : UInt8) (v : Int) (y : Page) (hT : Tabs D w S σ S2 σ2) (hb : S2 bp = some m) (hM : Blk w bm 137 #[.pointer (some ⟨bp, 0, none⟩)]) (hl : (m.length : Int) ≤ 1000000) (hh : has cmpPage m ⟨c, 0⟩ = true) (hy : m[rank cmpPage m ⟨c, 0⟩]? = some y) (hyc : y.key = c) :
 Calls Tryz.prog 105 #[.pointer (some ⟨bm, 0, none⟩), .int .u8 (c.toNat : Int), .int .i64 v] w fun e w' => e = .returned (.bool false) ∧ MapPut D w S σ S2 σ2 bp (mput m ⟨c, v⟩) w' := by
 have hS := hT.pages.at_ bp m hb
 have hs := hT.pages.srt bp m hb
 have hA0 := hS.row_lt
 have hbp := hS.lt
 obtain ⟨sn, hsn⟩ : ∃ sn, sn = (σ2 bp).sn := ⟨_, rfl⟩
 obtain ⟨A, hA⟩ : ∃ A, A = (σ2 bp).A := ⟨_, rfl⟩
 obtain ⟨cc, hcc⟩ : ∃ cc, cc = (σ2 bp).c := ⟨_, rfl⟩
 rw [← hsn, ← hA, ← hcc] at hS
 clear hsn hA hcc
 have s0 := (hM.cell 0).trans rfl
 have hml := hM.lt
 have HS := Lib.hid hS
 have HO := Lib.hid hs
 have HM := Lib.hid hM
 have HH := Lib.hid hh
 have HT := Lib.hid hT
 have HBB := Lib.hid hb
 have HY := Lib.hid hy
 have HYC := Lib.hid hyc
 have HA0 := Lib.hid hA0
 clear hS hs hM hh hT hb hy hyc hA0
 go_enter Tryz.func105, Tryz.ntmps105
 go_upto_region 3 with (fail)
 go_cut [7, 8] from 11 (fun p b wc => b = .bool true ∧ Below w.heap.size w wc ∧ ∃ g, p = .pointer (some ⟨g, 0, none⟩) ∧ w.heap.size ≤ g ∧ g < wc.heap.size ∧ wc.cell? ⟨g, 0, none⟩ = some (.int .u8 y.kk) ∧ wc.cell? ⟨g, 1, none⟩ = some (.int .i64 y.v))
 case first =>
  refine wp_region_Pl (fun w9 => Below w.heap.size w w9) [0, 1, 2, 3, 4, 7, 8, 9, 12] [3] (.fork [(0, 0), (1, 0), (2, 0), (3, 1), (4, 0)] 5 (.fork [] 6 (.fin [(7, 0), (8, 0), (9, 0), (10, 2), (11, 2), (12, 0)]) 10 (.fin [(6, 2), (7, 0), (8, 0), (9, 0), (11, 2), (12, 0)])) 10 (.fin [(5, 2), (6, 2), (7, 0), (8, 0), (9, 0), (11, 2), (12, 0)])) (by kernel_rfl) (by kernel_rfl) (by kernel_rfl) (fun KK hKK => ?_)
  simp only [wpPl, beside, List.filterMap_cons, List.filterMap_nil, List.getElem?_toArray, List.getElem?_cons_zero, List.getElem?_cons_succ, Option.map_some]
  repeat ((first | (refine wpY_w ?_ (Or.inl ⟨by rfl, fun w9 => ?_⟩) ?_; rotate_left 1; go_simp; with_reducible rfl) | (refine wpY_l ?_ ((Below.refl _ _).drew) (Or.inl ⟨by rfl, fun w9 hw9 => ?_⟩) ?_; rotate_left 1; obtain ⟨hc9, hf9⟩ := bcell hw9; go_simp; with_reducible rfl) | refine wpY_w undef (Or.inr ⟨by rfl, rfl⟩) ?_ | refine wpY_l undef ((Below.refl _ _).drew) (Or.inr ⟨by rfl, rfl⟩) ?_); go_frame)
  refine wpY_nil ⟨?_, ?_⟩
  · refine wpOp_cs rfl (fun K9 hK9 => ?_)
    go_simp
    refine (at_is c _).mono ?_
    rintro e wa ⟨rfl, hba⟩
    have HBa := Lib.hid (((Below.refl w.heap.size w).drew).trans (hba.mono (by first | omega | simp)))
    clear hba
    have hza := HBa.out.size
    refine hK9 _ _ (fun _ => HBa.out) ?_
    clear hK9 K9
    try go_frame
    try simp only [beside, List.filterMap_nil]
    refine wpY_nil ⟨?_, ?_⟩
    · refine wpOp_cs rfl (fun K9 hK9 => ?_)
      go_simp
      refine (get_is_Page bp cc sn A m ⟨c, 0⟩ y _ (HS.out.new_ (HBa.out)) HO.out (by omega) HH.out HY.out).mono ?_
      rintro e wg ⟨rfl, hbg⟩
      have HBg := Lib.hid ((HBa.out).trans (hbg.mono (by have := HBa.out.size; first | omega | (simp; done) | (simp; omega))))
      clear hbg
      have hzg := HBg.out.size
      refine hK9 _ _ (fun _ => HBg.out) ?_
      clear hK9 K9
      try go_frame
      try simp only [beside, List.filterMap_nil]
      repeat ((first | (refine wpY_w ?_ (Or.inl ⟨by rfl, fun w9 => ?_⟩) ?_; rotate_left 1; go_simp; with_reducible rfl) | (refine wpY_l ?_ (HBg.out) (Or.inl ⟨by rfl, fun w9 hw9 => ?_⟩) ?_; rotate_left 1; obtain ⟨hc9, hf9⟩ := bcell hw9; go_simp; with_reducible rfl) | refine wpY_w undef (Or.inr ⟨by rfl, rfl⟩) ?_ | refine wpY_l undef (HBg.out) (Or.inr ⟨by rfl, rfl⟩) ?_); go_frame)
      refine wpY_es (fun K9 hK9 => ?_)
      go_simp
      have hB9 := (HBg.out).alloc (by have := HBg.out.size; first | omega | (simp; done) | (simp; omega)) (.cells #[.int .u8 0, .int .i64 0] 135)
      have HB9 := Lib.hid hB9
      have hk9 : Blk (wg.alloc (.cells #[.int .u8 0, .int .i64 0] 135)) wg.heap.size 135 #[.int .u8 0, .int .i64 0] := Blk.new wg 135 #[.int .u8 0, .int .i64 0]
      have HK9 := Lib.hid hk9
      clear hB9 hk9
      have hz9 := HB9.out.size
      refine hK9 _ _ (HB9.out) ?_
      clear hK9 K9
      try go_frame
      refine wpY_es (fun K9 hK9 => ?_)
      have u0 := ((HK9.out).cell 0).trans rfl
      have u1 := ((HK9.out).cell 1).trans rfl
      have f0 := (HK9.out).frozen 0
      have f1 := (HK9.out).frozen 1
      have hgl := (HK9.out).lt
      go_simp
      refine hK9 _ _ (by (repeat (first | exact Below.refl _ _ | exact HBa.out | exact HBg.out | exact HB9.out | (refine Below.drew ?_) | (refine Below.alloc ?_ (by first | omega | (simp; done) | (simp; omega)) _) | (refine Below.setCell ?_ (by first | omega | (simp; done) | (simp; omega)) _)))) ?_
      clear hK9 K9
      try go_frame
      repeat ((first | (refine wpY_w ?_ (Or.inl ⟨by rfl, fun w9 => ?_⟩) ?_; rotate_left 1; go_simp; with_reducible rfl) | (refine wpY_l ?_ (by (repeat (first | exact Below.refl _ _ | exact HBa.out | exact HBg.out | exact HB9.out | (refine Below.drew ?_) | (refine Below.alloc ?_ (by first | omega | (simp; done) | (simp; omega)) _) | (refine Below.setCell ?_ (by first | omega | (simp; done) | (simp; omega)) _)))) (Or.inl ⟨by rfl, fun w9 hw9 => ?_⟩) ?_; rotate_left 1; obtain ⟨hc9, hf9⟩ := bcell hw9; go_simp; with_reducible rfl) | refine wpY_w undef (Or.inr ⟨by rfl, rfl⟩) ?_ | refine wpY_l undef (by (repeat (first | exact Below.refl _ _ | exact HBa.out | exact HBg.out | exact HB9.out | (refine Below.drew ?_) | (refine Below.alloc ?_ (by first | omega | (simp; done) | (simp; omega)) _) | (refine Below.setCell ?_ (by first | omega | (simp; done) | (simp; omega)) _)))) (Or.inr ⟨by rfl, rfl⟩) ?_); go_frame)
      refine wpY_nil ?_
      simp only [OnlyN_normal]
      refine hKK _ _ ?_
      clear hKK KK
      go_wp2_with fail
      go_meet
      case rel => exact ⟨rfl, by (repeat (first | exact Below.refl _ _ | exact HBa.out | exact HBg.out | exact HB9.out | (refine Below.drew ?_) | (refine Below.alloc ?_ (by first | omega | (simp; done) | (simp; omega)) _) | (refine Below.setCell ?_ (by first | omega | (simp; done) | (simp; omega)) _))), _, rfl, by first | exact hzg | exact hza | omega | simp, by first | (simp; done) | (simp; omega), by first | (simp; done) | (go_simp; done) | (go_simp; rfl), by first | (simp; done) | (go_simp; done) | (go_simp; rfl)⟩
    · refine wpOp_cs rfl (fun K9 hK9 => ?_)
      go_simp
      have hB9 := (HBa.out).alloc (by have := HBa.out.size; first | omega | (simp; done) | (simp; omega)) (.cells #[.int .u8 0, .int .i64 0] 135)
      have HB9 := Lib.hid hB9
      have hk9 : Blk (wa.alloc (.cells #[.int .u8 0, .int .i64 0] 135)) wa.heap.size 135 #[.int .u8 0, .int .i64 0] := Blk.new wa 135 #[.int .u8 0, .int .i64 0]
      have HK9 := Lib.hid hk9
      clear hB9 hk9
      have hz9 := HB9.out.size
      refine hK9 _ _ (fun _ => HB9.out) ?_
      clear hK9 K9
      try go_frame
      try simp only [beside, List.filterMap_nil]
      refine wpY_es (fun K9 hK9 => ?_)
      go_simp
      refine (get_is_Page bp cc sn A m ⟨c, 0⟩ y _ (HS.out.new_ (HB9.out)) HO.out (by omega) HH.out HY.out).mono ?_
      rintro e wg ⟨rfl, hbg⟩
      have hkg := (HK9.out).new_ hbg
      have HKg := Lib.hid hkg
      clear hkg
      have HBg := Lib.hid ((HB9.out).trans (hbg.mono (by have := HB9.out.size; first | omega | (simp at this ⊢; done) | (simp at this ⊢; omega))))
      clear hbg
      have hzg := HBg.out.size
      refine hK9 _ _ (HBg.out) ?_
      clear hK9 K9
      try go_frame
      repeat ((first | (refine wpY_w ?_ (Or.inl ⟨by rfl, fun w9 => ?_⟩) ?_; rotate_left 1; go_simp; with_reducible rfl) | (refine wpY_l ?_ (HBg.out) (Or.inl ⟨by rfl, fun w9 hw9 => ?_⟩) ?_; rotate_left 1; obtain ⟨hc9, hf9⟩ := bcell hw9; go_simp; with_reducible rfl) | refine wpY_w undef (Or.inr ⟨by rfl, rfl⟩) ?_ | refine wpY_l undef (HBg.out) (Or.inr ⟨by rfl, rfl⟩) ?_); go_frame)
      refine wpY_es (fun K9 hK9 => ?_)
      have u0 := ((HKg.out).cell 0).trans rfl
      have u1 := ((HKg.out).cell 1).trans rfl
      have f0 := (HKg.out).frozen 0
      have f1 := (HKg.out).frozen 1
      have hgl := (HKg.out).lt
      go_simp
      refine hK9 _ _ (by (repeat (first | exact Below.refl _ _ | exact HBa.out | exact HB9.out | exact HBg.out | (refine Below.drew ?_) | (refine Below.alloc ?_ (by first | omega | (simp; done) | (simp; omega)) _) | (refine Below.setCell ?_ (by first | omega | (simp; done) | (simp; omega)) _)))) ?_
      clear hK9 K9
      try go_frame
      repeat ((first | (refine wpY_w ?_ (Or.inl ⟨by rfl, fun w9 => ?_⟩) ?_; rotate_left 1; go_simp; with_reducible rfl) | (refine wpY_l ?_ (by (repeat (first | exact Below.refl _ _ | exact HBa.out | exact HB9.out | exact HBg.out | (refine Below.drew ?_) | (refine Below.alloc ?_ (by first | omega | (simp; done) | (simp; omega)) _) | (refine Below.setCell ?_ (by first | omega | (simp; done) | (simp; omega)) _)))) (Or.inl ⟨by rfl, fun w9 hw9 => ?_⟩) ?_; rotate_left 1; obtain ⟨hc9, hf9⟩ := bcell hw9; go_simp; with_reducible rfl) | refine wpY_w undef (Or.inr ⟨by rfl, rfl⟩) ?_ | refine wpY_l undef (by (repeat (first | exact Below.refl _ _ | exact HBa.out | exact HB9.out | exact HBg.out | (refine Below.drew ?_) | (refine Below.alloc ?_ (by first | omega | (simp; done) | (simp; omega)) _) | (refine Below.setCell ?_ (by first | omega | (simp; done) | (simp; omega)) _)))) (Or.inr ⟨by rfl, rfl⟩) ?_); go_frame)
      refine wpY_nil ?_
      simp only [OnlyN_normal]
      refine hKK _ _ ?_
      clear hKK KK
      go_wp2_with fail
      go_meet
      case rel => exact ⟨rfl, by (repeat (first | exact Below.refl _ _ | exact HBa.out | exact HB9.out | exact HBg.out | (refine Below.drew ?_) | (refine Below.alloc ?_ (by first | omega | (simp; done) | (simp; omega)) _) | (refine Below.setCell ?_ (by first | omega | (simp; done) | (simp; omega)) _))), _, rfl, by first | exact hzg | exact hza | omega | simp, by first | (simp; done) | (simp; omega), by first | (simp; done) | (go_simp; done) | (go_simp; rfl), by first | (simp; done) | (go_simp; done) | (go_simp; rfl)⟩
  · refine wpOp_cs rfl (fun K9 hK9 => ?_)
    go_simp
    have hB9 := ((Below.refl w.heap.size w).drew).alloc (by first | omega | simp) (.cells #[.int .u8 0, .int .i64 0] 135)
    have HB9 := Lib.hid hB9
    have hk9 : Blk (w.drew.alloc (.cells #[.int .u8 0, .int .i64 0] 135)) w.heap.size 135 #[.int .u8 0, .int .i64 0] := Blk.new w.drew 135 #[.int .u8 0, .int .i64 0]
    have HK9 := Lib.hid hk9
    clear hB9 hk9
    have hz9 := HB9.out.size
    refine hK9 _ _ (fun _ => HB9.out) ?_
    clear hK9 K9
    try go_frame
    try simp only [beside, List.filterMap_nil]
    refine wpY_es (fun K9 hK9 => ?_)
    go_simp
    refine (at_is c _).mono ?_
    rintro e wa ⟨rfl, hba⟩
    have hka := (HK9.out).new_ hba
    have HKa := Lib.hid hka
    clear hka
    have HBa := Lib.hid ((HB9.out).trans (hba.mono (by have := HB9.out.size; first | omega | (simp at this ⊢; done) | (simp at this ⊢; omega))))
    clear hba
    have hza := HBa.out.size
    refine hK9 _ _ (HBa.out) ?_
    clear hK9 K9
    try go_frame
    refine wpY_es (fun K9 hK9 => ?_)
    go_simp
    refine (get_is_Page bp cc sn A m ⟨c, 0⟩ y _ (HS.out.new_ (HBa.out)) HO.out (by omega) HH.out HY.out).mono ?_
    rintro e wg ⟨rfl, hbg⟩
    have hkg := (HKa.out).new_ hbg
    have HKg := Lib.hid hkg
    clear hkg
    have HBg := Lib.hid ((HBa.out).trans (hbg.mono (by have := HBa.out.size; first | omega | (simp; done) | (simp; omega))))
    clear hbg
    have hzg := HBg.out.size
    refine hK9 _ _ (HBg.out) ?_
    clear hK9 K9
    try go_frame
    repeat ((first | (refine wpY_w ?_ (Or.inl ⟨by rfl, fun w9 => ?_⟩) ?_; rotate_left 1; go_simp; with_reducible rfl) | (refine wpY_l ?_ (HBg.out) (Or.inl ⟨by rfl, fun w9 hw9 => ?_⟩) ?_; rotate_left 1; obtain ⟨hc9, hf9⟩ := bcell hw9; go_simp; with_reducible rfl) | refine wpY_w undef (Or.inr ⟨by rfl, rfl⟩) ?_ | refine wpY_l undef (HBg.out) (Or.inr ⟨by rfl, rfl⟩) ?_); go_frame)
    refine wpY_es (fun K9 hK9 => ?_)
    have u0 := ((HKg.out).cell 0).trans rfl
    have u1 := ((HKg.out).cell 1).trans rfl
    have f0 := (HKg.out).frozen 0
    have f1 := (HKg.out).frozen 1
    have hgl := (HKg.out).lt
    go_simp
    refine hK9 _ _ (by (repeat (first | exact Below.refl _ _ | exact HB9.out | exact HBa.out | exact HBg.out | (refine Below.drew ?_) | (refine Below.alloc ?_ (by first | omega | (simp; done) | (simp; omega)) _) | (refine Below.setCell ?_ (by first | omega | (simp; done) | (simp; omega)) _)))) ?_
    clear hK9 K9
    try go_frame
    repeat ((first | (refine wpY_w ?_ (Or.inl ⟨by rfl, fun w9 => ?_⟩) ?_; rotate_left 1; go_simp; with_reducible rfl) | (refine wpY_l ?_ (by (repeat (first | exact Below.refl _ _ | exact HB9.out | exact HBa.out | exact HBg.out | (refine Below.drew ?_) | (refine Below.alloc ?_ (by first | omega | (simp; done) | (simp; omega)) _) | (refine Below.setCell ?_ (by first | omega | (simp; done) | (simp; omega)) _)))) (Or.inl ⟨by rfl, fun w9 hw9 => ?_⟩) ?_; rotate_left 1; obtain ⟨hc9, hf9⟩ := bcell hw9; go_simp; with_reducible rfl) | refine wpY_w undef (Or.inr ⟨by rfl, rfl⟩) ?_ | refine wpY_l undef (by (repeat (first | exact Below.refl _ _ | exact HB9.out | exact HBa.out | exact HBg.out | (refine Below.drew ?_) | (refine Below.alloc ?_ (by first | omega | (simp; done) | (simp; omega)) _) | (refine Below.setCell ?_ (by first | omega | (simp; done) | (simp; omega)) _)))) (Or.inr ⟨by rfl, rfl⟩) ?_); go_frame)
    refine wpY_nil ?_
    simp only [OnlyN_normal]
    refine hKK _ _ ?_
    clear hKK KK
    go_wp2_with fail
    go_meet
    case rel => exact ⟨rfl, by (repeat (first | exact Below.refl _ _ | exact HB9.out | exact HBa.out | exact HBg.out | (refine Below.drew ?_) | (refine Below.alloc ?_ (by first | omega | (simp; done) | (simp; omega)) _) | (refine Below.setCell ?_ (by first | omega | (simp; done) | (simp; omega)) _))), _, rfl, by first | exact hzg | exact hza | omega | simp, by first | (simp; done) | (simp; omega), by first | (simp; done) | (go_simp; done) | (go_simp; rfl), by first | (simp; done) | (go_simp; done) | (go_simp; rfl)⟩
 case rest =>
  obtain ⟨rfl, hB, g, rfl, hg, hgl, q0, q1⟩ := hcut
  have hMc := HM.out.new_ hB
  have r0 := (hMc.cell 0).trans rfl
  have hml2 := hMc.lt
  have hT2 := HT.out.below hB
  have HMc := Lib.hid hMc
  have HB := Lib.hid hB
  have HT2 := Lib.hid hT2
  clear hB hT2 s0 hMc
  go_wp2_with fail
  refine wp_region_E (fun w9 => Below wc.heap.size wc w9) [(0, 0), (1, 0), (2, 0), (3, 1), (4, 1), (5, 2)] (by kernel_rfl) (by kernel_rfl) (fun KK hKK => ?_)
  simp only [beside, List.filterMap_cons, List.filterMap_nil, List.getElem?_toArray, List.getElem?_cons_zero, List.getElem?_cons_succ, Option.map_some]
  repeat ((first | (refine wpX_w ?_ (Or.inl ⟨by rfl, fun w9 => ?_⟩) ?_; rotate_left 1; go_simp; with_reducible rfl) | (refine wpX_l ?_ (((Below.refl _ _).drew)) (Or.inl ⟨by rfl, fun w9 hw9 => ?_⟩) ?_; rotate_left 1; obtain ⟨hc9, hf9⟩ := bcell hw9; go_simp; with_reducible rfl) | refine wpX_w undef (Or.inr ⟨by rfl, rfl⟩) ?_ | refine wpX_l undef (((Below.refl _ _).drew)) (Or.inr ⟨by rfl, rfl⟩) ?_); go_frame)
  refine wpX_e (by kernel_rfl) (fun K9 hK9 => ?_)
  go_simp
  refine (tDrop_Page y (HT2.out.below ((Below.refl _ _).drew)) HBB.out (by omega)).mono ?_
  rintro e w5 ⟨rfl, hch⟩
  have HP := Lib.hid hch
  obtain ⟨_, _, _, hM5⟩ := hch
  have hng : ¬ SetMod bp (σ2 bp).sn (σ2 bp).A g := (by
   rintro (h | ⟨_, a, ha, h⟩)
   · omega
   · have := HA0.out a ha; omega)
  have p0 := (hM5.cell (p := ⟨g, 0, none⟩) hgl hng).trans q0
  have p1 := (hM5.cell (p := ⟨g, 1, none⟩) hgl hng).trans q1
  have hMd := HP.out.2.1 bm _ _ (by decide) (by decide) (by decide) (by decide) HMc.out.drew
  have t0 := (hMd.cell 0).trans rfl
  have hl5 := hM5.size
  have hgl5 : g < w5.heap.size := (by have := hl5; simp at this; omega)
  have hml5 : bm < w5.heap.size := hMd.lt
  obtain ⟨σ5, hT5, hO5⟩ := HP.out.1
  have HT5 := Lib.hid hT5
  have HO5 := Lib.hid hO5
  clear hM5 hng q0 q1 r0 hMd hT5 hl5 hO5
  refine hK9 _ _ ?_
  clear hK9 K9
  refine wpX_nil ?_
  simp only [OnlyN_normal]
  refine hKK _ _ ?_
  clear hKK KK
  go_wp2_with fail
  refine wp_region_E (fun w9 => Below w5.heap.size w5 w9) [(0, 0), (1, 0), (2, 0), (3, 1), (4, 0), (5, 1), (6, 0), (7, 0), (8, 2)] (by kernel_rfl) (by kernel_rfl) (fun KK hKK => ?_)
  simp only [beside, List.filterMap_cons, List.filterMap_nil, List.getElem?_toArray, List.getElem?_cons_zero, List.getElem?_cons_succ, Option.map_some]
  repeat ((first | (refine wpX_w ?_ (Or.inl ⟨by rfl, fun w9 => ?_⟩) ?_; rotate_left 1; go_simp; with_reducible rfl) | (refine wpX_l ?_ (((Below.refl _ _).drew)) (Or.inl ⟨by rfl, fun w9 hw9 => ?_⟩) ?_; rotate_left 1; obtain ⟨hc9, hf9⟩ := bcell hw9; go_simp; with_reducible rfl) | refine wpX_w undef (Or.inr ⟨by rfl, rfl⟩) ?_ | refine wpX_l undef (((Below.refl _ _).drew)) (Or.inr ⟨by rfl, rfl⟩) ?_); go_frame)
  refine wpX_e (by kernel_rfl) (fun K9 hK9 => ?_)
  go_simp
  refine (tPut_Page ⟨y.key, v⟩ (HT5.out.below ((Below.refl _ _).drew)) (upd_same _ _ _) (by have := length_drop_le (cmp := cmpPage) m y; omega)).mono ?_
  rintro e w6 ⟨rfl, hch⟩
  have HP2 := Lib.hid hch
  clear hch
  refine hK9 _ _ ?_
  clear hK9 K9
  refine wpX_nil ?_
  simp only [OnlyN_normal]
  refine hKK _ _ ?_
  clear hKK KK
  go_wp2_with fail
  go_ret
  obtain ⟨⟨σ6, h1, h6⟩, h2, h3, _⟩ := HP2.out
  obtain ⟨_, h4, h5, _⟩ := HP.out
  have hz5 := HB.out.size
  have hz6 := h5.size
  have h7 : ∀ k, k < w.heap.size → Off k S2 σ2 → Off k (upd (upd S2 bp (some (drop cmpPage m y))) bp (some (put cmpPage (drop cmpPage m y) ⟨y.key, v⟩))) σ6 := fun k hk ho => h6 k (by simp at hz6 ⊢; omega) (HO5.out k (by simp; omega) ho)
  refine ⟨rfl, ?_, ((KB.of_below HB.out).trans h4).trans h2, (((Fr.of_new HB.out).trans ((Fr.refl _ wc).drew.trans h5)).trans ((Fr.refl _ w5).drew.trans h3))⟩
  have e1 : drop cmpPage m y = drop cmpPage m ⟨c, v⟩ := drop_key HYC.out
  have e2 : (⟨y.key, v⟩ : Page) = ⟨c, v⟩ := by rw [HYC.out]
  rw [upd_upd, e1, e2] at h1 h7
  exact ⟨σ6, h1, h7⟩
theorem mapput {D : Nat → Prop} {w : World} {S : Nat → Option (List Sym)} {σ : Nat → St} {S2 : Nat → Option (List Page)} {σ2 : Nat → St} (bm bp : Nat) (m : List Page) (c : UInt8) (v : Int) (hT : Tabs D w S σ S2 σ2) (hb : S2 bp = some m) (hM : Blk w bm 137 #[.pointer (some ⟨bp, 0, none⟩)]) (hl : (m.length : Int) ≤ 1000000) :
 Calls Tryz.prog 105 #[.pointer (some ⟨bm, 0, none⟩), .int .u8 (c.toNat : Int), .int .i64 v] w fun e w' => (∃ r, e = .returned (.bool r)) ∧ MapPut D w S σ S2 σ2 bp (mput m ⟨c, v⟩) w' := by
 cases hh : has cmpPage m ⟨c, 0⟩
 · exact (mapput_no bm bp m c v hT hb hM hl hh).mono fun _ _ ⟨h1, h2⟩ => ⟨⟨_, h1⟩, h2⟩
 · obtain ⟨y, hy, hyc, _⟩ := found_page (hT.pages.srt bp m hb) hh
   exact (mapput_is bm bp m c v y hT hb hM hl hh hy hyc).mono fun _ _ ⟨h1, h2⟩ => ⟨⟨_, h1⟩, h2⟩
end Go.Proofs.YtpndmjabjjbefaaGreat
namespace Go.Proofs.YtpndmjabjjbefaaGreat
open Go.RowKit
structure TB where
 b : Nat
 room : Int
 bs : Nat
 bm : Nat
 bp : Nat
def TabBlk (w : World) (T : TB) : Prop := Blk w T.b 111 #[.int .i64 T.room, .pointer (some ⟨T.bs, 0, none⟩), .pointer (some ⟨T.bm, 0, none⟩)] ∧ Blk w T.bm 137 #[.pointer (some ⟨T.bp, 0, none⟩)]
theorem TabBlk.kb {w w' : World} {T : TB} (h : TabBlk w T) (hk : KB w w') : TabBlk w' T := ⟨hk _ _ _ (by decide) (by decide) (by decide) (by decide) h.1, hk _ _ _ (by decide) (by decide) (by decide) (by decide) h.2⟩
theorem TabBlk.below {w w' : World} {T : TB} (h : TabBlk w T) (hk : Below w.heap.size w w') : TabBlk w' T := ⟨h.1.new_ hk, h.2.new_ hk⟩
section
variable {D : Nat → Prop} {w : World} {S : Nat → Option (List Sym)} {σ : Nat → St} {S2 : Nat → Option (List Page)} {σ2 : Nat → St}
def nextB (m : List Page) (c : UInt8) : Int := if greatB c = true then (mget m c).getD 1 else 0
set_option maxHeartbeats 1000000 in
theorem next_is (T : TB) (m : List Page) (c : UInt8) (hT : Tabs D w S σ S2 σ2) (hB : TabBlk w T) (hb : S2 T.bp = some m) (hl : (m.length : Int) ≤ 1000000) :
 Calls Tryz.prog 78 #[.pointer (some ⟨T.b, 0, none⟩), .int .u8 (c.toNat : Int)] w fun e w' => e = .returned (.int .i64 (nextB m c)) ∧ Below w.heap.size w w' := by
 have hS := hT.pages.at_ T.bp m hb
 have hs := hT.pages.srt T.bp m hb
 have HS := Lib.hid hS
 have HO := Lib.hid hs
 have HB := Lib.hid hB
 have s2 := (hB.1.cell 2).trans rfl
 clear hT hB hb hS hs
 cases hg : greatB c
 · have HN : Hid (nextB m c = 0) := Lib.hid (by unfold nextB; rw [hg]; rfl)
   go_enter Tryz.func78, Tryz.ntmps78
   go_wp2_with (go_at_call 77; refine (great_is _ _).mono ?_; rintro e w' ⟨rfl, rfl⟩)
   go_ret
   exact ⟨by rw [HN.out] <;> rfl, Below.refl _ _⟩
 · cases hh : has cmpPage m ⟨c, 0⟩
   · have HN : Hid (nextB m c = 1) := Lib.hid (by unfold nextB; rw [hg, mget_none hh]; rfl)
     have HH := Lib.hid hh
     clear hh
     go_enter Tryz.func78, Tryz.ntmps78
     go_wp2_with (first | (go_at_call 77; refine (great_is _ _).mono ?_; rintro e w' ⟨rfl, rfl⟩) | (go_at_call 104; refine (mapget_no T.bm T.bp _ _ _ m c _ HB.out.2 HS.out HO.out hl HH.out).mono ?_; rintro e w' ⟨rfl, hb1⟩))
     go_ret
     exact ⟨by rw [HN.out] <;> rfl, hb1⟩
   · obtain ⟨y, hy, _, hm⟩ := found_page HO.out hh
     have HN : Hid (nextB m c = y.v) := Lib.hid (by unfold nextB; rw [hg, hm]; rfl)
     have HH := Lib.hid hh
     have HY := Lib.hid hy
     clear hh hy hm
     go_enter Tryz.func78, Tryz.ntmps78
     go_wp2_with (first | (go_at_call 77; refine (great_is _ _).mono ?_; rintro e w' ⟨rfl, rfl⟩) | (go_at_call 104; refine (mapget_is T.bm T.bp _ _ _ m c y _ HB.out.2 HS.out HO.out hl HH.out HY.out).mono ?_; rintro e w' ⟨rfl, hb1⟩))
     go_ret
     exact ⟨by rw [HN.out] <;> rfl, hb1⟩
end
end Go.Proofs.YtpndmjabjjbefaaGreat
namespace Go.Proofs.YtpndmjabjjbefaaGreat
open Go.RowKit
def idc (t : ByteArray) : UInt8 := t.data.toList.headD 0
theorem idc_eq {t : ByteArray} (h : 0 < t.size) : idc t = t[0] := by
 obtain ⟨r, hr⟩ : ∃ r, t.data.toList = t[0] :: r := by
  have hs : t.data.toList.length = t.size := Array.length_toList
  refine ⟨t.data.toList.drop 1, ?_⟩
  have e : t[0] = t.data.toList[0]'(by omega) := by rw [Array.getElem_toList]; rfl
  rw [e, List.getElem_cons_drop, List.drop_zero]
 unfold idc
 rw [hr]; rfl
def tputM (m : List Page) (s : Sym) : List Page := if s.kind = 1 ∧ nextB m (idc s.text) ≤ s.n then mput m ⟨idc s.text, s.n + 1⟩ else m
def TabPut (D : Nat → Prop) (w : World) (S : Nat → Option (List Sym)) (σ : Nat → St) (S2 : Nat → Option (List Page)) (σ2 : Nat → St) (T : TB) (l : List Sym) (m : List Page) (w' : World) : Prop :=
 (∃ σ' σ2', Tabs D w' (upd S T.bs (some l)) σ' (upd S2 T.bp (some m)) σ2' ∧ ∀ k, k < w.heap.size → Off k S σ → Off k S2 σ2 → Off k (upd S T.bs (some l)) σ' ∧ Off k (upd S2 T.bp (some m)) σ2') ∧ KB w w' ∧ Fr (fun k => ¬ D k) w w'
section
variable {D : Nat → Prop} {w : World} {S : Nat → Option (List Sym)} {σ : Nat → St} {S2 : Nat → Option (List Page)} {σ2 : Nat → St}
theorem Tabs.noop {b : Nat} {m : List Page} (h : Tabs D w S σ S2 σ2) (hb : S2 b = some m) : Tabs D w S σ (upd S2 b (some m)) σ2 := by rw [upd_id _ _ _ hb]; exact h
set_option maxRecDepth 100000 in
set_option maxHeartbeats 4000000 in
theorem tabput_other (T : TB) (l : List Sym) (m : List Page) (k : Int) (t : ByteArray) (n : Int) (hT : Tabs D w S σ S2 σ2) (hB : TabBlk w T) (hb : S T.bs = some l) (hb2 : S2 T.bp = some m) (hk : ¬ k = 1) (hl : (l.length : Int) ≤ 1000000) (hl2 : (m.length : Int) ≤ 1000000) :
 Calls Tryz.prog 80 #[.pointer (some ⟨T.b, 0, none⟩), .agg #[.int .i64 k, .string t, .int .i64 n]] w fun e w' => e = .returned (.tuple #[]) ∧ TabPut D w S σ S2 σ2 T (put cmpSym l ⟨k, t, n⟩) m w' := by
 have hA0 := (hT.syms.at_ T.bs l hb).row_lt
 have hbs := (hT.syms.at_ T.bs l hb).lt
 have HT := Lib.hid hT
 have HB := Lib.hid hB
 have HS := Lib.hid hb
 have HP := Lib.hid hb2
 have HA0 := Lib.hid hA0
 have _hl := hl2
 have t1 : (k == 1) = false := by simp [hk]
 clear hk
 clear hT hB hb hb2 hA0
 go_enter Tryz.func80, Tryz.ntmps80
 go_wp2_with fail
 obtain ⟨W, hW⟩ : ∃ W, W = w.alloc (Obj.cells #[Value.int IntKind.i64 k, Value.string t, Value.int IntKind.i64 n] 23) := ⟨_, rfl⟩
 have hX : Blk W w.heap.size 23 #[.int .i64 k, .string t, .int .i64 n] := by rw [hW]; exact Blk.new _ _ _
 have hB0 : Below w.heap.size w W := by rw [hW]; exact (Below.refl _ _).alloc (Nat.le_refl _) _
 rw [← hW]
 clear hW
 have y0 := (hX.cell 0).trans rfl
 have y1 := (hX.cell 1).trans rfl
 have y2 := (hX.cell 2).trans rfl
 have hxl := hX.lt
 have hT0 := HT.out.below hB0
 have hBk := HB.out.below hB0
 have s1 := (hBk.1.cell 1).trans rfl
 have hbl := hBk.1.lt
 have HX := Lib.hid hX
 have HB0 := Lib.hid hB0
 have HT0 := Lib.hid hT0
 have HBk := Lib.hid hBk
 clear hX hB0 hT0 hBk
 refine wp_region_E (fun w9 => Below W.heap.size W w9) [(0, 0), (1, 0), (2, 0), (3, 1), (4, 1), (5, 2)] (by kernel_rfl) (by kernel_rfl) (fun KK hKK => ?_)
 simp only [beside, List.filterMap_cons, List.filterMap_nil, List.getElem?_toArray, List.getElem?_cons_zero, List.getElem?_cons_succ, Option.map_some]
 repeat ((first | (refine wpX_w ?_ (Or.inl ⟨by rfl, fun w9 => ?_⟩) ?_; rotate_left 1; go_simp; with_reducible rfl) | (refine wpX_l ?_ (((Below.refl _ _).drew)) (Or.inl ⟨by rfl, fun w9 hw9 => ?_⟩) ?_; rotate_left 1; obtain ⟨hc9, hf9⟩ := bcell hw9; go_simp; with_reducible rfl) | refine wpX_w undef (Or.inr ⟨by rfl, rfl⟩) ?_ | refine wpX_l undef (((Below.refl _ _).drew)) (Or.inr ⟨by rfl, rfl⟩) ?_); go_frame)
 refine wpX_e (by kernel_rfl) (fun K9 hK9 => ?_)
 go_simp
 refine (tPut_Sym ⟨k, t, n⟩ (HT0.out.below ((Below.refl _ _).drew)) HS.out (by omega)).mono ?_
 rintro e w1 ⟨rfl, hch⟩
 have HP1 := Lib.hid hch
 obtain ⟨_, _, _, hM1⟩ := hch
 have hng : ¬ SetMod T.bs (σ T.bs).sn (σ T.bs).A w.heap.size := (by
  rintro (h | ⟨_, a, ha, h⟩)
  · omega
  · have := HA0.out a ha; omega)
 have hX1 := HX.out.drew.fr hM1 hng
 have z0 := (hX1.cell 0).trans rfl
 have z1 := (hX1.cell 1).trans rfl
 have z2 := (hX1.cell 2).trans rfl
 have hxl1 := hX1.lt
 have hBk1 : TabBlk w1 T := TabBlk.kb HBk.out HP1.out.2.1
 have r2 := (hBk1.1.cell 2).trans rfl
 have hbl1 := hBk1.1.lt
 obtain ⟨σ1, hT1, hO1⟩ := HP1.out.1
 have HT1 := Lib.hid hT1
 have HO1 := Lib.hid hO1
 have HX1 := Lib.hid hX1
 have HBk1 := Lib.hid hBk1
 clear hM1 hng hX1 hBk1 hT1 hO1 y0 y1 y2 s1
 refine hK9 _ _ ?_
 clear hK9 K9
 refine wpX_nil ?_
 simp only [OnlyN_normal]
 refine hKK _ _ ?_
 clear hKK KK
 go_wp2_with fail
 refine wp_region_E (fun w9 => Below w1.heap.size w1 w9) [(0, 0), (1, 1), (2, 0), (3, 0), (4, 0), (5, 1), (6, 0), (7, 0), (8, 1), (9, 0), (10, 2), (11, 0), (12, 0)] (by kernel_rfl) (by kernel_rfl) (fun KK hKK => ?_)
 simp only [beside, List.filterMap_cons, List.filterMap_nil, List.getElem?_toArray, List.getElem?_cons_zero, List.getElem?_cons_succ, Option.map_some]
 repeat ((first | (refine wpX_w ?_ (Or.inl ⟨by rfl, fun w9 => ?_⟩) ?_; rotate_left 1; go_simp; with_reducible rfl) | (refine wpX_l ?_ (((Below.refl _ _).drew)) (Or.inl ⟨by rfl, fun w9 hw9 => ?_⟩) ?_; rotate_left 1; obtain ⟨hc9, hf9⟩ := bcell hw9; go_simp; with_reducible rfl) | refine wpX_w undef (Or.inr ⟨by rfl, rfl⟩) ?_ | refine wpX_l undef (((Below.refl _ _).drew)) (Or.inr ⟨by rfl, rfl⟩) ?_); go_frame)
 refine wpX_es (fun K9 hK9 => ?_)
 go_simp
 have HB2 := Lib.hid ((Below.refl w1.heap.size w1).drew)
 refine hK9 _ _ HB2.out ?_
 clear hK9 K9
 repeat ((first | (refine wpX_w ?_ (Or.inl ⟨by rfl, fun w9 => ?_⟩) ?_; rotate_left 1; go_simp; with_reducible rfl) | (refine wpX_l ?_ (HB2.out) (Or.inl ⟨by rfl, fun w9 hw9 => ?_⟩) ?_; rotate_left 1; obtain ⟨hc9, hf9⟩ := bcell hw9; go_simp; with_reducible rfl) | refine wpX_w undef (Or.inr ⟨by rfl, rfl⟩) ?_ | refine wpX_l undef (HB2.out) (Or.inr ⟨by rfl, rfl⟩) ?_); go_frame)
 refine wpX_nil ?_
 simp only [OnlyN_normal]
 refine hKK _ _ ?_
 clear hKK KK
 go_wp2_with fail
 go_end0
 have hz0 := HB0.out.size
 refine ⟨rfl, ⟨σ1, _, (HT1.out.below HB2.out).noop HP.out, fun k hk ho ho2 => ⟨HO1.out k (by simp; omega) ho, by rw [upd_id _ _ _ HP.out]; exact ho2⟩⟩, ((KB.of_below HB0.out).trans HP1.out.2.1).trans (KB.of_below HB2.out), (((Fr.of_new HB0.out).trans ((Fr.refl _ W).drew.trans HP1.out.2.2.1)).trans (Fr.of_new HB2.out))⟩
set_option maxRecDepth 100000 in
set_option maxHeartbeats 4000000 in
theorem tabput_low (T : TB) (l : List Sym) (m : List Page) (t : ByteArray) (n : Int) (hT : Tabs D w S σ S2 σ2) (hB : TabBlk w T) (hb : S T.bs = some l) (hb2 : S2 T.bp = some m) (ht : t.size = 1) (hc : ¬ nextB m (t[0]'(by omega)) ≤ n) (hl : (l.length : Int) ≤ 1000000) (hl2 : (m.length : Int) ≤ 1000000) :
 Calls Tryz.prog 80 #[.pointer (some ⟨T.b, 0, none⟩), .agg #[.int .i64 1, .string t, .int .i64 n]] w fun e w' => e = .returned (.tuple #[]) ∧ TabPut D w S σ S2 σ2 T (put cmpSym l ⟨1, t, n⟩) m w' := by
 have hA0 := (hT.syms.at_ T.bs l hb).row_lt
 have hbs := (hT.syms.at_ T.bs l hb).lt
 have HT := Lib.hid hT
 have HB := Lib.hid hB
 have HS := Lib.hid hb
 have HP := Lib.hid hb2
 have HA0 := Lib.hid hA0
 have h0 : 0 < t.size := by omega
 have t1 : decide (nextB m t[0] ≤ n) = false := by simpa using hc
 clear hc
 clear hT hB hb hb2 hA0
 go_enter Tryz.func80, Tryz.ntmps80
 go_wp2_with fail
 obtain ⟨W, hW⟩ : ∃ W, W = w.alloc (Obj.cells #[Value.int IntKind.i64 1, Value.string t, Value.int IntKind.i64 n] 23) := ⟨_, rfl⟩
 have hX : Blk W w.heap.size 23 #[.int .i64 1, .string t, .int .i64 n] := by rw [hW]; exact Blk.new _ _ _
 have hB0 : Below w.heap.size w W := by rw [hW]; exact (Below.refl _ _).alloc (Nat.le_refl _) _
 rw [← hW]
 clear hW
 have y0 := (hX.cell 0).trans rfl
 have y1 := (hX.cell 1).trans rfl
 have y2 := (hX.cell 2).trans rfl
 have hxl := hX.lt
 have hT0 := HT.out.below hB0
 have hBk := HB.out.below hB0
 have s1 := (hBk.1.cell 1).trans rfl
 have hbl := hBk.1.lt
 have HX := Lib.hid hX
 have HB0 := Lib.hid hB0
 have HT0 := Lib.hid hT0
 have HBk := Lib.hid hBk
 clear hX hB0 hT0 hBk
 refine wp_region_E (fun w9 => Below W.heap.size W w9) [(0, 0), (1, 0), (2, 0), (3, 1), (4, 1), (5, 2)] (by kernel_rfl) (by kernel_rfl) (fun KK hKK => ?_)
 simp only [beside, List.filterMap_cons, List.filterMap_nil, List.getElem?_toArray, List.getElem?_cons_zero, List.getElem?_cons_succ, Option.map_some]
 repeat ((first | (refine wpX_w ?_ (Or.inl ⟨by rfl, fun w9 => ?_⟩) ?_; rotate_left 1; go_simp; with_reducible rfl) | (refine wpX_l ?_ (((Below.refl _ _).drew)) (Or.inl ⟨by rfl, fun w9 hw9 => ?_⟩) ?_; rotate_left 1; obtain ⟨hc9, hf9⟩ := bcell hw9; go_simp; with_reducible rfl) | refine wpX_w undef (Or.inr ⟨by rfl, rfl⟩) ?_ | refine wpX_l undef (((Below.refl _ _).drew)) (Or.inr ⟨by rfl, rfl⟩) ?_); go_frame)
 refine wpX_e (by kernel_rfl) (fun K9 hK9 => ?_)
 go_simp
 refine (tPut_Sym ⟨1, t, n⟩ (HT0.out.below ((Below.refl _ _).drew)) HS.out (by omega)).mono ?_
 rintro e w1 ⟨rfl, hch⟩
 have HP1 := Lib.hid hch
 obtain ⟨_, _, _, hM1⟩ := hch
 have hng : ¬ SetMod T.bs (σ T.bs).sn (σ T.bs).A w.heap.size := (by
  rintro (h | ⟨_, a, ha, h⟩)
  · omega
  · have := HA0.out a ha; omega)
 have hX1 := HX.out.drew.fr hM1 hng
 have z0 := (hX1.cell 0).trans rfl
 have z1 := (hX1.cell 1).trans rfl
 have z2 := (hX1.cell 2).trans rfl
 have hxl1 := hX1.lt
 have hBk1 : TabBlk w1 T := TabBlk.kb HBk.out HP1.out.2.1
 have r2 := (hBk1.1.cell 2).trans rfl
 have hbl1 := hBk1.1.lt
 obtain ⟨σ1, hT1, hO1⟩ := HP1.out.1
 have HT1 := Lib.hid hT1
 have HO1 := Lib.hid hO1
 have HX1 := Lib.hid hX1
 have HBk1 := Lib.hid hBk1
 clear hM1 hng hX1 hBk1 hT1 hO1 y0 y1 y2 s1
 refine hK9 _ _ ?_
 clear hK9 K9
 refine wpX_nil ?_
 simp only [OnlyN_normal]
 refine hKK _ _ ?_
 clear hKK KK
 go_wp2_with fail
 refine wp_region_E (fun w9 => Below w1.heap.size w1 w9) [(0, 0), (1, 1), (2, 0), (3, 0), (4, 0), (5, 1), (6, 0), (7, 0), (8, 1), (9, 0), (10, 2), (11, 0), (12, 0)] (by kernel_rfl) (by kernel_rfl) (fun KK hKK => ?_)
 simp only [beside, List.filterMap_cons, List.filterMap_nil, List.getElem?_toArray, List.getElem?_cons_zero, List.getElem?_cons_succ, Option.map_some]
 repeat ((first | (refine wpX_w ?_ (Or.inl ⟨by rfl, fun w9 => ?_⟩) ?_; rotate_left 1; go_simp; with_reducible rfl) | (refine wpX_l ?_ (((Below.refl _ _).drew)) (Or.inl ⟨by rfl, fun w9 hw9 => ?_⟩) ?_; rotate_left 1; obtain ⟨hc9, hf9⟩ := bcell hw9; go_simp; with_reducible rfl) | refine wpX_w undef (Or.inr ⟨by rfl, rfl⟩) ?_ | refine wpX_l undef (((Below.refl _ _).drew)) (Or.inr ⟨by rfl, rfl⟩) ?_); go_frame)
 refine wpX_es (fun K9 hK9 => ?_)
 go_simp
 refine (next_is T m t[0] (HT1.out.below ((Below.refl _ _).drew)) (HBk1.out.below ((Below.refl _ _).drew)) HP.out hl2).mono ?_
 rintro e w2 ⟨rfl, hb2⟩
 have HB2 := Lib.hid ((Below.refl w1.heap.size w1).drew.trans (hb2.mono (by simp)))
 clear hb2
 refine hK9 _ _ HB2.out ?_
 clear hK9 K9
 repeat ((first | (refine wpX_w ?_ (Or.inl ⟨by rfl, fun w9 => ?_⟩) ?_; rotate_left 1; go_simp; with_reducible rfl) | (refine wpX_l ?_ (HB2.out) (Or.inl ⟨by rfl, fun w9 hw9 => ?_⟩) ?_; rotate_left 1; obtain ⟨hc9, hf9⟩ := bcell hw9; go_simp; with_reducible rfl) | refine wpX_w undef (Or.inr ⟨by rfl, rfl⟩) ?_ | refine wpX_l undef (HB2.out) (Or.inr ⟨by rfl, rfl⟩) ?_); go_frame)
 refine wpX_nil ?_
 simp only [OnlyN_normal]
 refine hKK _ _ ?_
 clear hKK KK
 go_wp2_with fail
 go_end0
 have hz0 := HB0.out.size
 refine ⟨rfl, ⟨σ1, _, (HT1.out.below HB2.out).noop HP.out, fun k hk ho ho2 => ⟨HO1.out k (by simp; omega) ho, by rw [upd_id _ _ _ HP.out]; exact ho2⟩⟩, ((KB.of_below HB0.out).trans HP1.out.2.1).trans (KB.of_below HB2.out), (((Fr.of_new HB0.out).trans ((Fr.refl _ W).drew.trans HP1.out.2.2.1)).trans (Fr.of_new HB2.out))⟩
set_option maxRecDepth 100000 in
set_option maxHeartbeats 4000000 in
theorem tabput_high (T : TB) (l : List Sym) (m : List Page) (t : ByteArray) (n : Int) (hT : Tabs D w S σ S2 σ2) (hB : TabBlk w T) (hb : S T.bs = some l) (hb2 : S2 T.bp = some m) (ht : t.size = 1) (hc : nextB m (t[0]'(by omega)) ≤ n) (hn1 : 1 ≤ n) (hn2 : n ≤ 1048576) (hl : (l.length : Int) ≤ 1000000) (hl2 : (m.length : Int) ≤ 1000000) :
 Calls Tryz.prog 80 #[.pointer (some ⟨T.b, 0, none⟩), .agg #[.int .i64 1, .string t, .int .i64 n]] w fun e w' => e = .returned (.tuple #[]) ∧ TabPut D w S σ S2 σ2 T (put cmpSym l ⟨1, t, n⟩) (mput m ⟨t[0]'(by omega), n + 1⟩) w' := by
 have hA0 := (hT.syms.at_ T.bs l hb).row_lt
 have hbs := (hT.syms.at_ T.bs l hb).lt
 have HT := Lib.hid hT
 have HB := Lib.hid hB
 have HS := Lib.hid hb
 have HP := Lib.hid hb2
 have HA0 := Lib.hid hA0
 have h0 : 0 < t.size := by omega
 have t1 : decide (nextB m t[0] ≤ n) = true := by simpa using hc
 have v1 : IntKind.i64.wrap (n + 1) = n + 1 := IntWalk.i64_in _ (by omega)
 clear hc
 clear hT hB hb hb2 hA0
 go_enter Tryz.func80, Tryz.ntmps80
 go_wp2_with fail
 obtain ⟨W, hW⟩ : ∃ W, W = w.alloc (Obj.cells #[Value.int IntKind.i64 1, Value.string t, Value.int IntKind.i64 n] 23) := ⟨_, rfl⟩
 have hX : Blk W w.heap.size 23 #[.int .i64 1, .string t, .int .i64 n] := by rw [hW]; exact Blk.new _ _ _
 have hB0 : Below w.heap.size w W := by rw [hW]; exact (Below.refl _ _).alloc (Nat.le_refl _) _
 rw [← hW]
 clear hW
 have y0 := (hX.cell 0).trans rfl
 have y1 := (hX.cell 1).trans rfl
 have y2 := (hX.cell 2).trans rfl
 have hxl := hX.lt
 have hT0 := HT.out.below hB0
 have hBk := HB.out.below hB0
 have s1 := (hBk.1.cell 1).trans rfl
 have hbl := hBk.1.lt
 have HX := Lib.hid hX
 have HB0 := Lib.hid hB0
 have HT0 := Lib.hid hT0
 have HBk := Lib.hid hBk
 clear hX hB0 hT0 hBk
 refine wp_region_E (fun w9 => Below W.heap.size W w9) [(0, 0), (1, 0), (2, 0), (3, 1), (4, 1), (5, 2)] (by kernel_rfl) (by kernel_rfl) (fun KK hKK => ?_)
 simp only [beside, List.filterMap_cons, List.filterMap_nil, List.getElem?_toArray, List.getElem?_cons_zero, List.getElem?_cons_succ, Option.map_some]
 repeat ((first | (refine wpX_w ?_ (Or.inl ⟨by rfl, fun w9 => ?_⟩) ?_; rotate_left 1; go_simp; with_reducible rfl) | (refine wpX_l ?_ (((Below.refl _ _).drew)) (Or.inl ⟨by rfl, fun w9 hw9 => ?_⟩) ?_; rotate_left 1; obtain ⟨hc9, hf9⟩ := bcell hw9; go_simp; with_reducible rfl) | refine wpX_w undef (Or.inr ⟨by rfl, rfl⟩) ?_ | refine wpX_l undef (((Below.refl _ _).drew)) (Or.inr ⟨by rfl, rfl⟩) ?_); go_frame)
 refine wpX_e (by kernel_rfl) (fun K9 hK9 => ?_)
 go_simp
 refine (tPut_Sym ⟨1, t, n⟩ (HT0.out.below ((Below.refl _ _).drew)) HS.out (by omega)).mono ?_
 rintro e w1 ⟨rfl, hch⟩
 have HP1 := Lib.hid hch
 obtain ⟨_, _, _, hM1⟩ := hch
 have hng : ¬ SetMod T.bs (σ T.bs).sn (σ T.bs).A w.heap.size := (by
  rintro (h | ⟨_, a, ha, h⟩)
  · omega
  · have := HA0.out a ha; omega)
 have hX1 := HX.out.drew.fr hM1 hng
 have z0 := (hX1.cell 0).trans rfl
 have z1 := (hX1.cell 1).trans rfl
 have z2 := (hX1.cell 2).trans rfl
 have hxl1 := hX1.lt
 have hBk1 : TabBlk w1 T := TabBlk.kb HBk.out HP1.out.2.1
 have r2 := (hBk1.1.cell 2).trans rfl
 have hbl1 := hBk1.1.lt
 obtain ⟨σ1, hT1, hO1⟩ := HP1.out.1
 have HT1 := Lib.hid hT1
 have HO1 := Lib.hid hO1
 have HX1 := Lib.hid hX1
 have HBk1 := Lib.hid hBk1
 clear hM1 hng hX1 hBk1 hT1 hO1 y0 y1 y2 s1
 refine hK9 _ _ ?_
 clear hK9 K9
 refine wpX_nil ?_
 simp only [OnlyN_normal]
 refine hKK _ _ ?_
 clear hKK KK
 go_wp2_with fail
 refine wp_region_E (fun w9 => Below w1.heap.size w1 w9) [(0, 0), (1, 1), (2, 0), (3, 0), (4, 0), (5, 1), (6, 0), (7, 0), (8, 1), (9, 0), (10, 2), (11, 0), (12, 0)] (by kernel_rfl) (by kernel_rfl) (fun KK hKK => ?_)
 simp only [beside, List.filterMap_cons, List.filterMap_nil, List.getElem?_toArray, List.getElem?_cons_zero, List.getElem?_cons_succ, Option.map_some]
 repeat ((first | (refine wpX_w ?_ (Or.inl ⟨by rfl, fun w9 => ?_⟩) ?_; rotate_left 1; go_simp; with_reducible rfl) | (refine wpX_l ?_ (((Below.refl _ _).drew)) (Or.inl ⟨by rfl, fun w9 hw9 => ?_⟩) ?_; rotate_left 1; obtain ⟨hc9, hf9⟩ := bcell hw9; go_simp; with_reducible rfl) | refine wpX_w undef (Or.inr ⟨by rfl, rfl⟩) ?_ | refine wpX_l undef (((Below.refl _ _).drew)) (Or.inr ⟨by rfl, rfl⟩) ?_); go_frame)
 refine wpX_es (fun K9 hK9 => ?_)
 go_simp
 refine (next_is T m t[0] (HT1.out.below ((Below.refl _ _).drew)) (HBk1.out.below ((Below.refl _ _).drew)) HP.out hl2).mono ?_
 rintro e w2 ⟨rfl, hb2⟩
 have HB2 := Lib.hid ((Below.refl w1.heap.size w1).drew.trans (hb2.mono (by simp)))
 clear hb2
 refine hK9 _ _ HB2.out ?_
 clear hK9 K9
 repeat ((first | (refine wpX_w ?_ (Or.inl ⟨by rfl, fun w9 => ?_⟩) ?_; rotate_left 1; go_simp; with_reducible rfl) | (refine wpX_l ?_ (HB2.out) (Or.inl ⟨by rfl, fun w9 hw9 => ?_⟩) ?_; rotate_left 1; obtain ⟨hc9, hf9⟩ := bcell hw9; go_simp; with_reducible rfl) | refine wpX_w undef (Or.inr ⟨by rfl, rfl⟩) ?_ | refine wpX_l undef (HB2.out) (Or.inr ⟨by rfl, rfl⟩) ?_); go_frame)
 refine wpX_nil ?_
 simp only [OnlyN_normal]
 refine hKK _ _ ?_
 clear hKK KK
 go_wp2_with fail
 have hX2 := HX1.out.new_ HB2.out
 have hT2 := HT1.out.below HB2.out
 have hBk2 := HBk1.out.below HB2.out
 have x0 := (hX2.cell 0).trans rfl
 have x1 := (hX2.cell 1).trans rfl
 have x2 := (hX2.cell 2).trans rfl
 have hxl2 := hX2.lt
 have q2 := (hBk2.1.cell 2).trans rfl
 have hbl2 := hBk2.1.lt
 have HT2 := Lib.hid hT2
 have HBk2 := Lib.hid hBk2
 clear hX2 hT2 hBk2 z0 z1 z2 r2
 refine wp_region_E (fun w9 => Below w2.heap.size w2 w9) [(0, 0), (1, 0), (2, 0), (3, 1), (4, 0), (5, 1), (6, 0), (7, 0), (8, 1), (9, 0), (10, 2)] (by kernel_rfl) (by kernel_rfl) (fun KK hKK => ?_)
 simp only [beside, List.filterMap_cons, List.filterMap_nil, List.getElem?_toArray, List.getElem?_cons_zero, List.getElem?_cons_succ, Option.map_some]
 repeat ((first | (refine wpX_w ?_ (Or.inl ⟨by rfl, fun w9 => ?_⟩) ?_; rotate_left 1; go_simp; with_reducible rfl) | (refine wpX_l ?_ (((Below.refl _ _).drew)) (Or.inl ⟨by rfl, fun w9 hw9 => ?_⟩) ?_; rotate_left 1; obtain ⟨hc9, hf9⟩ := bcell hw9; go_simp; with_reducible rfl) | refine wpX_w undef (Or.inr ⟨by rfl, rfl⟩) ?_ | refine wpX_l undef (((Below.refl _ _).drew)) (Or.inr ⟨by rfl, rfl⟩) ?_); go_frame)
 refine wpX_e (by kernel_rfl) (fun K9 hK9 => ?_)
 go_simp
 refine (mapput T.bm T.bp m t[0] (n + 1) (HT2.out.below ((Below.refl _ _).drew)) HP.out (HBk2.out.below ((Below.refl _ _).drew)).2 hl2).mono ?_
 rintro e w3 ⟨⟨r3, rfl⟩, h3⟩
 have H3 := Lib.hid h3
 clear h3
 refine hK9 _ _ ?_
 clear hK9 K9
 refine wpX_nil ?_
 simp only [OnlyN_normal]
 refine hKK _ _ ?_
 clear hKK KK
 go_wp2_with fail
 go_end0
 obtain ⟨⟨σ3, h3, h6⟩, h4, h5⟩ := H3.out
 have hz0 := HB0.out.size
 have hz1 := HP1.out.2.2.1.size
 have hz2 := HB2.out.size
 refine ⟨rfl, ⟨σ1, σ3, h3, fun k hk ho ho2 => ⟨HO1.out k (by simp; omega) ho, h6 k (by simp at hz1 ⊢; omega) ho2⟩⟩, (((KB.of_below HB0.out).trans HP1.out.2.1).trans (KB.of_below HB2.out)).trans h4, (((Fr.of_new HB0.out).trans ((Fr.refl _ W).drew.trans HP1.out.2.2.1)).trans (Fr.of_new HB2.out)).trans ((Fr.refl _ w2).drew.trans h5)⟩
theorem tabput (T : TB) (l : List Sym) (m : List Page) (s : Sym) (hT : Tabs D w S σ S2 σ2) (hB : TabBlk w T) (hb : S T.bs = some l) (hb2 : S2 T.bp = some m) (hv : validB s = true) (hl : (l.length : Int) ≤ 1000000) (hl2 : (m.length : Int) ≤ 1000000) :
 Calls Tryz.prog 80 #[.pointer (some ⟨T.b, 0, none⟩), .agg #[.int .i64 s.kind, .string s.text, .int .i64 s.n]] w fun e w' => e = .returned (.tuple #[]) ∧ TabPut D w S σ S2 σ2 T (put cmpSym l s) (tputM m s) w' := by
 obtain ⟨k, t, n⟩ := s
 by_cases hk : k = 1
 · subst hk
   obtain ⟨h1, _, h3, h4⟩ := validB_id hv
   have hi : idc t = t[0] := idc_eq (by omega)
   by_cases hc : nextB m t[0] ≤ n
   · have e : tputM m ⟨1, t, n⟩ = mput m ⟨t[0], n + 1⟩ := by unfold tputM; dsimp only; rw [hi, if_pos ⟨rfl, hc⟩]
     rw [e]
     exact tabput_high T l m t n hT hB hb hb2 h1 hc h3 h4 hl hl2
   · have e : tputM m ⟨1, t, n⟩ = m := by unfold tputM; dsimp only; rw [hi, if_neg (fun h => hc h.2)]
     rw [e]
     exact tabput_low T l m t n hT hB hb hb2 h1 hc hl hl2
 · have e : tputM m ⟨k, t, n⟩ = m := by unfold tputM; dsimp only; rw [if_neg (fun h => hk h.1)]
   rw [e]
   exact tabput_other T l m k t n hT hB hb hb2 hk hl hl2
end
end Go.Proofs.YtpndmjabjjbefaaGreat
namespace Go.Proofs.YtpndmjabjjbefaaGreat
open Go.RowKit
def letB (c : UInt8) : ByteArray := ⟨#[c]⟩
theorem letB_size (c : UInt8) : (letB c).size = 1 := rfl
theorem convL (c : UInt8) (W : World) (g : Nat) (hc : W.cell? ⟨g, 0, none⟩ = some (.int .u8 (c.toNat : Int))) : (convert 92 9 (.slice (some ⟨g, 0, none⟩) 1 1)).run Tryz.prog W = .ok (.string (letB c)) W :=
 Lib.run_convert_whole (P := Tryz.prog) W 92 5 9 Tryz.underlying92 Tryz.underlying5 Tryz.underlying9 g 0 (letB c) (fun i hi => by
  have : i = 0 := by have := letB_size c; omega
  subst this
  rw [Nat.add_zero, hc]
  rfl) 1
theorem valid_let {c : UInt8} {n : Int} (h : greatB c = true) (h1 : 1 ≤ n) (h2 : n ≤ 1048576) : validB ⟨1, letB c, n⟩ = true := by
 have e : headB greatB (letB c) = true := by rw [headB_eq (by rw [letB_size]; omega)]; exact h
 simp [validB, letB_size, e, h1, h2]
section
variable {D : Nat → Prop} {w : World} {S : Nat → Option (List Sym)} {σ : Nat → St} {S2 : Nat → Option (List Page)} {σ2 : Nat → St}
set_option maxHeartbeats 1000000 in
theorem fresh_arg (T : TB) (c : UInt8) (hg : greatB c = false) : Calls Tryz.prog 55 #[.pointer (some ⟨T.b, 0, none⟩), .int .u8 (c.toNat : Int)] w fun e w' => e = .returned (.tuple #[.agg #[.int .i64 0, .string ⟨#[]⟩, .int .i64 0], .int .i64 1]) ∧ Below w.heap.size w w' := by
 go_enter Tryz.func55, Tryz.ntmps55
 go_wp2_with (go_at_call 77; refine (great_is _ _).mono ?_; rintro e w' ⟨rfl, rfl⟩)
 exact bodyPost_ret (v := .tuple #[.agg #[.int .i64 0, .string ⟨#[]⟩, .int .i64 0], .int .i64 1]) (by simp [results, Tryz.results55, go_sem]) rfl ⟨rfl, by (repeat (first | exact Below.refl _ _ | refine Below.drew ?_ | refine Below.al ?_ _ | refine Below.sc ?_ _))⟩
set_option maxRecDepth 100000 in
set_option maxHeartbeats 4000000 in
theorem fresh_full (T : TB) (l : List Sym) (m : List Page) (c : UInt8) (hT : Tabs D w S σ S2 σ2) (hB : TabBlk w T) (hb : S T.bs = some l) (hb2 : S2 T.bp = some m) (hg : greatB c = true) (hf : T.room ≤ l.length) (hl2 : (m.length : Int) ≤ 1000000) :
 Calls Tryz.prog 55 #[.pointer (some ⟨T.b, 0, none⟩), .int .u8 (c.toNat : Int)] w fun e w' => e = .returned (.tuple #[.agg #[.int .i64 0, .string ⟨#[]⟩, .int .i64 0], .int .i64 20]) ∧ Below w.heap.size w w' := by
 have t1 : decide (T.room ≤ (l.length : Int)) = true := by simpa using hf
 clear hf
 have HT := Lib.hid hT
 have HB := Lib.hid hB
 have HS := Lib.hid hb
 have HP := Lib.hid hb2
 clear hT hB hb hb2
 go_enter Tryz.func55, Tryz.ntmps55
 go_wp2_with (go_at_call 77; refine (great_is _ _).mono ?_; rintro e w' ⟨rfl, rfl⟩)
 refine (next_is T m c (HT.out.below ((Below.refl _ _).alloc (Nat.le_refl _) _)) (HB.out.below ((Below.refl _ _).alloc (Nat.le_refl _) _)) HP.out hl2).mono ?_
 rintro e w1 ⟨rfl, hb1⟩
 have hZ : Blk w1 w.heap.size 23 #[.int .i64 0, .string ⟨#[]⟩, .int .i64 0] := (Blk.new _ _ _).new_ hb1
 have hB1 : Below w.heap.size w w1 := ((Below.refl w.heap.size w).alloc (Nat.le_refl _) _).trans (hb1.mono (by simp))
 have hT1 := HT.out.below hB1
 have hBk1 := HB.out.below hB1
 have s0 := (hBk1.1.cell 0).trans rfl
 have s1 := (hBk1.1.cell 1).trans rfl
 have hbl := hBk1.1.lt
 have hzl := hZ.lt
 have HZ := Lib.hid hZ
 have HB1 := Lib.hid hB1
 have HT1 := Lib.hid hT1
 have HBk1 := Lib.hid hBk1
 clear hb1 hZ hB1 hT1 hBk1
 go_wp2_with fail
 refine wp_region_E (fun w9 => Below w1.heap.size w1 w9) [(0, 0), (1, 0), (2, 0), (3, 1), (5, 0), (6, 0), (7, 0), (8, 1), (4, 2), (9, 0), (10, 0), (11, 0), (12, 0), (13, 0)] (by kernel_rfl) (by kernel_rfl) (fun KK hKK => ?_)
 simp only [beside, List.filterMap_cons, List.filterMap_nil, List.getElem?_toArray, List.getElem?_cons_zero, List.getElem?_cons_succ, Option.map_some]
 repeat ((first | (refine wpX_w ?_ (Or.inl ⟨by rfl, fun w9 => ?_⟩) ?_; rotate_left 1; go_simp; with_reducible rfl) | (refine wpX_l ?_ (((Below.refl _ _).drew)) (Or.inl ⟨by rfl, fun w9 hw9 => ?_⟩) ?_; rotate_left 1; obtain ⟨hc9, hf9⟩ := bcell hw9; go_simp; with_reducible rfl) | refine wpX_w undef (Or.inr ⟨by rfl, rfl⟩) ?_ | refine wpX_l undef (((Below.refl _ _).drew)) (Or.inr ⟨by rfl, rfl⟩) ?_); go_frame)
 refine wpX_es (fun K9 hK9 => ?_)
 go_simp
 refine (len_Sym T.bs _ _ _ l _ ((HT1.out.below ((Below.refl _ _).drew)).syms.at_ T.bs l HS.out)).mono ?_
 rintro e w2 ⟨rfl, rfl⟩
 refine hK9 _ _ ((Below.refl _ _).drew) ?_
 clear hK9 K9
 repeat ((first | (refine wpX_w ?_ (Or.inl ⟨by rfl, fun w9 => ?_⟩) ?_; rotate_left 1; go_simp; with_reducible rfl) | (refine wpX_l ?_ (((Below.refl _ _).drew)) (Or.inl ⟨by rfl, fun w9 hw9 => ?_⟩) ?_; rotate_left 1; obtain ⟨hc9, hf9⟩ := bcell hw9; go_simp; with_reducible rfl) | refine wpX_w undef (Or.inr ⟨by rfl, rfl⟩) ?_ | refine wpX_l undef (((Below.refl _ _).drew)) (Or.inr ⟨by rfl, rfl⟩) ?_); go_frame)
 refine wpX_nil ?_
 simp only [OnlyN_normal]
 refine hKK _ _ ?_
 clear hKK KK
 have z0 : w1.cell? ⟨w.heap.size, 0, none⟩ = some (.int .i64 0) := (HZ.out.cell 0).trans rfl
 have z1 : w1.cell? ⟨w.heap.size, 1, none⟩ = some (.string ⟨#[]⟩) := (HZ.out.cell 1).trans rfl
 have z2 : w1.cell? ⟨w.heap.size, 2, none⟩ = some (.int .i64 0) := (HZ.out.cell 2).trans rfl
 have f0 := HZ.out.frozen 0
 have f1 := HZ.out.frozen 1
 have f2 := HZ.out.frozen 2
 go_wp2_with fail
 exact bodyPost_ret (v := .tuple #[.agg #[.int .i64 0, .string ⟨#[]⟩, .int .i64 0], .int .i64 20]) (by simp [results, Tryz.results55, go_sem, z0, z1, z2]) rfl ⟨rfl, by (repeat (first | exact Below.refl _ _ | exact HB1.out | refine Below.drew ?_ | refine Below.al ?_ _ | refine Below.sc ?_ _))⟩
set_option maxRecDepth 100000 in
set_option maxHeartbeats 4000000 in
theorem fresh_far (T : TB) (l : List Sym) (m : List Page) (c : UInt8) (hT : Tabs D w S σ S2 σ2) (hB : TabBlk w T) (hb : S T.bs = some l) (hb2 : S2 T.bp = some m) (hg : greatB c = true) (hf : ¬ T.room ≤ l.length) (hn : 1048576 < nextB m c) (hl2 : (m.length : Int) ≤ 1000000) :
 Calls Tryz.prog 55 #[.pointer (some ⟨T.b, 0, none⟩), .int .u8 (c.toNat : Int)] w fun e w' => e = .returned (.tuple #[.agg #[.int .i64 0, .string ⟨#[]⟩, .int .i64 0], .int .i64 20]) ∧ Below w.heap.size w w' := by
 have t1 : decide (T.room ≤ (l.length : Int)) = false := by simpa using hf
 have t2 : decide ((1048576 : Int) < nextB m c) = true := by simpa using hn
 clear hf
 have HT := Lib.hid hT
 have HB := Lib.hid hB
 have HS := Lib.hid hb
 have HP := Lib.hid hb2
 clear hT hB hb hb2
 go_enter Tryz.func55, Tryz.ntmps55
 go_wp2_with (go_at_call 77; refine (great_is _ _).mono ?_; rintro e w' ⟨rfl, rfl⟩)
 refine (next_is T m c (HT.out.below ((Below.refl _ _).alloc (Nat.le_refl _) _)) (HB.out.below ((Below.refl _ _).alloc (Nat.le_refl _) _)) HP.out hl2).mono ?_
 rintro e w1 ⟨rfl, hb1⟩
 have hZ : Blk w1 w.heap.size 23 #[.int .i64 0, .string ⟨#[]⟩, .int .i64 0] := (Blk.new _ _ _).new_ hb1
 have hB1 : Below w.heap.size w w1 := ((Below.refl w.heap.size w).alloc (Nat.le_refl _) _).trans (hb1.mono (by simp))
 have hT1 := HT.out.below hB1
 have hBk1 := HB.out.below hB1
 have s0 := (hBk1.1.cell 0).trans rfl
 have s1 := (hBk1.1.cell 1).trans rfl
 have hbl := hBk1.1.lt
 have hzl := hZ.lt
 have HZ := Lib.hid hZ
 have HB1 := Lib.hid hB1
 have HT1 := Lib.hid hT1
 have HBk1 := Lib.hid hBk1
 clear hb1 hZ hB1 hT1 hBk1
 go_wp2_with fail
 refine wp_region_E (fun w9 => Below w1.heap.size w1 w9) [(0, 0), (1, 0), (2, 0), (3, 1), (5, 0), (6, 0), (7, 0), (8, 1), (4, 2), (9, 0), (10, 0), (11, 0), (12, 0), (13, 0)] (by kernel_rfl) (by kernel_rfl) (fun KK hKK => ?_)
 simp only [beside, List.filterMap_cons, List.filterMap_nil, List.getElem?_toArray, List.getElem?_cons_zero, List.getElem?_cons_succ, Option.map_some]
 repeat ((first | (refine wpX_w ?_ (Or.inl ⟨by rfl, fun w9 => ?_⟩) ?_; rotate_left 1; go_simp; with_reducible rfl) | (refine wpX_l ?_ (((Below.refl _ _).drew)) (Or.inl ⟨by rfl, fun w9 hw9 => ?_⟩) ?_; rotate_left 1; obtain ⟨hc9, hf9⟩ := bcell hw9; go_simp; with_reducible rfl) | refine wpX_w undef (Or.inr ⟨by rfl, rfl⟩) ?_ | refine wpX_l undef (((Below.refl _ _).drew)) (Or.inr ⟨by rfl, rfl⟩) ?_); go_frame)
 refine wpX_es (fun K9 hK9 => ?_)
 go_simp
 refine (len_Sym T.bs _ _ _ l _ ((HT1.out.below ((Below.refl _ _).drew)).syms.at_ T.bs l HS.out)).mono ?_
 rintro e w2 ⟨rfl, rfl⟩
 refine hK9 _ _ ((Below.refl _ _).drew) ?_
 clear hK9 K9
 repeat ((first | (refine wpX_w ?_ (Or.inl ⟨by rfl, fun w9 => ?_⟩) ?_; rotate_left 1; go_simp; with_reducible rfl) | (refine wpX_l ?_ (((Below.refl _ _).drew)) (Or.inl ⟨by rfl, fun w9 hw9 => ?_⟩) ?_; rotate_left 1; obtain ⟨hc9, hf9⟩ := bcell hw9; go_simp; with_reducible rfl) | refine wpX_w undef (Or.inr ⟨by rfl, rfl⟩) ?_ | refine wpX_l undef (((Below.refl _ _).drew)) (Or.inr ⟨by rfl, rfl⟩) ?_); go_frame)
 refine wpX_nil ?_
 simp only [OnlyN_normal]
 refine hKK _ _ ?_
 clear hKK KK
 have z0 : w1.cell? ⟨w.heap.size, 0, none⟩ = some (.int .i64 0) := (HZ.out.cell 0).trans rfl
 have z1 : w1.cell? ⟨w.heap.size, 1, none⟩ = some (.string ⟨#[]⟩) := (HZ.out.cell 1).trans rfl
 have z2 : w1.cell? ⟨w.heap.size, 2, none⟩ = some (.int .i64 0) := (HZ.out.cell 2).trans rfl
 have f0 := HZ.out.frozen 0
 have f1 := HZ.out.frozen 1
 have f2 := HZ.out.frozen 2
 go_wp2_with fail
 exact bodyPost_ret (v := .tuple #[.agg #[.int .i64 0, .string ⟨#[]⟩, .int .i64 0], .int .i64 20]) (by simp [results, Tryz.results55, go_sem, z0, z1, z2]) rfl ⟨rfl, by (repeat (first | exact Below.refl _ _ | exact HB1.out | refine Below.drew ?_ | refine Below.al ?_ _ | refine Below.sc ?_ _))⟩
set_option maxRecDepth 100000 in
set_option maxHeartbeats 4000000 in
theorem fresh_new (T : TB) (l : List Sym) (m : List Page) (c : UInt8) (hT : Tabs D w S σ S2 σ2) (hB : TabBlk w T) (hb : S T.bs = some l) (hb2 : S2 T.bp = some m) (hg : greatB c = true) (hf : ¬ T.room ≤ l.length) (hn : nextB m c ≤ 1048576) (hn1 : 1 ≤ nextB m c) (hl : (l.length : Int) ≤ 1000000) (hl2 : (m.length : Int) ≤ 1000000) :
 Calls Tryz.prog 55 #[.pointer (some ⟨T.b, 0, none⟩), .int .u8 (c.toNat : Int)] w fun e w' => e = .returned (.tuple #[.agg #[.int .i64 1, .string (letB c), .int .i64 (nextB m c)], .int .i64 0]) ∧ TabPut D w S σ S2 σ2 T (put cmpSym l ⟨1, letB c, nextB m c⟩) (tputM m ⟨1, letB c, nextB m c⟩) w' := by
 have t1 : decide (T.room ≤ (l.length : Int)) = false := by simpa using hf
 have t2 : decide ((1048576 : Int) < nextB m c) = false := by simpa using hn
 have HV := Lib.hid (valid_let hg hn1 hn)
 clear hf
 have HT := Lib.hid hT
 have HB := Lib.hid hB
 have HS := Lib.hid hb
 have HP := Lib.hid hb2
 clear hT hB hb hb2
 go_enter Tryz.func55, Tryz.ntmps55
 go_wp2_with (go_at_call 77; refine (great_is _ _).mono ?_; rintro e w' ⟨rfl, rfl⟩)
 refine (next_is T m c (HT.out.below ((Below.refl _ _).alloc (Nat.le_refl _) _)) (HB.out.below ((Below.refl _ _).alloc (Nat.le_refl _) _)) HP.out hl2).mono ?_
 rintro e w1 ⟨rfl, hb1⟩
 have hZ : Blk w1 w.heap.size 23 #[.int .i64 0, .string ⟨#[]⟩, .int .i64 0] := (Blk.new _ _ _).new_ hb1
 have hB1 : Below w.heap.size w w1 := ((Below.refl w.heap.size w).alloc (Nat.le_refl _) _).trans (hb1.mono (by simp))
 have hT1 := HT.out.below hB1
 have hBk1 := HB.out.below hB1
 have s0 := (hBk1.1.cell 0).trans rfl
 have s1 := (hBk1.1.cell 1).trans rfl
 have hbl := hBk1.1.lt
 have hzl := hZ.lt
 have HZ := Lib.hid hZ
 have HB1 := Lib.hid hB1
 have HT1 := Lib.hid hT1
 have HBk1 := Lib.hid hBk1
 clear hb1 hZ hB1 hT1 hBk1
 go_wp2_with fail
 refine wp_region_E (fun w9 => Below w1.heap.size w1 w9) [(0, 0), (1, 0), (2, 0), (3, 1), (5, 0), (6, 0), (7, 0), (8, 1), (4, 2), (9, 0), (10, 0), (11, 0), (12, 0), (13, 0)] (by kernel_rfl) (by kernel_rfl) (fun KK hKK => ?_)
 simp only [beside, List.filterMap_cons, List.filterMap_nil, List.getElem?_toArray, List.getElem?_cons_zero, List.getElem?_cons_succ, Option.map_some]
 repeat ((first | (refine wpX_w ?_ (Or.inl ⟨by rfl, fun w9 => ?_⟩) ?_; rotate_left 1; go_simp; with_reducible rfl) | (refine wpX_l ?_ (((Below.refl _ _).drew)) (Or.inl ⟨by rfl, fun w9 hw9 => ?_⟩) ?_; rotate_left 1; obtain ⟨hc9, hf9⟩ := bcell hw9; go_simp; with_reducible rfl) | refine wpX_w undef (Or.inr ⟨by rfl, rfl⟩) ?_ | refine wpX_l undef (((Below.refl _ _).drew)) (Or.inr ⟨by rfl, rfl⟩) ?_); go_frame)
 refine wpX_es (fun K9 hK9 => ?_)
 go_simp
 refine (len_Sym T.bs _ _ _ l _ ((HT1.out.below ((Below.refl _ _).drew)).syms.at_ T.bs l HS.out)).mono ?_
 rintro e w2 ⟨rfl, rfl⟩
 refine hK9 _ _ ((Below.refl _ _).drew) ?_
 clear hK9 K9
 repeat ((first | (refine wpX_w ?_ (Or.inl ⟨by rfl, fun w9 => ?_⟩) ?_; rotate_left 1; go_simp; with_reducible rfl) | (refine wpX_l ?_ (((Below.refl _ _).drew)) (Or.inl ⟨by rfl, fun w9 hw9 => ?_⟩) ?_; rotate_left 1; obtain ⟨hc9, hf9⟩ := bcell hw9; go_simp; with_reducible rfl) | refine wpX_w undef (Or.inr ⟨by rfl, rfl⟩) ?_ | refine wpX_l undef (((Below.refl _ _).drew)) (Or.inr ⟨by rfl, rfl⟩) ?_); go_frame)
 refine wpX_nil ?_
 simp only [OnlyN_normal]
 refine hKK _ _ ?_
 clear hKK KK
 have hcv := convL c
 go_wp2_with fail
 clear hcv s0 s1
 obtain ⟨X, hX⟩ : ∃ X, X = ((w1.alloc (Obj.cells #[Value.int IntKind.u8 (c.toNat : Int)] 5)).alloc (Obj.cells #[Value.int IntKind.i64 1, Value.string (letB c), Value.int IntKind.i64 (nextB m c)] 23)).drew := ⟨_, rfl⟩
 have hBX : Below w1.heap.size w1 X := by rw [hX]; exact (((Below.refl _ _).alloc (Nat.le_refl _) _).alloc (by simp) _).drew
 have hC : Blk X (w1.heap.size + 1) 23 #[.int .i64 1, .string (letB c), .int .i64 (nextB m c)] := by
  rw [hX]
  have := (Blk.new (w1.alloc (Obj.cells #[Value.int IntKind.u8 (c.toNat : Int)] 5)) 23 #[.int .i64 1, .string (letB c), .int .i64 (nextB m c)]).drew
  simpa using this
 rw [← hX]
 clear hX
 have hBX2 : Below w.heap.size w X := HB1.out.trans (hBX.mono HB1.out.size)
 have hzx := hBX.size
 have hcl := hC.lt
 have hTP := HT.out.protect hBX2
 refine (tabput T l m ⟨1, letB c, nextB m c⟩ hTP (HBk1.out.below hBX) HS.out HP.out HV.out hl hl2).mono ?_
 rintro e w8 ⟨rfl, ⟨σ8, σ9, h8, hO8⟩, hK8, hF8⟩
 have hz1 := HB1.out.size
 have hZ8 : Blk w8 w.heap.size 23 #[.int .i64 0, .string ⟨#[]⟩, .int .i64 0] := (HZ.out.new_ hBX).fr hF8 (fun h => h (.inr ⟨Nat.le_refl _, by omega⟩))
 have hC8 : Blk w8 (w1.heap.size + 1) 23 #[.int .i64 1, .string (letB c), .int .i64 (nextB m c)] := hC.fr hF8 (fun h => h (.inr ⟨by omega, hcl⟩))
 have hx8 := hF8.size
 have hof := Off.new_ HT.out.syms (Nat.le_refl _)
 have hof2 := Off.new_ HT.out.pages (Nat.le_refl _)
 have hO9 := hO8 w.heap.size (by omega) hof hof2
 have H8 := Lib.hid (h8.weaken (D' := D) (fun k hk => .inl hk))
 have HO8 := Lib.hid hO8
 have HO9 := Lib.hid hO9
 have HK8 := Lib.hid ((KB.of_below hBX2).trans hK8)
 have HF8 := Lib.hid ((Fr.of_new (M := fun k => ¬ D k) hBX2).trans (hF8.mono (fun k _ hk hd => hk (.inl hd))))
 have HZ8 := Lib.hid hZ8
 have z0 : w8.cell? ⟨w.heap.size, 0, none⟩ = some (.int .i64 0) := (hZ8.cell 0).trans rfl
 have z1 : w8.cell? ⟨w.heap.size, 1, none⟩ = some (.string ⟨#[]⟩) := (hZ8.cell 1).trans rfl
 have z2 : w8.cell? ⟨w.heap.size, 2, none⟩ = some (.int .i64 0) := (hZ8.cell 2).trans rfl
 have f0 := hZ8.frozen 0
 have f1 := hZ8.frozen 1
 have f2 := hZ8.frozen 2
 have c0 : w8.cell? ⟨w1.heap.size + 1, 0, none⟩ = some (.int .i64 1) := (hC8.cell 0).trans rfl
 have c1 : w8.cell? ⟨w1.heap.size + 1, 1, none⟩ = some (.string (letB c)) := (hC8.cell 1).trans rfl
 have c2 : w8.cell? ⟨w1.heap.size + 1, 2, none⟩ = some (.int .i64 (nextB m c)) := (hC8.cell 2).trans rfl
 have hzl8 := hZ8.lt
 have hcl8 := hC8.lt
 clear h8 hO8 hO9 hK8 hF8 hZ8 hC8 hTP hC hBX2 hof hof2
 go_wp2_with fail
 refine bodyPost_ret (v := .tuple #[.agg #[.int .i64 1, .string (letB c), .int .i64 (nextB m c)], .int .i64 0]) (by simp [results, Tryz.results55, go_sem, z0, z1, z2]) rfl ⟨rfl, ⟨σ8, σ9, H8.out.off HO9.out.1 HO9.out.2 ((((Fr.refl (· = w.heap.size) w8).setCell (.inl rfl) _).setCell (.inl rfl) _).setCell (.inl rfl) _), fun k hk ho ho2 => HO8.out k (by omega) ho ho2⟩, ?_, ((HF8.out.setCell (.inr (Nat.le_refl _)) _).setCell (.inr (Nat.le_refl _)) _).setCell (.inr (Nat.le_refl _)) _⟩
 intro g t cs h1 h2 h3 h4 hB
 have hB8 := HK8.out g t cs h1 h2 h3 h4 hB
 have hne : g ≠ w.heap.size := hB8.ne_ HZ8.out h2
 exact ((hB8.far (p := ⟨w.heap.size, 0, none⟩) hne _).far (p := ⟨w.heap.size, 1, none⟩) hne _).far (p := ⟨w.heap.size, 2, none⟩) hne _
end
end Go.Proofs.YtpndmjabjjbefaaGreat
namespace Go.Proofs.YtpndmjabjjbefaaGreat
open Go.RowKit
set_option maxRecDepth 100000 in
set_option maxHeartbeats 4000000 in
theorem tabhas_is {D : Nat → Prop} {w : World} {S : Nat → Option (List Sym)} {σ : Nat → St} {S2 : Nat → Option (List Page)} {σ2 : Nat → St} (T : TB) (l : List Sym) (s : Sym) (hT : Tabs D w S σ S2 σ2) (hB : TabBlk w T) (hb : S T.bs = some l) (hl : (l.length : Int) ≤ 1000000) :
 Calls Tryz.prog 35 #[.pointer (some ⟨T.b, 0, none⟩), .agg #[.int .i64 s.kind, .string s.text, .int .i64 s.n]] w fun e w' => e = .returned (.bool (has cmpSym l s)) ∧ Below w.heap.size w w' := by
 have HT := Lib.hid hT
 have HB := Lib.hid hB
 have HS := Lib.hid hb
 clear hT hB hb
 go_enter Tryz.func35, Tryz.ntmps35
 go_wp2_with fail
 obtain ⟨W, hW⟩ : ∃ W, W = w.alloc (Obj.cells #[Value.int IntKind.i64 s.kind, Value.string s.text, Value.int IntKind.i64 s.n] 23) := ⟨_, rfl⟩
 have hX : Blk W w.heap.size 23 #[.int .i64 s.kind, .string s.text, .int .i64 s.n] := by rw [hW]; exact Blk.new _ _ _
 have hB0 : Below w.heap.size w W := by rw [hW]; exact (Below.refl _ _).alloc (Nat.le_refl _) _
 rw [← hW]
 clear hW
 have y0 := (hX.cell 0).trans rfl
 have y1 := (hX.cell 1).trans rfl
 have y2 := (hX.cell 2).trans rfl
 have hxl := hX.lt
 have hT0 := HT.out.below hB0
 have hBk := HB.out.below hB0
 have s1 := (hBk.1.cell 1).trans rfl
 have hbl := hBk.1.lt
 have HB0 := Lib.hid hB0
 have HT0 := Lib.hid hT0
 clear hX hB0 hT0 hBk
 refine wp_region_E (fun w9 => Below W.heap.size W w9) [(0, 0), (1, 0), (2, 0), (3, 1), (4, 1), (5, 2), (6, 0), (7, 0), (8, 0), (9, 0), (10, 0)] (by kernel_rfl) (by kernel_rfl) (fun KK hKK => ?_)
 simp only [beside, List.filterMap_cons, List.filterMap_nil, List.getElem?_toArray, List.getElem?_cons_zero, List.getElem?_cons_succ, Option.map_some]
 repeat ((first | (refine wpX_w ?_ (Or.inl ⟨by rfl, fun w9 => ?_⟩) ?_; rotate_left 1; go_simp; with_reducible rfl) | (refine wpX_l ?_ (((Below.refl _ _).drew)) (Or.inl ⟨by rfl, fun w9 hw9 => ?_⟩) ?_; rotate_left 1; obtain ⟨hc9, hf9⟩ := bcell hw9; go_simp; with_reducible rfl) | refine wpX_w undef (Or.inr ⟨by rfl, rfl⟩) ?_ | refine wpX_l undef (((Below.refl _ _).drew)) (Or.inr ⟨by rfl, rfl⟩) ?_); go_frame)
 refine wpX_e (by kernel_rfl) (fun K9 hK9 => ?_)
 go_simp
 have hT1 := HT0.out.below ((Below.refl W.heap.size W).drew)
 refine (place_Sym T.bs _ _ _ l s _ (hT1.syms.at_ T.bs l HS.out) (hT1.syms.srt T.bs l HS.out) (by omega)).mono ?_
 rintro e w1 ⟨rfl, hb1⟩
 have HB1 := Lib.hid ((Below.refl W.heap.size W).drew.trans (hb1.mono (by simp)))
 clear hb1 hT1
 refine hK9 _ _ ?_
 clear hK9 K9
 repeat ((first | (refine wpX_w ?_ (Or.inl ⟨by rfl, fun w9 => ?_⟩) ?_; rotate_left 1; go_simp; with_reducible rfl) | (refine wpX_l ?_ (((Below.refl _ _).drew)) (Or.inl ⟨by rfl, fun w9 hw9 => ?_⟩) ?_; rotate_left 1; obtain ⟨hc9, hf9⟩ := bcell hw9; go_simp; with_reducible rfl) | refine wpX_w undef (Or.inr ⟨by rfl, rfl⟩) ?_ | refine wpX_l undef (((Below.refl _ _).drew)) (Or.inr ⟨by rfl, rfl⟩) ?_); go_frame)
 refine wpX_nil ?_
 simp only [OnlyN_normal]
 refine hKK _ _ ?_
 clear hKK KK
 go_wp2_with fail
 go_ret
 exact ⟨rfl, HB0.out.trans (HB1.out.mono HB0.out.size)⟩
end Go.Proofs.YtpndmjabjjbefaaGreat
namespace Go.Proofs.YtpndmjabjjbefaaGreat
open Go.RowKit Go.Shelf
structure SeqP {α : Type} (gf : Nat) (lb : Array Value) (encs : α → Array Value) (xs : List α) (w : World) (start Kp : World → World → Prop) : Prop where
 enter : ∀ args w, (callFunc gf args).run Tryz.prog w = .ok (.enter gf args) w
 iter : ∀ W, Below w.heap.size w W → IterP Tryz.prog gf lb encs xs W start Kp
 trans : ∀ A B C, Kp A B → Kp B C → Kp A C
 keep : ∀ A B, Priv w.heap.size A B → Kp A B
 below : ∀ A B, Below w.heap.size A B → Kp A B
 mods : ∀ W W1, start W W1 → Fr (· < w.heap.size) W W1
theorem SeqP.new_ {α : Type} {gf : Nat} {lb : Array Value} {encs : α → Array Value} {xs : List α} {w w' : World} {start Kp : World → World → Prop} (h : SeqP gf lb encs xs w start Kp) (hb : Below w.heap.size w w') : SeqP gf lb encs xs w' start Kp :=
 ⟨h.enter, fun W hW => h.iter W (hb.trans (hW.mono hb.size)), h.trans, fun A B hp => h.keep A B (hp.mono hb.size), fun A B hp => h.below A B (hp.mono hb.size), fun W W1 hs => (h.mods W W1 hs).mono (fun _ _ hk => Nat.lt_of_lt_of_le hk hb.size)⟩
theorem Seq.p {α : Type} {gf : Nat} {lb : Array Value} {encs : α → Array Value} {xs : List α} {w : World} {start Kp : World → World → Prop} (h : Seq gf lb encs xs w start Kp) : SeqP gf lb encs xs w start Kp :=
 ⟨h.enter, fun W hW => (h.iter W hW).p, h.trans, h.keep, h.below, h.mods⟩
end Go.Proofs.YtpndmjabjjbefaaGreat
namespace Go.Proofs.YtpndmjabjjbefaaGreat
open Go.RowKit Go.Shelf
attribute [local go_sem] Oper.semAt_some
set_option maxRecDepth 100000 in
set_option maxHeartbeats 2000000 in
theorem listP_Sym (gf : Nat) (lb : Array Value) (xs : List Sym) (w : World) (start Kp : World → World → Prop) (hq : SeqP gf lb encSym xs w start Kp) (hl : (xs.length : Int) ≤ 100000000) :
 Calls Tryz.prog 32 #[.func (.func gf) #[] lb] w (ListPostSym w start xs) := by
 refine (callsIn_wide (n := 0)).1 ?_
 refine callsIn_of_wp_marks Tryz.func32 rfl trivial ?_
 simp only [Tryz.ntmps32, List.size_toArray, List.length_cons, List.length_nil, Nat.reduceAdd, Nat.reduceSub, Array.replicate_succ, Array.replicate_zero, List.push_toArray, List.append_toArray, List.nil_append, List.cons_append]
 have hbe : ∀ W, (binOp .eql 85 (.func (.func gf) #[] lb) .nilFunc).run Tryz.prog W = .ok (.bool false) W := fun W => by kernel_rfl
 gi_wp2_with fail
 obtain ⟨W0, hW0⟩ : ∃ W0, W0 = w.alloc (.cells #[.slice none 0 0] 57) := ⟨_, rfl⟩
 have hb0 : Below w.heap.size w W0 := by rw [hW0]; exact (Below.refl _ _).alloc (Nat.le_refl _) _
 have hz0 : W0.heap.size = w.heap.size + 1 := by rw [hW0]; simp
 have hB0 : Blk W0 w.heap.size 57 #[.slice none 0 0] := by rw [hW0]; exact Blk.new _ _ _
 rw [← hW0]
 clear hW0
 have hq0 := hq.new_ hb0
 obtain ⟨i0, hi, hi0, hi1, hi2⟩ := info_parts info_Sym
 obtain ⟨I, hI⟩ : ∃ I : World → List Sym → World → Prop, I = fun F p W => ∃ v, Blk W w.heap.size 57 #[v] ∧ W.ownsRow F.heap.size 23 3 v p.length (p.flatMap Sym.cells) ∧ w.heap.size < F.heap.size ∧ F.heap.size ≤ W.heap.size ∧ ∃ W1, Below w.heap.size w W1 ∧ start W1 F ∧ Below w.heap.size F W := ⟨_, rfl⟩
 have hIP : ∀ F p X Y, I F p X → Priv W0.heap.size X Y → I F p Y := by
  subst hI
  rintro F p X Y ⟨v, h1, h2, g1, g2, W1, h3, h4, h5⟩ hp
  exact ⟨v, h1.priv hp, ownsRow_priv h2 hp, g1, Nat.le_trans g2 hp.size, W1, h3, h4, Below.priv' h5 hp (by omega) (Nat.le_of_lt h1.lt)⟩
 refine wpIn_rangeP (w := W0) (by rfl) hq0.enter hq0.iter (fun x => by rfl) hq0.trans hq0.keep (fun W W1 h => keepsFrom_of_fr (hq0.mods W W1 h)) I (fun _ _ _ _ => False) hIP (fun _ _ _ _ _ h => h.elim) ?_ ?_ ?_ ?_
 · intro W W1 hW hs
   subst hI
   have hz1 := hW.size
   have hz2 := (hq.mods W W1 hs).size
   refine ⟨.slice none 0 0, (hB0.new_ hW).fr (hq.mods W W1 hs) (Nat.lt_irrefl _), owns_nil _ _ _ _, by omega, Nat.le_refl _, W, hb0.trans (hW.mono (by omega)), hs, Below.refl _ _⟩
 · intro F lo pre x post W hx hlo hIW
   have hx' : xs.length = pre.length + (post.length + 1) := by rw [hx]; simp
   have HX := Lib.hid hx
   clear hx
   rw [hI] at hIW
   obtain ⟨v, h1, h2, hfb, hfw, h3⟩ := hIW
   have HH := Lib.hid h3
   have HFB := Lib.hid hfb
   have HFW := Lib.hid hfw
   clear h3 hfb hfw
   have hlt := h1.lt
   have HI := Lib.hid hI
   have HB := Lib.hid h1
   have HO := Lib.hid h2
   have HQW := Lib.hid hq
   clear h1 h2 hq hq0 hIP hI hbe hb0 hB0
   simp only [encSym, Array.zip]
   gi_wp2_with fail
   refine ⟨Kept.new_ ((Below.refl _ W).alloc (Nat.le_refl _) _) HFW.out, fun W3 hp3 hz3 _ => ?_⟩
   have hx3 : Blk W3 W.heap.size 23 #[Value.int IntKind.i64 x.kind, Value.string x.text, Value.int IntKind.i64 x.n] := (Blk.new W 23 #[Value.int IntKind.i64 x.kind, Value.string x.text, Value.int IntKind.i64 x.n]).priv hp3
   have x0 := hx3.cell 0
   have x1 := hx3.cell 1
   have x2 := hx3.cell 2
   simp only [List.getElem?_toArray, List.getElem?_cons_zero, List.getElem?_cons_succ] at x0 x1 x2
   have HX3 := Lib.hid hx3
   have hB3 : Blk W3 w.heap.size 57 #[v] := (HB.out.alloc _).priv hp3
   have hO3 : W3.ownsRow F.heap.size 23 3 v pre.length (pre.flatMap Sym.cells) := ownsRow_priv (owns_below HO.out ((Below.refl _ _).alloc (Nat.le_refl _) _)) hp3
   have hF3 : Fr (fun k => W0.heap.size ≤ k) W W3 := ((Fr.refl _ W).alloc _).into (Fr.of_priv hp3) (fun k hk => .inl hk)
   have p0 := hB3.cell 0
   have f0 := hB3.frozen 0
   have hsz3 : W3.heap.size = W.heap.size + 1 := by rw [hz3]; simp
   have HZ3 := Lib.hid hsz3
   clear hsz3
   have HB3 := Lib.hid hB3
   have HO3 := Lib.hid hO3
   have HP3 := Lib.hid hp3
   have HF3 := Lib.hid hF3
   clear hB3 hO3 hp3 hF3 hx3 hz3
   simp only [List.getElem?_toArray, List.getElem?_cons_zero] at p0
   gi_wp2_with (gi_at_builtin; refine wpListIn_append_own _ rfl _ _ 57 rfl F.heap.size 23 i0 _ 3 32 Tryz.underlying57 hi hi0 hi1 hi2 rfl (by decide) v pre.length (pre.flatMap Sym.cells) rfl (owns_below HO3.out ((Below.refl _ _).alloc (Nat.le_refl _) _)) ⟨W3.heap.size, 0, none⟩ 1 1 (Sym.cells x) rfl rfl (World.news_of_block (heap_alloc_new _ _)) (Sym.one x) (by unfold maxLen; omega) (by omega) (by have := HZ3.out; have := HFW.out; simp; omega) ?_; intro v' w4 hown hg hnil; obtain ⟨A', c', rfl, hA'⟩ := owns_form hown; have hB4 := (HB3.out.alloc (.cells #[Value.int IntKind.i64 x.kind, Value.string x.text, Value.int IntKind.i64 x.n] 23)).grown hg (fun h => absurd (owns_block HO3.out _ h) (by have := HFB.out; omega)); have p4 := (hB4.cell 0).trans rfl; have f4 := hB4.frozen 0; have HB4 := Lib.hid hB4; have HG := Lib.hid hg; have HO4 := Lib.hid hown; clear hB4 hg hown hnil p0 f0)
   have hI := HI.out
   subst hI
   obtain ⟨W1, h3, h4, h5⟩ := HH.out
   have hfb := HFB.out
   have hfw := HFW.out
   have hbl : Below (w.heap.size + 1) W w4 := ((Fr.below HF3.out (by omega) (fun k hk h => by omega) : Below (w.heap.size + 1) W W3).alloc (by have := HZ3.out; omega) _).grown HG.out (by have := HZ3.out; simp; omega) (fun k hk => Nat.le_trans hfb (owns_block HO3.out k hk))
   have hz4 := hbl.size
   have hbl2 : Below w.heap.size W (w4.setCell ⟨w.heap.size, 0, none⟩ (.slice A' (pre.length + 1) c')) := (hbl.mono (by omega)).setCell (by simp) _
   have hkept : Kept W0.heap.size F W3 (w4.setCell ⟨w.heap.size, 0, none⟩ (.slice A' (pre.length + 1) c')) := by
    refine Kept.of_fr (M := fun k => k = w.heap.size ∨ Value.ownBlock v = some k) (Fr.setCell (p := ⟨w.heap.size, 0, none⟩) (Fr.grown ((Fr.refl _ W3).alloc _) HG.out (fun k e => .inl (.inr e))) (.inl (.inl rfl)) _) ?_ (by have := HZ3.out; omega)
    intro k hk hm
    rcases hm with hm | hm
    · omega
    · exact ⟨owns_block HO3.out k hm, fun _ => owns_cells HO3.out k hm⟩
   refine ⟨hkept, HQW.out.below _ _ hbl2, .slice A' (pre.length + 1) c', HB4.out.set_ 0 _, ?_, by omega, by simpa using by omega, W1, h3, h4, h5.trans hbl2⟩
   have e1 : (pre ++ [x]).length = pre.length + 1 := by simp
   have e2 : (pre ++ [x]).flatMap Sym.cells = pre.flatMap Sym.cells ++ Sym.cells x := by simp
   rw [e1, e2]
   refine ownsRow_setCell_other (a := ⟨w.heap.size, 0, none⟩) HO4.out (fun h => absurd (owns_block HO4.out _ h) (by have := HFB.out; simp; omega)) _
 · intro F D W hD hIW hK
   subst hI
   obtain ⟨v, h1, h2, hfb, hfw, W1, h3, h4, h5⟩ := hIW
   have p0 := h1.cell 0
   obtain ⟨A, c, rfl, hA⟩ := owns_form h2
   have HO := Lib.hid h2
   have HH := Lib.hid (⟨h3, h4, h5⟩ : Below w.heap.size w W1 ∧ start W1 F ∧ Below w.heap.size F W)
   have HA := Lib.hid hA
   have HK := Lib.hid hK
   have hlt := h1.lt
   simp only [List.getElem?_toArray, List.getElem?_cons_zero] at p0
   clear hq hq0 hIP hbe hb0 hB0 h1 h2 h3 h4 h5 hA hK
   gi_wp2_with fail
   refine ⟨by simp, .inl ⟨_, _, rfl, run_takeDeferred HK.out, ?_⟩⟩
   obtain ⟨h3, h4, h5⟩ := HH.out
   have hpv : Priv w.heap.size W (W.putObj D (.deferred none)) := (Priv.refl _ _).putObj (by omega) HK.out rfl _
   refine ⟨_, results_tmp rfl _ _ _, A, c, rfl, owns_base (ownsRow_priv HO.out hpv) (Nat.zero_le _), HA.out.mono (fun k hk => by omega), W1, F, h3, h4, Below.priv' h5 hpv (Nat.le_refl _) (Nat.le_of_lt hlt)⟩
 · intro F D c pre post W _ _ h
   exact h.elim
end Go.Proofs.YtpndmjabjjbefaaGreat
namespace Go.Proofs.YtpndmjabjjbefaaGreat
open Go.RowKit Go.Shelf
attribute [local go_sem] Oper.semAt_some
set_option maxHeartbeats 400000 in
theorem mktall (b : Nat) (w : World) :
 Calls Tryz.prog 33 #[.pointer (some ⟨b, 0, none⟩)] w fun e w' => e = .returned (.func (.func 64) #[] #[.pointer (some ⟨w.heap.size, 0, none⟩)]) ∧ Below w.heap.size w w' ∧ w'.cell? ⟨w.heap.size, 0, none⟩ = some (.pointer (some ⟨b, 0, none⟩)) := by
 go_enter Tryz.func33, Tryz.ntmps33
 go_wp2
 go_ret
 exact ⟨rfl, (Below.refl _ _).alloc (Nat.le_refl _) _, by go_simp⟩
theorem SeenStart.from_ {b : Nat} {W W1 F : World} (h : SeenStart b W1 F) (hb : Below W.heap.size W W1) : SeenStart b W F := by
 obtain ⟨X, hX, rfl⟩ := h
 exact ⟨X, hb.trans (hX.mono hb.size), rfl⟩
theorem SeenStart.size {b : Nat} {W F : World} (h : SeenStart b W F) : W.heap.size ≤ F.heap.size := by
 obtain ⟨X, hX, rfl⟩ := h
 simpa using hX.size
set_option maxRecDepth 100000 in
set_option maxHeartbeats 2000000 in
theorem tall_is (kb c : Nat) (sn : Bool) (A : Option Addr) (T : TB) (l : List Sym) (W : World) (hbox : W.cell? ⟨kb, 0, none⟩ = some (.pointer (some ⟨T.b, 0, none⟩))) (hB : TabBlk W T) (hS : SymSet W T.bs sn A c l) :
 IterP Tryz.prog 64 #[.pointer (some ⟨kb, 0, none⟩)] encSym l W (SeenStart T.bs) (RowKeep A) := by
 intro lo J Jx hJ hJx h0 hY
 have hbsl := hS.lt
 have hkb := World.block_lt_of_cell? W _ hbox
 have hAl := hS.row_lt
 have s1 := (hB.1.cell 1).trans rfl
 have hbl := hB.1.lt
 have HJ := Lib.hid hJ
 have HJx := Lib.hid hJx
 have H0 := Lib.hid h0
 have HY := Lib.hid hY
 have HS := Lib.hid hS
 have HA := Lib.hid hAl
 clear hJ hJx h0 hY hS hB hAl
 refine callsIn_of_wp_marks Tryz.func64 rfl trivial ?_
 simp only [Tryz.ntmps64, List.size_toArray, List.length_cons, List.length_nil, Nat.reduceAdd, Nat.reduceSub, Array.replicate_succ, Array.replicate_zero, List.push_toArray, List.append_toArray, List.nil_append, List.cons_append]
 gi_wp2_with fail
 refine ⟨trivial, rfl, ?_⟩
 obtain ⟨W0, hW0⟩ : ∃ W0, W0 = W.alloc (.cells #[.func (.yield lo) #[] #[]] 91) := ⟨_, rfl⟩
 have hb0 : Below W.heap.size W W0 := by rw [hW0]; exact (Below.refl _ _).alloc (Nat.le_refl _) _
 have hY0 : Blk W0 W.heap.size 91 #[.func (.yield lo) #[] #[]] := by rw [hW0]; exact Blk.new _ _ _
 rw [← hW0]
 clear hW0
 refine (callsIn_wide.2 (mkall_Sym T.bs W0)).mono ?_
 rintro e w3 ⟨rfl, hb3, hbox3⟩
 have hz0 := hY0.lt
 have hz3 := hb3.size
 have hY3 := (hY0.new_ hb3)
 have hB3 : Below W.heap.size W w3 := hb0.trans (hb3.mono hb0.size)
 have hSQ := seq_all_Sym W0.heap.size T.bs _ _ _ l w3 hbox3 (HS.out.new_ hB3)
 have HSQ := Lib.hid hSQ
 have HY3 := Lib.hid hY3
 have HB3 := Lib.hid hB3
 clear hb0 hY0 hb3 hbox3 hSQ hY3 hB3 s1
 gi_wp2_with fail
 obtain ⟨I, hI⟩ : ∃ I : World → List Sym → World → Prop, I = fun F p X => (SeenStart T.bs W F ∧ F.heap.size ≤ X.heap.size ∧ W.heap.size < F.heap.size) ∧ J F p X ∧ X.cell? ⟨W.heap.size, 0, none⟩ = some (.func (.yield lo) #[] #[]) := ⟨_, rfl⟩
 obtain ⟨Ix, hIx⟩ : ∃ Ix : World → Code → List Sym → World → Prop, Ix = fun F c p X => c = .ret ∧ SeenStart T.bs W F ∧ Jx F p X := ⟨_, rfl⟩
 refine wpIn_rangeP (w := w3) (by rfl) HSQ.out.enter HSQ.out.p.iter (fun x => by rfl) HSQ.out.trans HSQ.out.keep (fun W W1 h => keepsFrom_of_fr (HSQ.out.mods W W1 h)) I Ix ?_ ?_ ?_ ?_ ?_ ?_
 · subst hI
   rintro F p X Y ⟨g0, g1, g2⟩ hp
   exact ⟨⟨g0.1, Nat.le_trans g0.2.1 hp.size, g0.2.2⟩, HJ.out F p X Y g1 (hp.mono (by omega)), cell_priv g2 hp⟩
 · subst hIx
   rintro F c p X Y ⟨g0, g1, g2⟩ hp
   exact ⟨g0, g1, HJx.out F p X Y g2 (hp.mono (by omega))⟩
 · intro X F hX hs
   subst hI
   have hs2 := hs.from_ (HB3.out.trans (hX.mono (by omega)))
   have hs3 := hs.size
   have hx3 := hX.size
   refine ⟨⟨hs2, Nat.le_refl _, by omega⟩, H0.out F hs2, ?_⟩
   have hy := HY3.out.new_ hX
   exact ((hs.fr.cell (p := ⟨W.heap.size, 0, none⟩) hy.lt (fun e => by dsimp only at e; omega)).trans ((hy.cell 0).trans rfl))
 · intro F lo2 pre x post X hx hlo hIW
   have HX := Lib.hid hx
   clear hx
   rw [hI] at hIW
   obtain ⟨⟨hst, hfx, hwf⟩, hJ1, hyc⟩ := hIW
   have HI := Lib.hid hI
   have HIx := Lib.hid hIx
   have HST := Lib.hid hst
   have HJ1 := Lib.hid hJ1
   have hyl := World.block_lt_of_cell? X _ hyc
   clear hI hIx hst hJ1
   simp only [encSym, Array.zip]
   gi_wp2_with fail
   have hJ2 := HJ.out F pre X _ HJ1.out ((Priv.refl W.heap.size X).alloc (.cells #[.int .i64 x.kind, .string x.text, .int .i64 x.n] 23))
   have hb9 : Below X.heap.size X (X.alloc (.cells #[.int .i64 x.kind, .string x.text, .int .i64 x.n] 23)) := (Below.refl _ _).alloc (Nat.le_refl _) _
   have hyc2 := (hb9.cell (p := ⟨W.heap.size, 0, none⟩) hyl).trans hyc
   have hx9 : Blk (X.alloc (.cells #[.int .i64 x.kind, .string x.text, .int .i64 x.n] 23)) X.heap.size 23 #[.int .i64 x.kind, .string x.text, .int .i64 x.n] := Blk.new _ _ _
   have hx3 : w3.heap.size ≤ X.heap.size ∨ X.heap.size < w3.heap.size := by omega
   have hrk9 : RowKeep A X (X.alloc (.cells #[.int .i64 x.kind, .string x.text, .int .i64 x.n] 23)) := RowKeep.of_priv HA.out (((Priv.refl W.heap.size X).alloc _))
   refine ⟨Kept.new_ hb9 hfx, fun X2 hp2 hz2 _ _ => ?_⟩
   have hJ3 := HJ.out F pre _ X2 hJ2 (hp2.mono (by omega))
   have hyc3 := cell_priv hyc2 hp2
   have hx2 := hx9.priv hp2
   have x0 : X2.cell? ⟨X.heap.size, 0, none⟩ = some (.int .i64 x.kind) := (hx2.cell 0).trans rfl
   have x1 : X2.cell? ⟨X.heap.size, 1, none⟩ = some (.string x.text) := (hx2.cell 1).trans rfl
   have x2 : X2.cell? ⟨X.heap.size, 2, none⟩ = some (.int .i64 x.n) := (hx2.cell 2).trans rfl
   have hrk2 : RowKeep A X X2 := hrk9.trans (RowKeep.of_priv HA.out (hp2.mono (B := W.heap.size) (by omega)))
   have HRK := Lib.hid hrk2
   have hfx2 : F.heap.size ≤ X2.heap.size := by omega
   have hxl2 := hx2.lt
   obtain ⟨fn, tmps, assign, body, hy, hR⟩ := HY.out F pre x post X2 HST.out HX.out hJ3
   dsimp only [encSym] at hy
   have HRR := Lib.hid hR
   have hyl2 := World.block_lt_of_cell? X2 _ hyc3
   have HYC3 := Lib.hid hyc3
   clear hR hJ2 hb9 hyc2 hx9 hx3 hrk9 hp2 hJ3 hx2 hrk2 hyc
   gi_wp2_with fail
   refine ⟨rfl, HRR.out.mono ?_⟩
   rintro e W3 (⟨rfl, hJ3, hk3, hkept⟩ | ⟨rfl, hJx3, hkept⟩)
   · have HJ3 := Lib.hid hJ3
     have HK3 := Lib.hid hk3
     have HKE := Lib.hid hkept
     clear hJ3 hk3 hkept hy x0 x1 x2 hyc3
     gi_wp2
     have hI := HI.out
     subst hI
     refine ⟨HKE.out.up (by omega), HRK.out.trans HK3.out, ⟨HST.out, Nat.le_trans hfx2 HK3.out.1, hwf⟩, HJ3.out, ?_⟩
     exact (World.cell?_of_block (a := ⟨W.heap.size, 0, none⟩) (HKE.out.own _ (Nat.le_refl _) hwf)).trans HYC3.out
   · have HJ3 := Lib.hid hJx3
     have HKE := Lib.hid hkept
     clear hJx3 hkept hy x0 x1 x2 hyc3
     gi_wp2
     have hIx := HIx.out
     subst hIx
     exact ⟨HKE.out.up (by omega), rfl, HST.out, HJ3.out⟩
 · intro F D X hD hIW hK
   subst hI
   obtain ⟨⟨hst, _, _⟩, hJ1, _⟩ := hIW
   have HST := Lib.hid hst
   have HJ1 := Lib.hid hJ1
   have HK := Lib.hid hK
   clear hst hJ1 hK hIx
   gi_wp2_with fail
   refine ⟨by simp, .inl ⟨_, _, rfl, run_takeDeferred HK.out, ?_⟩⟩
   have hpv : Priv W.heap.size X (X.putObj D (.deferred none)) := (Priv.refl _ _).putObj (by omega) HK.out rfl _
   exact ⟨_, results_none rfl _ _ _, ⟨_, rfl⟩, F, HST.out, .inl (HJ.out F _ _ _ HJ1.out hpv)⟩
 · intro F D c pre post X hD hx hIW hK
   subst hIx
   obtain ⟨rfl, hst, hJ1⟩ := hIW
   have HST := Lib.hid hst
   have HJ1 := Lib.hid hJ1
   have HK := Lib.hid hK
   have HX := Lib.hid hx
   clear hst hJ1 hK hI hx
   gi_wp2_with fail
   refine ⟨by simp, .inl ⟨_, _, rfl, run_takeDeferred HK.out, ?_⟩⟩
   have hpv : Priv W.heap.size X (X.putObj D (.deferred none)) := (Priv.refl _ _).putObj (by omega) HK.out rfl _
   exact ⟨_, results_none rfl _ _ _, ⟨_, rfl⟩, F, HST.out, .inr ⟨pre, post, HX.out, HJx.out F _ _ _ HJ1.out hpv⟩⟩
theorem seq_tall (kb c : Nat) (sn : Bool) (A : Option Addr) (T : TB) (l : List Sym) (w : World) (hbox : w.cell? ⟨kb, 0, none⟩ = some (.pointer (some ⟨T.b, 0, none⟩))) (hB : TabBlk w T) (hS : SymSet w T.bs sn A c l) :
 SeqP 64 #[.pointer (some ⟨kb, 0, none⟩)] encSym l w (SeenStart T.bs) (RowKeep A) :=
 ⟨by intro args w; kernel_rfl, fun W hW => tall_is kb c sn A T l W ((hW.cell (World.block_lt_of_cell? _ _ hbox)).trans hbox) (hB.below hW) (hS.new_ hW), fun _ _ _ => RowKeep.trans, fun _ _ => RowKeep.of_priv hS.row_lt, fun _ _ => RowKeep.of_below hS.row_lt, fun _ _ h => h.fr.mono (fun k _ hk => by subst hk; exact hS.lt)⟩
end Go.Proofs.YtpndmjabjjbefaaGreat
namespace Go.Proofs.YtpndmjabjjbefaaGreat
open Go.RowKit
def maxL (l : List Sym) (c : UInt8) : Int := l.foldl (fun n s => if s.kind = 1 ∧ s.text = letB c then max n s.n else n) 0
def nextL (l : List Sym) (c : UInt8) : Int := if greatB c = true then maxL l c + 1 else 0
theorem maxL_snoc (l : List Sym) (s : Sym) (c : UInt8) : maxL (l ++ [s]) c = if s.kind = 1 ∧ s.text = letB c then max (maxL l c) s.n else maxL l c := by simp [maxL]
def RTabA (w : World) (k : Nat) (room : Int) (l : List Sym) (A : Option Addr) (cap : Nat) : Prop := Blk w k 88 #[.int .i64 room, .slice A l.length cap] ∧ RowRd w 3 Sym.cells A cap l ∧ AIn A (fun j => j ≠ k ∧ j < w.heap.size)
def From (A : Option Addr) (n : Nat) (A' : Option Addr) : Prop := AIn A' (fun j => (∃ a, A = some a ∧ a.block = j) ∨ n ≤ j)
theorem From.refl (A : Option Addr) (n : Nat) : From A n A := fun a ha => .inl ⟨a, ha, rfl⟩
theorem From.step {A A' A2 : Option Addr} {n n' m : Nat} (h : From A n A') (hn : n ≤ n') (h2 : A2 = A' ∨ AIn A2 (fun j => n' ≤ j ∧ j < m)) : From A n A2 := by
 rcases h2 with rfl | h2
 · exact h
 · exact h2.mono (fun j hj => .inr (by omega))
theorem From.in_ {A A' : Option Addr} {n : Nat} {S : Nat → Prop} (h : From A n A') (hA : AIn A S) (hn : ∀ j, n ≤ j → S j) : AIn A' S := h.mono (fun j hj => by
 rcases hj with ⟨a, ha, rfl⟩ | hj
 · exact hA a ha
 · exact hn j hj)
end Go.Proofs.YtpndmjabjjbefaaGreat
namespace Go.Proofs.YtpndmjabjjbefaaGreat
open Go.RowKit
attribute [local go_sem] eql_sym neq_sym
theorem cmpStr_lt {a b : ByteArray} : cmpStr a b < 0 ↔ Op.bytesLess a.toList b.toList = true := by
 unfold cmpStr
 split
 · simp_all
 · rename_i h
   split <;> simp_all
theorem cmpInt_lt {a b : Int} : cmpInt a b < 0 ↔ a < b := by
 unfold cmpInt
 split
 · simp_all
 · split
   · simp_all
   · simp_all
theorem dec_int (a b : Int) : decide (cmpInt a b < 0) = decide (a < b) := decide_eq_decide.2 cmpInt_lt
theorem dec_str (a b : ByteArray) : decide (cmpStr a b < 0) = Op.bytesLess a.toList b.toList := by
 rw [Bool.eq_iff_iff, decide_eq_true_iff]; exact cmpStr_lt
set_option maxRecDepth 100000 in
set_option maxHeartbeats 1000000 in
theorem before_is (a b : Sym) (w : World) : Calls Tryz.prog 108 #[.agg #[.int .i64 a.kind, .string a.text, .int .i64 a.n], .agg #[.int .i64 b.kind, .string b.text, .int .i64 b.n]] w fun e w' => e = .returned (.bool (decide (cmpSym a b < 0))) ∧ Below w.heap.size w w' := by
 obtain ⟨ak, at_, an⟩ := a
 obtain ⟨bk, bt, bn⟩ := b
 by_cases h1 : ak = bk
 · by_cases h2 : at_ = bt
   · have hc : cmpSym ⟨ak, at_, an⟩ ⟨bk, bt, bn⟩ = cmpInt an bn := by
      have e1 := cmpInt_eq.2 h1
      have e2 := cmpStr_eq.2 h2
      simp [cmpSym, andThen, e1, e2]
     have HC := Lib.hid hc
     subst h1; subst h2
     clear hc
     go_enter Tryz.func108, Tryz.ntmps108
     go_wp2_with fail
     go_ret
     refine ⟨?_, ((Below.refl _ _).alloc (Nat.le_refl _) _).alloc (by simp) _⟩
     rw [HC.out, dec_int]; rfl
   · have hc : cmpSym ⟨ak, at_, an⟩ ⟨bk, bt, bn⟩ = cmpStr at_ bt := by
      have e1 := cmpInt_eq.2 h1
      have e2 : cmpStr at_ bt ≠ 0 := fun h => h2 (cmpStr_eq.1 h)
      simp [cmpSym, andThen, e1, e2]
     have h3 : ¬ at_.toList = bt.toList := fun h => h2 (toList_inj h)
     have n3 : (at_.toList == bt.toList) = false := by simp [h3]
     have HC := Lib.hid hc
     subst h1
     clear hc h2
     go_enter Tryz.func108, Tryz.ntmps108
     go_wp2_with fail
     go_ret
     refine ⟨?_, ((Below.refl _ _).alloc (Nat.le_refl _) _).alloc (by simp) _⟩
     rw [HC.out, dec_str]; rfl
 · have hc : cmpSym ⟨ak, at_, an⟩ ⟨bk, bt, bn⟩ = cmpInt ak bk := by
    have e1 : cmpInt ak bk ≠ 0 := fun h => h1 (cmpInt_eq.1 h)
    simp [cmpSym, andThen, e1]
   have HC := Lib.hid hc
   clear hc
   go_enter Tryz.func108, Tryz.ntmps108
   go_wp2_with fail
   go_ret
   refine ⟨?_, ((Below.refl _ _).alloc (Nat.le_refl _) _).alloc (by simp) _⟩
   rw [HC.out, dec_int]; rfl
end Go.Proofs.YtpndmjabjjbefaaGreat
