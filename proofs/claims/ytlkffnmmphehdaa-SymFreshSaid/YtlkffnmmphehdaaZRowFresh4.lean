/-
  For every input SymFresh answers true, and leaves its arguments and all that was there as they were. No conditions.
-/
import Derived.Test.YtlkffnmmphehdaaMg

namespace Go.Proofs.Ytlkffnmmphehdaa
open Go.RowKit Go.Shelf
attribute [local go_sem] Oper.semAt_some
def byteCells (c : UInt8) : List Value := [.int .u8 (c.toNat : Int)]
theorem reads_byte : Reads Try.prog 5 1 byteCells :=
  ⟨by kernel_rfl, fun H enc w base spare held n cs x h => by
    obtain ⟨k, rfl, _, hw⟩ := DataW.trod_int Try.underlying5 h
    obtain ⟨c, rfl⟩ := u8_of hw
    exact ⟨c, rfl⟩⟩
theorem byte_at {w : World} {A : Option Addr} {c k : Nat} {l : List UInt8} (h : RowRd w 1 byteCells A c l) (hk : k < l.length) : ∃ g off, A = some ⟨g, off, none⟩ ∧ g < w.heap.size ∧ w.cell? ⟨g, off + k, none⟩ = some (.int .u8 (l[k].toNat : Int)) := by
  obtain ⟨g, off, hA, hg, hc⟩ := h.at_ hk
  exact ⟨g, off, hA, hg, by simpa using hc 0 _ rfl⟩
/-- What stands between two rounds. -/
def RoundF (w : World) (T : TB) (room : Int) (A : Option Addr) (cap : Nat) (K : List Sym) (W : World) : Prop := ∃ L D, One D W T L ∧ T.room = room ∧ RowRd W 3 Sym.cells A cap K ∧ AIn A D ∧ (∀ s ∈ K, s ∈ L) ∧ (∀ j, j < w.heap.size → D j) ∧ Below w.heap.size w W
theorem fr_low2 {w W W' : World} {D : Nat → Prop} (hF : Fr (fun j => ¬ D j) W W') (h : ∀ j, j < w.heap.size → D j) (hs : w.heap.size ≤ W.heap.size) : Below w.heap.size W W' := hF.below hs (fun j hj hn => hn (h j hj))
theorem freshE_cases (room : Int) (L : List Sym) (c : UInt8) : freshE room L c = 1 ∨ (freshE room L c = 20 ∧ (room ≤ (L.length : Int) ∨ 1048576 < nextL L c)) ∨ (freshE room L c = 0 ∧ greatB c = true ∧ nextL L c ≤ 1048576) := by
  unfold freshE
  by_cases h0 : nextL L c = 0
  · rw [if_pos h0]; exact .inl rfl
  · rw [if_neg h0]
    by_cases h1 : room ≤ (L.length : Int) ∨ 1048576 < nextL L c
    · rw [if_pos h1]; exact .inr (.inl ⟨rfl, h1⟩)
    · rw [if_neg h1]
      refine .inr (.inr ⟨rfl, ?_, by omega⟩)
      cases hg : greatB c
      · exact absurd (nextL_zero hg) h0
      · rfl
theorem nextL_put {L : List Sym} {c : UInt8} (hg : greatB c = true) : nextL (put cmpSym L ⟨1, letB c, nextL L c⟩) c = nextL L c + 1 := by
  have h6 : nextL L c = maxL L c + 1 := by unfold nextL; rw [if_pos hg]
  have h7 : nextL (put cmpSym L ⟨1, letB c, nextL L c⟩) c = maxL (put cmpSym L ⟨1, letB c, nextL L c⟩) c + 1 := by unfold nextL; rw [if_pos hg]
  rw [h7, maxL_put, if_pos ⟨rfl, rfl⟩]
  dsimp only
  omega
set_option maxRecDepth 100000 in
set_option maxHeartbeats 16000000 in
theorem fresh4_walk (n0 : Int) (A1 A2 : Option Addr) (c1 c2 : Nat) (l1 : List UInt8) (l2 : List Sym) (w : World) (hr1 : RowRd w 1 byteCells A1 c1 l1) (hr2 : RowRd w 3 Sym.cells A2 c2 l2) :
    Calls Try.prog 8 #[.int .i64 n0, .slice A1 l1.length c1, .slice A2 l2.length c2] w fun e w' => e = .returned (.bool true) ∧ Below w.heap.size w w' := by
  have hlc1 := hr1.cap
  have hlc2 := hr2.cap
  have HR1 := Lib.hid hr1
  have HR2 := Lib.hid hr2
  clear hr1 hr2
  obtain ⟨j, hj, hj6⟩ := within_nat n0 (n := 60) (by decide)
  obtain ⟨room, hroom⟩ : ∃ room : Int, room = 1 + (j : Int) := ⟨_, rfl⟩
  have h1 : 1 ≤ room := by omega
  have h2 : room ≤ 4096 := by omega
  have v1 : IntKind.i64.wrap (1 + (j : Int)) = room := by rw [hroom]; exact IntWalk.i64_in _ (by omega)
  have HJ := Lib.hid (show within n0 60 = (j : Int) from hj)
  clear hj hroom
  have start : ∀ (K : Ending → World → Prop), True := fun _ => trivial
  clear start
  by_cases hbig : 80 < l1.length ∨ 20 < l2.length
  · by_cases h80 : 80 < l1.length
    all_goals
      first | have t1 : decide ((80 : Int) < (l1.length : Int)) = true := by (simp; omega) | skip
      first | have t1 : decide ((80 : Int) < (l1.length : Int)) = false := by (simp; omega) | skip
      first | have t2 : decide ((20 : Int) < (l2.length : Int)) = true := by (simp; omega) | skip
      clear hbig h80
      go_enter Try.func8, Try.ntmps8
      go_wp2_with fail
      refine (within_is n0 60 _ (by decide)).mono ?_
      rintro e w' ⟨rfl, rfl⟩
      rw [HJ.out]
      go_wp2_with fail
      refine (one_new room w h1 h2).mono ?_
      rintro e w1 ⟨T, rfl, hrm, hO, hb⟩
      have HB := Lib.hid hb
      clear hO hb hrm
      go_wp2_with fail
      refine (wakes4_is _).mono ?_
      rintro e w2 ⟨rfl, hb1⟩
      have HB1 := Lib.hid (HB.out.trans (hb1.mono HB.out.size))
      clear hb1
      go_wp2_with fail
      go_ret
      exact ⟨rfl, HB1.out⟩
  have t1 : decide ((80 : Int) < (l1.length : Int)) = false := by simp; omega
  have t2 : decide ((20 : Int) < (l2.length : Int)) = false := by simp; omega
  have hl1 : (l1.length : Int) ≤ 80 := by omega
  have hl2 : (l2.length : Int) ≤ 20 := by omega
  clear hbig
  go_enter Try.func8, Try.ntmps8
  go_wp2_with fail
  refine (within_is n0 60 _ (by decide)).mono ?_
  rintro e w' ⟨rfl, rfl⟩
  rw [HJ.out]
  go_wp2_with fail
  refine (one_new room w h1 h2).mono ?_
  rintro e w1 ⟨T, rfl, hrm, hO, hb⟩
  have HB := Lib.hid hb
  have HO := Lib.hid hO
  have HRM := Lib.hid hrm
  clear hO hb hrm
  go_wp2_with fail
  refine (one_put l2 A2 c2 HO.out (HR2.out.new_ HB.out) (by omega)).mono ?_
  rintro e w2 ⟨rfl, hO2, hF2, hK2⟩
  rw [HRM.out] at hO2 ⊢
  have HO2 := Lib.hid hO2
  have HB2 := Lib.hid (HB.out.trans (fr_low2 hF2 (fun j hj => hj) HB.out.size))
  clear hO2 hF2 hK2
  go_wp2_with fail
  refine (mktall T.b _).mono ?_
  rintro e w3 ⟨rfl, hb3, hbox⟩
  have HO3 := Lib.hid (HO2.out.below hb3)
  have HB3 := Lib.hid (HB2.out.trans (hb3.mono HB2.out.size))
  have HBOX := Lib.hid hbox
  clear hb3 hbox
  go_wp2_with fail
  refine (one_list _ HO3.out HBOX.out).mono ?_
  rintro e w4 ⟨A, cap, rfl, hrow, hA, hO4, hF4, hK4⟩
  obtain ⟨K, hK⟩ : ∃ K, K = putList room [] l2 := ⟨_, rfl⟩
  rw [← hK] at hrow hO4 ⊢
  have HST := Lib.hid (show RoundF w T room A cap K w4 from ⟨K, _, hO4, HRM.out, hrow, hA.mono (fun j hj => .inr hj), fun s hs => hs, fun j hj => .inl hj, HB3.out.trans (fr_low2 hF4 (fun j hj => hj) HB3.out.size)⟩)
  clear hrow hO4 hF4 hK4 hA hK t1 t2
  go_wp2_with fail
  go_loopw [9] (fun s wr => ∃ i : Nat, s = .int .i64 i ∧ i ≤ l1.length ∧ RoundF w T room A cap K wr) (fun s wr => l1.length - (intOf s).toNat)
  case atStart => exact ⟨0, rfl, Nat.zero_le _, HST.out⟩
  case round =>
    obtain ⟨i, rfl, hi, L, D, hO, hrm, hrow, hAD, hKL, hlow, hBl⟩ := hrel
    have HO5 := Lib.hid hO
    have HROW := Lib.hid hrow
    have HD := Lib.hid (⟨hAD, hlow⟩ : AIn A D ∧ ∀ j, j < w.heap.size → D j)
    have HKL := Lib.hid hKL
    have HBl := Lib.hid hBl
    have hsl := hBl.size
    obtain ⟨hls, hlv, hll, hl4⟩ := hO.list_
    have HLS := Lib.hid hls
    rw [hrm] at hll hl4
    clear hO hrm hrow hAD hKL hlow hBl HST hls hlv
    by_cases hlt : i < l1.length
    · obtain ⟨x, hx⟩ : ∃ x, x = l1[i] := ⟨_, rfl⟩
      obtain ⟨g, off, rfl, hg, q0⟩ := byte_at (HR1.out.new_ HBl.out) hlt
      rw [← hx] at q0
      have b1 : (0 : Int) ≤ (i : Int) := by omega
      have b2 : (i : Int) < (l1.length : Int) := by omega
      have hgw : g < w.heap.size := by
        obtain ⟨g2, off2, e, hg2, _⟩ := byte_at HR1.out hlt
        cases e; exact hg2
      clear hx
      go_wp2_with fail
      refine (one_len HO5.out).mono ?_
      rintro e wx ⟨rfl, rfl⟩
      go_wp2_with fail
      refine (one_fresh x HO5.out).mono ?_
      rintro e W2 ⟨rfl, hO2, hF2, hK2⟩
      rw [HRM.out] at hO2 ⊢
      have hbW2 : Below w.heap.size wr W2 := fr_low2 hF2 HD.out.2 hsl
      have HB2' := Lib.hid (HBl.out.trans hbW2)
      have HROW2 := Lib.hid (HROW.out.fr hF2 (HD.out.1.mono (fun j hj hn => hn hj)))
      have q0' : W2.cell? ⟨g, off + i, none⟩ = some (.int .u8 (x.toNat : Int)) := (hbW2.cell (p := ⟨g, off + i, none⟩) hgw).trans q0
      have hz2 := hbW2.size
      have hg2 : g < W2.heap.size := by omega
      clear hbW2 hF2 hK2 q0
      rcases freshE_cases room L x with he | ⟨he, hwhy⟩ | ⟨he, hgr, hn⟩
      · have e1 : freshS room L x = zsym := by unfold freshS; rw [he]; rfl
        have e2 : freshL room L x = L := by unfold freshL; rw [he]; rfl
        rw [e1, he]
        rw [e2] at hO2
        have HO6 := Lib.hid hO2
        clear e1 e2 he hO2
        simp only [zsym]
        go_wp2_with fail
        obtain ⟨g1, hg1⟩ : ∃ g1, g1 = W2.heap.size := ⟨_, rfl⟩
        obtain ⟨W3, hW3⟩ : ∃ W3, W3 = W2.alloc (.cells #[.int .i64 0, .string ⟨#[]⟩, .int .i64 0] 23) := ⟨_, rfl⟩
        have hbn : Below W2.heap.size W2 W3 := by rw [hW3]; exact (Below.refl _ _).alloc (Nat.le_refl _) _
        rw [← hW3]
        have HO7 := Lib.hid (HO6.out.below hbn)
        have HB7 := Lib.hid (HB2'.out.trans (hbn.mono HB2'.out.size))
        have HROW7 := Lib.hid (HROW2.out.new_ hbn)
        have q7 : W3.cell? ⟨g, off + i, none⟩ = some (.int .u8 (x.toNat : Int)) := (hbn.cell (p := ⟨g, off + i, none⟩) hg2).trans q0'
        have hg7 : g < W3.heap.size := Nat.lt_of_lt_of_le hg2 hbn.size
        clear hbn hW3 hg1 q0' HO6
        go_wp2_with fail
        refine (one_len HO7.out).mono ?_
        rintro e wx ⟨rfl, rfl⟩
        go_wp2_with fail
        go_roundw
        case rel => exact ⟨i + 1, by go_num, by omega, L, D, HO7.out, HRM.out, HROW7.out, HD.out.1, HKL.out, HD.out.2, HB7.out⟩
        case measure => simp [intOf] <;> omega
      · by_cases hfull : (L.length : Int) < room
        · have t5 : decide ((L.length : Int) < room) = true := by simpa using hfull
          have t6 : decide (nextL L x ≤ 1048576) = false := by simp; omega
          clear hfull hwhy
          have e1 : freshS room L x = zsym := by unfold freshS; rw [he]; rfl
          have e2 : freshL room L x = L := by unfold freshL; rw [he]; rfl
          rw [e1, he]
          rw [e2] at hO2
          have HO6 := Lib.hid hO2
          clear e1 e2 he hO2
          simp only [zsym]
          go_wp2_with fail
          obtain ⟨g1, hg1⟩ : ∃ g1, g1 = W2.heap.size := ⟨_, rfl⟩
          obtain ⟨W3, hW3⟩ : ∃ W3, W3 = W2.alloc (.cells #[.int .i64 0, .string ⟨#[]⟩, .int .i64 0] 23) := ⟨_, rfl⟩
          have hbn : Below W2.heap.size W2 W3 := by rw [hW3]; exact (Below.refl _ _).alloc (Nat.le_refl _) _
          rw [← hW3]
          have HO7 := Lib.hid (HO6.out.below hbn)
          have HB7 := Lib.hid (HB2'.out.trans (hbn.mono HB2'.out.size))
          have HROW7 := Lib.hid (HROW2.out.new_ hbn)
          have q7 : W3.cell? ⟨g, off + i, none⟩ = some (.int .u8 (x.toNat : Int)) := (hbn.cell (p := ⟨g, off + i, none⟩) hg2).trans q0'
          have hg7 : g < W3.heap.size := Nat.lt_of_lt_of_le hg2 hbn.size
          clear hbn hW3 hg1 q0' HO6
          go_wp2_with fail
          refine (one_len HO7.out).mono ?_
          rintro e wx ⟨rfl, rfl⟩
          go_wp2_with fail
          refine (one_next x HO7.out).mono ?_
          rintro e W8 ⟨rfl, hb8⟩
          have HO8 := Lib.hid (HO7.out.below hb8)
          have HB8 := Lib.hid (HB7.out.trans (hb8.mono HB7.out.size))
          have HROW8 := Lib.hid (HROW7.out.new_ hb8)
          clear hb8
          go_wp2_with fail
          go_roundw
          case rel => exact ⟨i + 1, by go_num, by omega, L, D, HO8.out, HRM.out, HROW8.out, HD.out.1, HKL.out, HD.out.2, HB8.out⟩
          case measure => simp [intOf] <;> omega
        · have t5 : decide ((L.length : Int) < room) = false := by simpa using hfull
          clear hfull hwhy
          have e1 : freshS room L x = zsym := by unfold freshS; rw [he]; rfl
          have e2 : freshL room L x = L := by unfold freshL; rw [he]; rfl
          rw [e1, he]
          rw [e2] at hO2
          have HO6 := Lib.hid hO2
          clear e1 e2 he hO2
          simp only [zsym]
          go_wp2_with fail
          obtain ⟨g1, hg1⟩ : ∃ g1, g1 = W2.heap.size := ⟨_, rfl⟩
          obtain ⟨W3, hW3⟩ : ∃ W3, W3 = W2.alloc (.cells #[.int .i64 0, .string ⟨#[]⟩, .int .i64 0] 23) := ⟨_, rfl⟩
          have hbn : Below W2.heap.size W2 W3 := by rw [hW3]; exact (Below.refl _ _).alloc (Nat.le_refl _) _
          rw [← hW3]
          have HO7 := Lib.hid (HO6.out.below hbn)
          have HB7 := Lib.hid (HB2'.out.trans (hbn.mono HB2'.out.size))
          have HROW7 := Lib.hid (HROW2.out.new_ hbn)
          have q7 : W3.cell? ⟨g, off + i, none⟩ = some (.int .u8 (x.toNat : Int)) := (hbn.cell (p := ⟨g, off + i, none⟩) hg2).trans q0'
          have hg7 : g < W3.heap.size := Nat.lt_of_lt_of_le hg2 hbn.size
          clear hbn hW3 hg1 q0' HO6
          go_wp2_with fail
          refine (one_len HO7.out).mono ?_
          rintro e wx ⟨rfl, rfl⟩
          go_wp2_with fail
          go_roundw
          case rel => exact ⟨i + 1, by go_num, by omega, L, D, HO7.out, HRM.out, HROW7.out, HD.out.1, HKL.out, HD.out.2, HB7.out⟩
          case measure => simp [intOf] <;> omega
      · have e1 : freshS room L x = ⟨1, letB x, nextL L x⟩ := by unfold freshS; rw [if_pos he]
        have e2 : freshL room L x = put cmpSym L ⟨1, letB x, nextL L x⟩ := by unfold freshL; rw [if_pos he]
        rw [e1, he]
        rw [e2] at hO2
        have hnew := fresh_not (L := L) hgr
        obtain ⟨L', hL'⟩ : ∃ L', L' = put cmpSym L ⟨1, letB x, nextL L x⟩ := ⟨_, rfl⟩
        rw [← hL'] at hO2
        have HO6 := Lib.hid hO2
        have HLEN := Lib.hid (show ((L'.length : Nat) : Int) = (L.length : Int) + 1 by rw [hL', length_put tc_sym HLS.out hnew]; omega)
        have HHAS := Lib.hid (show has cmpSym L' ⟨1, letB x, nextL L x⟩ = true by rw [hL', has_mem]; exact mem_put_iff.2 (.inr rfl))
        have HNOT := Lib.hid (show has cmpSym K ⟨1, letB x, nextL L x⟩ = false from hasNot.2 (fun hm => hasNot.1 hnew (HKL.out _ hm)))
        have HNX := Lib.hid (show nextL L' x = nextL L x + 1 by rw [hL']; exact nextL_put hgr)
        have HKL' := Lib.hid (show ∀ s ∈ K, s ∈ L' from fun s hs => by rw [hL']; exact mem_put_iff.2 (.inl (HKL.out s hs)))
        have hn0 := nextL_pos (L := L) hgr
        have v2 : IntKind.i64.wrap ((L.length : Int) + 1) = (L.length : Int) + 1 := IntWalk.i64_in _ (by omega)
        have v3 : IntKind.i64.wrap (nextL L x + 1) = nextL L x + 1 := IntWalk.i64_in _ (by omega)
        clear e1 e2 he hO2 hnew hL' hgr
        go_wp2_with fail
        obtain ⟨g1, hg1⟩ : ∃ g1, g1 = W2.heap.size := ⟨_, rfl⟩
        obtain ⟨W3, hW3⟩ : ∃ W3, W3 = W2.alloc (.cells #[.int .i64 1, .string (letB x), .int .i64 (nextL L x)] 23) := ⟨_, rfl⟩
        have hbn : Below W2.heap.size W2 W3 := by rw [hW3]; exact (Below.refl _ _).alloc (Nat.le_refl _) _
        have hS3 : Blk W3 g1 23 #[.int .i64 1, .string (letB x), .int .i64 (nextL L x)] := by rw [hW3, hg1]; exact Blk.new _ _ _
        rw [← hW3, ← hg1]
        have HO7 := Lib.hid (HO6.out.below hbn)
        have HB7 := Lib.hid (HB2'.out.trans (hbn.mono HB2'.out.size))
        have HROW7 := Lib.hid (HROW2.out.new_ hbn)
        have q7 : W3.cell? ⟨g, off + i, none⟩ = some (.int .u8 (x.toNat : Int)) := (hbn.cell (p := ⟨g, off + i, none⟩) hg2).trans q0'
        have hg7 : g < W3.heap.size := Nat.lt_of_lt_of_le hg2 hbn.size
        have y0 : W3.cell? ⟨g1, 0, none⟩ = some (.int .i64 1) := (hS3.cell 0).trans rfl
        have y1 : W3.cell? ⟨g1, 1, none⟩ = some (.string (letB x)) := (hS3.cell 1).trans rfl
        have y2 : W3.cell? ⟨g1, 2, none⟩ = some (.int .i64 (nextL L x)) := (hS3.cell 2).trans rfl
        have hgl := hS3.lt
        clear hbn hW3 hg1 q0' HO6 hS3
        go_wp2_with fail
        refine wp_region_E (fun w9 => Below W3.heap.size W3 w9) [(0, 0), (2, 0), (3, 0), (1, 2), (4, 0), (5, 0), (6, 0), (7, 1), (8, 2), (9, 0), (10, 0), (11, 0), (12, 0), (13, 1), (14, 0), (15, 0), (16, 0), (17, 0), (18, 1), (19, 0), (20, 0), (21, 0), (22, 1), (23, 2), (24, 2), (25, 0), (26, 0), (27, 0), (28, 0), (29, 1), (30, 2), (31, 0), (32, 0), (33, 0), (34, 0), (35, 0), (36, 0), (37, 1), (39, 0), (40, 1), (41, 0), (38, 2), (42, 0), (43, 0)] (by kernel_rfl) (by kernel_rfl) (fun KK hKK => ?_)
        simp only [beside, List.filterMap_cons, List.filterMap_nil, List.getElem?_toArray, List.getElem?_cons_zero, List.getElem?_cons_succ, Option.map_some]
        repeat (first | (refine wpX_w ?_ (Or.inl ⟨by rfl, fun w9 => ?_⟩) ?_; rotate_left 1; go_simp; with_reducible rfl; simp only [Act.put, List.setIfInBounds_toArray, List.set_cons_zero, List.set_cons_succ]) | (refine wpX_l ?_ (((Below.refl _ _).drew)) (Or.inl ⟨by rfl, fun w9 hw9 => ?_⟩) ?_; rotate_left 1; obtain ⟨hc9, hf9⟩ := bcell hw9; go_simp; with_reducible rfl; simp only [Act.put, List.setIfInBounds_toArray, List.set_cons_zero, List.set_cons_succ]) | (refine wpX_w undef (Or.inr ⟨by rfl, rfl⟩) ?_; simp only [Act.put, List.setIfInBounds_toArray, List.set_cons_zero, List.set_cons_succ]) | (refine wpX_l undef (((Below.refl _ _).drew)) (Or.inr ⟨by rfl, rfl⟩) ?_; simp only [Act.put, List.setIfInBounds_toArray, List.set_cons_zero, List.set_cons_succ]))
        refine wpX_es (fun K9 hK9 => ?_)
        go_simp
        refine (one_len (HO7.out.below ((Below.refl _ _).drew))).mono ?_
        rintro e wx ⟨rfl, rfl⟩
        rw [HLEN.out]
        refine hK9 _ _ ((Below.refl _ _).drew) ?_
        clear hK9 K9
        repeat (first | (refine wpX_w ?_ (Or.inl ⟨by rfl, fun w9 => ?_⟩) ?_; rotate_left 1; go_simp; with_reducible rfl; simp only [Act.put, List.setIfInBounds_toArray, List.set_cons_zero, List.set_cons_succ]) | (refine wpX_l ?_ (((Below.refl _ _).drew)) (Or.inl ⟨by rfl, fun w9 hw9 => ?_⟩) ?_; rotate_left 1; obtain ⟨hc9, hf9⟩ := bcell hw9; go_simp; with_reducible rfl; simp only [Act.put, List.setIfInBounds_toArray, List.set_cons_zero, List.set_cons_succ]) | (refine wpX_w undef (Or.inr ⟨by rfl, rfl⟩) ?_; simp only [Act.put, List.setIfInBounds_toArray, List.set_cons_zero, List.set_cons_succ]) | (refine wpX_l undef (((Below.refl _ _).drew)) (Or.inr ⟨by rfl, rfl⟩) ?_; simp only [Act.put, List.setIfInBounds_toArray, List.set_cons_zero, List.set_cons_succ]))
        refine wpX_es (fun K9 hK9 => ?_)
        go_simp
        refine (one_has ⟨1, letB x, nextL L x⟩ (HO7.out.below ((Below.refl _ _).drew))).mono ?_
        rintro e X1 ⟨rfl, hb1⟩
        rw [HHAS.out]
        have HX1 := Lib.hid (((Below.refl W3.heap.size W3).drew).trans (hb1.mono (by first | omega | (simp; done) | (have := ((Below.refl W3.heap.size W3).drew).size; omega))))
        have hzx1 := HX1.out.size
        clear hb1
        refine hK9 _ _ HX1.out ?_
        clear hK9 K9
        repeat (first | (refine wpX_w ?_ (Or.inl ⟨by rfl, fun w9 => ?_⟩) ?_; rotate_left 1; go_simp; with_reducible rfl; simp only [Act.put, List.setIfInBounds_toArray, List.set_cons_zero, List.set_cons_succ]) | (refine wpX_l ?_ (HX1.out) (Or.inl ⟨by rfl, fun w9 hw9 => ?_⟩) ?_; rotate_left 1; obtain ⟨hc9, hf9⟩ := bcell hw9; go_simp; with_reducible rfl; simp only [Act.put, List.setIfInBounds_toArray, List.set_cons_zero, List.set_cons_succ]) | (refine wpX_w undef (Or.inr ⟨by rfl, rfl⟩) ?_; simp only [Act.put, List.setIfInBounds_toArray, List.set_cons_zero, List.set_cons_succ]) | (refine wpX_l undef (HX1.out) (Or.inr ⟨by rfl, rfl⟩) ?_; simp only [Act.put, List.setIfInBounds_toArray, List.set_cons_zero, List.set_cons_succ]))
        refine wpX_es (fun K9 hK9 => ?_)
        go_simp
        have hbs : Below W3.heap.size W3 (X1.alloc (.cells #[.int .u8 (x.toNat : Int)] 5)) := HX1.out.alloc HX1.out.size _
        refine hK9 _ _ hbs ?_
        clear hK9 K9
        obtain ⟨g2, hg2'⟩ : ∃ g2, g2 = X1.heap.size := ⟨_, rfl⟩
        obtain ⟨X2, hX2⟩ : ∃ X2, X2 = X1.alloc (.cells #[.int .u8 (x.toNat : Int)] 5) := ⟨_, rfl⟩
        have hcl : X2.cell? ⟨g2, 0, none⟩ = some (.int .u8 (x.toNat : Int)) := by rw [hX2, hg2']; exact ((Blk.new X1 5 #[.int .u8 (x.toNat : Int)]).cell 0).trans rfl
        have hcv := convL x X2 g2 hcl
        rw [← hX2] at hbs
        rw [← hX2, ← hg2']
        have HX2 := Lib.hid hbs
        have hzx2 := hbs.size
        clear hbs hX2 hg2' hcl
        refine wpX_es (fun K9 hK9 => ?_)
        go_simp
        refine hK9 _ _ HX2.out ?_
        clear hK9 K9 hcv
        repeat (first | (refine wpX_w ?_ (Or.inl ⟨by rfl, fun w9 => ?_⟩) ?_; rotate_left 1; go_simp; with_reducible rfl; simp only [Act.put, List.setIfInBounds_toArray, List.set_cons_zero, List.set_cons_succ]) | (refine wpX_l ?_ (HX2.out) (Or.inl ⟨by rfl, fun w9 hw9 => ?_⟩) ?_; rotate_left 1; obtain ⟨hc9, hf9⟩ := bcell hw9; go_simp; with_reducible rfl; simp only [Act.put, List.setIfInBounds_toArray, List.set_cons_zero, List.set_cons_succ]) | (refine wpX_w undef (Or.inr ⟨by rfl, rfl⟩) ?_; simp only [Act.put, List.setIfInBounds_toArray, List.set_cons_zero, List.set_cons_succ]) | (refine wpX_l undef (HX2.out) (Or.inr ⟨by rfl, rfl⟩) ?_; simp only [Act.put, List.setIfInBounds_toArray, List.set_cons_zero, List.set_cons_succ]))
        refine wpX_es (fun K9 hK9 => ?_)
        go_simp
        refine (has_is A cap K ⟨1, letB x, nextL L x⟩ X2 (HROW7.out.new_ HX2.out)).mono ?_
        rintro e X3 ⟨rfl, hb3⟩
        rw [HNOT.out]
        have HX3 := Lib.hid ((HX2.out).trans (hb3.mono (by first | omega | (simp; done) | (have := (HX2.out).size; omega))))
        have hzx3 := HX3.out.size
        clear hb3
        refine hK9 _ _ HX3.out ?_
        clear hK9 K9
        repeat (first | (refine wpX_w ?_ (Or.inl ⟨by rfl, fun w9 => ?_⟩) ?_; rotate_left 1; go_simp; with_reducible rfl; simp only [Act.put, List.setIfInBounds_toArray, List.set_cons_zero, List.set_cons_succ]) | (refine wpX_l ?_ (HX3.out) (Or.inl ⟨by rfl, fun w9 hw9 => ?_⟩) ?_; rotate_left 1; obtain ⟨hc9, hf9⟩ := bcell hw9; go_simp; with_reducible rfl; simp only [Act.put, List.setIfInBounds_toArray, List.set_cons_zero, List.set_cons_succ]) | (refine wpX_w undef (Or.inr ⟨by rfl, rfl⟩) ?_; simp only [Act.put, List.setIfInBounds_toArray, List.set_cons_zero, List.set_cons_succ]) | (refine wpX_l undef (HX3.out) (Or.inr ⟨by rfl, rfl⟩) ?_; simp only [Act.put, List.setIfInBounds_toArray, List.set_cons_zero, List.set_cons_succ]))
        refine wpX_es (fun K9 hK9 => ?_)
        go_simp
        refine (one_next x (HO7.out.below HX3.out)).mono ?_
        rintro e X4 ⟨rfl, hb4⟩
        rw [HNX.out]
        have HX4 := Lib.hid ((HX3.out).trans (hb4.mono (by first | omega | (simp; done) | (have := (HX3.out).size; omega))))
        have hzx4 := HX4.out.size
        clear hb4
        refine hK9 _ _ HX4.out ?_
        clear hK9 K9
        repeat (first | (refine wpX_w ?_ (Or.inl ⟨by rfl, fun w9 => ?_⟩) ?_; rotate_left 1; go_simp; with_reducible rfl; simp only [Act.put, List.setIfInBounds_toArray, List.set_cons_zero, List.set_cons_succ]) | (refine wpX_l ?_ (HX4.out) (Or.inl ⟨by rfl, fun w9 hw9 => ?_⟩) ?_; rotate_left 1; obtain ⟨hc9, hf9⟩ := bcell hw9; go_simp; with_reducible rfl; simp only [Act.put, List.setIfInBounds_toArray, List.set_cons_zero, List.set_cons_succ]) | (refine wpX_w undef (Or.inr ⟨by rfl, rfl⟩) ?_; simp only [Act.put, List.setIfInBounds_toArray, List.set_cons_zero, List.set_cons_succ]) | (refine wpX_l undef (HX4.out) (Or.inr ⟨by rfl, rfl⟩) ?_; simp only [Act.put, List.setIfInBounds_toArray, List.set_cons_zero, List.set_cons_succ]))
        refine wpX_nil ?_
        simp only [OnlyN_normal]
        refine hKK _ _ ?_
        clear hKK KK
        go_wp2_with fail
        go_roundw
        case rel => exact ⟨i + 1, by go_num, by omega, L', D, HO7.out.below HX4.out, HRM.out, HROW7.out.new_ HX4.out, HD.out.1, HKL'.out, HD.out.2, HB7.out.trans (HX4.out.mono HB7.out.size)⟩
        case measure => simp [intOf] <;> omega
    · have hie : i = l1.length := by omega
      subst hie
      have t1 : decide ((L.length : Int) ≤ room) = true := by simpa using hll
      go_wp2_with fail
      refine (one_len HO5.out).mono ?_
      rintro e wx ⟨rfl, rfl⟩
      go_wp2_with fail
      refine (wakes4_is _).mono ?_
      rintro e W5 ⟨rfl, hb5⟩
      have HB9 := Lib.hid (HBl.out.trans (hb5.mono HBl.out.size))
      clear hb5
      go_wp2_with fail
      go_ret
      exact ⟨rfl, HB9.out⟩
end Go.Proofs.Ytlkffnmmphehdaa

namespace Go.Proofs.Ytlkffnmmphehdaa
open Go.ChangeShapes Go.WideShapes Go.ChangeAt Go.RowKit Go.Deep

theorem own_fresh4 : ownKnob Try.prog.godebug = none := by kernel_rfl
theorem laid_fresh4 : laidOutB Try.prog = true := by kernel_rfl
set_option maxRecDepth 100000 in
theorem fresh4_lifted (os : Os) (started : os.Started) (H : Type) (enc : TypeId × Value → H) :
    ReturnsInHanded {} Try.checked os 8 .any (Rows.symFreshSpec.pre6 enc Try.prog Try.f8 Rows.symFreshRow.domain false) (Rows.symFreshSpec.post enc Try.prog Try.f8 false true false false) := by
  refine returnsInHanded_of_change (C := Try.checked) own_fresh4 started (by kernel_rfl) Try.func8
    (ChangeSpec.witness6 (enc := enc) (C := Try.checked) false ⟨#[], #[.int .i64 0, .slice none 0 0, .slice none 0 0], []⟩ 8 (by kernel_rfl) (by kernel_rfl) (by kernel_rfl) (by kernel_rfl)) ?_
  intro W base args ds gs before hval0 hW hcnd _
  have hval : ∀ (j : Nat) t v, Try.f8.params[j]? = some t → args[j]? = some v → Value.okWide Try.prog W .any base t v := hval0
  have hW' := hW
  obtain ⟨p, q, hA0, hV, rfl, hfz, hnd⟩ := hW
  have hA : DataW.TrodAll enc Try.prog W 0 (fun _ => true) true Try.f8.params.toList args.toList ds p := hA0
  rw [Try.params8] at hA hval
  obtain ⟨v0, v1, v2, d0, d1, d2, p0, p1, p2, rfl, rfl, rfl, h0, h1, h2⟩ := trodAll_three hA
  obtain ⟨rfl, rfl⟩ := trodVars_none hV
  obtain ⟨n0, rfl, _, _, _⟩ := open_int Try.underlying3 (hval 0 3 v0 rfl rfl) h0
  obtain ⟨A1, c1, l1, rfl, r1⟩ := open_row Try.underlying58 (by omega) reads_byte (hval 1 58 v1 rfl rfl) h1
  obtain ⟨A2, c2, l2, rfl, r2⟩ := open_row Try.underlying39 (by omega) reads_Sym (hval 2 39 v2 rfl rfl) h2
  clear hA0 hval0
  refine (fresh4_walk n0 A1 A2 c1 c2 l1 l2 W r1 r2).mono fun e W' ⟨he, hb⟩ => ?_
  subst he
  exact ⟨_, rfl, post_true (tb := 4) laid_fresh4 rfl hW' (by kernel_rfl) Try.underlying4 (fun t ht => by
    have ht' : t ∈ [3, 58, 39] := by
      have e : Try.f8.params.toList = [3, 58, 39] := by rw [Try.params8]
      rwa [e] at ht
    simp only [List.mem_cons, List.not_mem_nil, or_false] at ht'
    rcases ht' with rfl | rfl | rfl <;> exact ⟨by kernel_rfl, of_decide_eq_true (by kernel_rfl)⟩) rfl rfl rfl hb⟩

theorem fresh4_holds : Rows.SymFreshSaid :=
  OpenClaim.holds_of_wide 8 Try.f8 rfl rfl rfl rfl rfl rfl rfl ⟨rfl, rfl, rfl, rfl, rfl⟩ rfl rfl rfl rfl rfl (by kernel_rfl) Try.func8 (by kernel_rfl)
    (of_decide_eq_true (by kernel_rfl)) (by unfold Func.isWrapper; first | (rw [if_pos (by decide +kernel)]; kernel_rfl) | (rw [if_neg (by decide +kernel)]; exact ⟨rfl, rfl⟩))
    (fun os started H enc _ => fresh4_lifted os started H enc)
end Go.Proofs.Ytlkffnmmphehdaa
