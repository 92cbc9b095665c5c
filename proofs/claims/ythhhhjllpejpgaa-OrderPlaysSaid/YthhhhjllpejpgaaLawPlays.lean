/-
  The law on plays: its walk.
-/
import Derived.Test.YthhhhjllpejpgaaPlay
namespace Go.Proofs.Ythhhhjllpejpgaa
open Go.RowKit
attribute [local go_sem] eql_sym neq_sym
set_option maxRecDepth 100000 in
set_option maxHeartbeats 16000000 in
theorem plays_walk (A : Option Addr) (c : Nat) (l : List Act) (w : World) (hl : RowRd w 5 Act.cells A c l) :
    Calls Try.prog 6 #[.slice A l.length c] w fun e w' => e = .returned (.bool true) ∧ Below w.heap.size w w' := by
  have HL := Lib.hid hl
  clear hl
  have hnew : ∀ (w : World), Calls Try.prog 12 #[.slice none 0 0] w fun e w' => MadeSym (· < w.heap.size) w (fun _ => none) (fun _ => ⟨false, none, 0⟩) (puts cmpSym [] []) e w' ∧ Below w.heap.size w w' := fun w =>
    sNew_Sym none 0 [] (Sets.start _ _ _ Sym.cells cmpSym w) (RowRd.nil _ _ _) (by simp)
  have HNEW := Lib.hid hnew
  clear hnew
  by_cases h1 : 200 < l.length
  · have t1 : decide ((200 : Int) < (l.length : Int)) = true := by simp; omega
    clear h1
    go_enter Try.func6, Try.ntmps6
    go_wp2_with fail
    refine (HNEW.out w).mono ?_
    rintro e w1 ⟨⟨s, rfl, hs, _, σ1, hs1, _⟩, hB1⟩
    have HB1 := Lib.hid hB1
    clear hB1 hs1
    go_wp2_with fail
    refine (wakes_is _).mono ?_
    rintro e w2 ⟨rfl, hB⟩
    have HB := Lib.hid (HB1.out.trans (hB.mono HB1.out.size))
    clear hB
    go_wp2_with fail
    go_ret
    exact ⟨rfl, HB.out⟩
  have t1 : decide ((200 : Int) < (l.length : Int)) = false := by simp; omega
  have hl200 : l.length ≤ 200 := by omega
  clear h1
  go_enter Try.func6, Try.ntmps6
  go_wp2_with fail
  refine (HNEW.out w).mono ?_
  rintro e w1 ⟨⟨s, rfl, hs, _, σ1, hs1, _⟩, hB1⟩
  have hP : Play w s (· < w.heap.size) w1 (.slice none 0 0) [] [] := ⟨⟨none, 0, _, σ1, rfl, ⟨RowRd.nil _ _ _, AIn.none_ _⟩, hs1, upd_same _ _ _⟩, fun _ h => h, hB1⟩
  have HP := Lib.hid hP
  clear hs1 hB1 hP
  go_wp2_with fail
  go_loopw [4, 5] (fun v t wr => ∃ i : Nat, t = .int .i64 i ∧ i ≤ l.length ∧ ∃ D L, Play w s D wr v L L ∧ L.length ≤ i) (fun v t wr => l.length - (intOf t).toNat)
  case atStart => exact ⟨0, rfl, Nat.zero_le _, _, [], HP.out, Nat.le_refl _⟩
  case round =>
    obtain ⟨i, rfl, hi, D, L, hP, hLi⟩ := hrel
    obtain ⟨A4, c4, rfl, _⟩ := hP.rd
    have HP := Lib.hid hP
    clear hP
    by_cases hlt : i < l.length
    · obtain ⟨a, ha⟩ : ∃ a, a = l[i] := ⟨_, rfl⟩
      obtain ⟨g, off, rfl, hg, q0, q1, q2, q3, q4⟩ := act_at (HL.out.new_ HP.out.bel) hlt
      rw [← ha] at q0 q1 q2 q3 q4
      obtain ⟨x, hx⟩ : ∃ x, x = a.s := ⟨_, rfl⟩
      rw [← hx] at q2 q3 q4
      clear ha hx
      have b1 : (0 : Int) ≤ (i : Int) := by omega
      have b2 : (i : Int) < (l.length : Int) := by omega
      go_wp2_with fail
      obtain ⟨W0, hW0⟩ : ∃ W0, W0 = wr.alloc (.cells #[.int .i64 x.kind, .string x.text, .int .i64 x.n] 27) := ⟨_, rfl⟩
      have hb0 : Below wr.heap.size wr W0 := by rw [hW0]; exact (Below.refl _ _).alloc (Nat.le_refl _) _
      have hX0 : Blk W0 wr.heap.size 27 #[.int .i64 x.kind, .string x.text, .int .i64 x.n] := by rw [hW0]; exact Blk.new _ _ _
      rw [← hW0]
      clear hW0
      refine (HP.out.new_ hb0 |>.has_ x).mono ?_
      rintro e W1 ⟨rfl, hb1⟩
      have hb01 := hb0.trans (hb1.mono hb0.size)
      have hP1 := HP.out.guard hb01
      obtain ⟨D1, hD1⟩ : ∃ D1 : Nat → Prop, D1 = fun j => D j ∨ (wr.heap.size ≤ j ∧ j < W1.heap.size) := ⟨_, rfl⟩
      rw [← hD1] at hP1
      have hX1 := hX0.new_ hb1
      have hDx : D1 wr.heap.size := by rw [hD1]; exact .inr ⟨Nat.le_refl _, hX1.lt⟩
      have hgw : g < w.heap.size ∨ D1 g := .inl (by
        have := (HL.out.at_ hlt)
        obtain ⟨b', off', e, hb', _⟩ := this
        cases e; exact hb')
      obtain ⟨hc1, _⟩ := bcell hb01
      have p0 := (hc1 g _ hg).trans q0
      have p1 := (hc1 g _ hg).trans q1
      have hg1 : g < W1.heap.size := Nat.lt_of_lt_of_le hg hb01.size
      have hxl := hX1.lt
      have x0 : W1.cell? ⟨wr.heap.size, 0, none⟩ = some (.int .i64 x.kind) := (hX1.cell 0).trans rfl
      have x1 : W1.cell? ⟨wr.heap.size, 1, none⟩ = some (.string x.text) := (hX1.cell 1).trans rfl
      have x2 : W1.cell? ⟨wr.heap.size, 2, none⟩ = some (.int .i64 x.n) := (hX1.cell 2).trans rfl
      have HP1 := Lib.hid hP1
      have HX1 := Lib.hid hX1
      have HDx := Lib.hid hDx
      have HDg := Lib.hid (show D1 g from hP1.low g (hgw.elim id (fun h => by
        obtain ⟨b', off', e, hb', _⟩ := HL.out.at_ hlt
        cases e; exact hb')))
      clear hb0 hX0 hb1 hb01 hP1 hX1 hDx hc1 q0 q1 q2 q3 q4 hD1 hgw HP
      go_wp2_with fail
      refine (within_is _ _ _ (by decide)).mono ?_
      rintro e W2 ⟨rfl, rfl⟩
      obtain ⟨k, hk, hk6⟩ := within_nat a.act (show 0 < 6 by decide)
      have hk' : within a.act 6 = (k : Int) := hk
      rw [hk']
      clear hk hk'
      have hss : Srt cmpSym L := by
        obtain ⟨_, _, _, _, h⟩ := HP1.out.set_
        exact h
      have HSS := Lib.hid hss
      clear hss
      by_cases k01 : k < 2
      · have hk2 : k = 0 ∨ k = 1 := by omega
        rcases hk2 with rfl | rfl
        all_goals
          go_wp2_with fail
          refine (HP1.out.put_ x (by omega)).mono ?_
          rintro e W3 ⟨rfl, hP3, hF3⟩
          have y0 := (hF3.cell (p := ⟨wr.heap.size, 0, none⟩) hxl (fun h => h HDx.out)).trans x0
          have y1 := (hF3.cell (p := ⟨wr.heap.size, 1, none⟩) hxl (fun h => h HDx.out)).trans x1
          have y2 := (hF3.cell (p := ⟨wr.heap.size, 2, none⟩) hxl (fun h => h HDx.out)).trans x2
          have hz3 : wr.heap.size < W3.heap.size := Nat.lt_of_lt_of_le hxl hF3.size
          have HP3 := Lib.hid hP3
          clear hP3 hF3 x0 x1 x2 p0 p1
          cases hh : has cmpSym L x
          all_goals
            go_wp2_with fail
            refine (HP3.out.rput_ x HSS.out (by omega)).mono ?_
            rintro e W4 ⟨v', D', rfl, hP4⟩
            obtain ⟨A', c', rfl, _⟩ := hP4.rd
            have HQ := Lib.hid hP4
            clear hP4 y0 y1 y2
            go_wp2_with fail
            refine (HQ.out.len_).mono ?_
            rintro e W9 ⟨rfl, rfl⟩
            go_wp2_with fail
            go_roundw
            case rel => exact ⟨i + 1, by go_num, by omega, _, _, HQ.out, (by have := length_put_le tc_sym HSS.out x; omega)⟩
            case measure => simp [intOf] <;> omega
      by_cases k2 : k = 2
      · subst k2
        go_wp2_with fail
        refine (HP1.out.drop_ x (by omega)).mono ?_
        rintro e W3 ⟨rfl, hP3, hF3⟩
        have y0 := (hF3.cell (p := ⟨wr.heap.size, 0, none⟩) hxl (fun h => h HDx.out)).trans x0
        have y1 := (hF3.cell (p := ⟨wr.heap.size, 1, none⟩) hxl (fun h => h HDx.out)).trans x1
        have y2 := (hF3.cell (p := ⟨wr.heap.size, 2, none⟩) hxl (fun h => h HDx.out)).trans x2
        have hz3 : wr.heap.size < W3.heap.size := Nat.lt_of_lt_of_le hxl hF3.size
        have HP3 := Lib.hid hP3
        clear hP3 hF3 x0 x1 x2 p0 p1
        cases hh : has cmpSym L x
        all_goals
          go_wp2_with fail
          refine (HP3.out.rwithout_ x (by omega)).mono ?_
          rintro e W4 ⟨v', D', rfl, hP4⟩
          obtain ⟨A', c', rfl, _⟩ := hP4.rd
          have HQ := Lib.hid hP4
          clear hP4 y0 y1 y2
          go_wp2_with fail
          refine (HQ.out.len_).mono ?_
          rintro e W9 ⟨rfl, rfl⟩
          go_wp2_with fail
          go_roundw
          case rel => exact ⟨i + 1, by go_num, by omega, _, _, HQ.out, (by have := length_drop_le (cmp := cmpSym) L x; omega)⟩
          case measure => simp [intOf] <;> omega
      by_cases k3 : k = 3
      · subst k3
        have hns := neq_same x
        have hnz := neq_zero
        cases hh : has cmpSym L x
        · go_wp2_with fail
          refine (HP1.out.getno_ x (by omega) hh).mono ?_
          rintro e W3 ⟨rfl, hB3⟩
          have HQ0 := Lib.hid (HP1.out.new_ hB3)
          clear hB3 x0 x1 x2 p0 p1
          go_wp2_with fail
          have HQ := Lib.hid (HQ0.out.new_ ((Below.refl _ _).alloc (Nat.le_refl _) (.cells #[.int .i64 0, .string ⟨#[]⟩, .int .i64 0] 27)))
          refine (HQ.out.len_).mono ?_
          rintro e W9 ⟨rfl, rfl⟩
          go_wp2_with fail
          go_roundw
          case rel => exact ⟨i + 1, by go_num, by omega, _, _, HQ.out, by omega⟩
          case measure => simp [intOf] <;> omega
        · go_wp2_with fail
          refine (HP1.out.get_ x (by omega) hh).mono ?_
          rintro e W3 ⟨rfl, hB3⟩
          obtain ⟨hc3, _⟩ := bcell hB3
          have y0 := (hc3 wr.heap.size 0 hxl).trans x0
          have y1 := (hc3 wr.heap.size 1 hxl).trans x1
          have y2 := (hc3 wr.heap.size 2 hxl).trans x2
          have hz3 : wr.heap.size < W3.heap.size := Nat.lt_of_lt_of_le hxl hB3.size
          have HQ0 := Lib.hid (HP1.out.new_ hB3)
          clear hB3 hc3 x0 x1 x2 p0 p1
          go_wp2_with fail
          have HQ := Lib.hid (HQ0.out.new_ ((Below.refl _ _).alloc (Nat.le_refl _) (.cells #[.int .i64 x.kind, .string x.text, .int .i64 x.n] 27)))
          refine (HQ.out.len_).mono ?_
          rintro e W9 ⟨rfl, rfl⟩
          go_wp2_with fail
          go_roundw
          case rel => exact ⟨i + 1, by go_num, by omega, _, _, HQ.out, by omega⟩
          case measure => simp [intOf] <;> omega
      by_cases k4 : k = 4
      · subst k4
        go_wp2_with fail
        refine (HP1.out.place_ x (by omega)).mono ?_
        rintro e W3 ⟨rfl, hB3⟩
        obtain ⟨hc3, _⟩ := bcell hB3
        have y0 := (hc3 wr.heap.size 0 hxl).trans x0
        have y1 := (hc3 wr.heap.size 1 hxl).trans x1
        have y2 := (hc3 wr.heap.size 2 hxl).trans x2
        have hz3 : wr.heap.size < W3.heap.size := Nat.lt_of_lt_of_le hxl hB3.size
        have HQ0 := Lib.hid (HP1.out.new_ hB3)
        clear hB3 hc3 x0 x1 x2 p0 p1
        cases hh : has cmpSym L x
        all_goals
          go_wp2_with fail
          refine (HQ0.out.below_ x).mono ?_
          rintro e W4 ⟨rfl, hB4⟩
          have HQ := Lib.hid (HQ0.out.new_ hB4)
          clear hB4 y0 y1 y2
          go_wp2_with fail
          refine (HQ.out.len_).mono ?_
          rintro e W9 ⟨rfl, rfl⟩
          go_wp2_with fail
          go_roundw
          case rel => exact ⟨i + 1, by go_num, by omega, _, _, HQ.out, by omega⟩
          case measure => simp [intOf] <;> omega
      have k5 : k = 5 := by omega
      subst k5
      have hnz := neq_zero
      clear x0 x1 x2 p0
      by_cases hn0 : a.n < 0
      · go_wp2_with fail
        refine (HP1.out.atout_ a.n (.inl hn0)).mono ?_
        rintro e W3 ⟨rfl, hB3⟩
        obtain ⟨hc3, _⟩ := bcell hB3
        have y1 := (hc3 g _ hg1).trans p1
        have hg3 : g < W3.heap.size := Nat.lt_of_lt_of_le hg1 hB3.size
        have HQ1 := Lib.hid (HP1.out.new_ hB3)
        clear hB3 hc3 p1
        go_wp2_with fail
        obtain ⟨Wq, hWq⟩ : ∃ Wq, Wq = W3.alloc (.cells #[.int .i64 0, .string ⟨#[]⟩, .int .i64 0] 27) := ⟨_, rfl⟩
        have hbq : Below W3.heap.size W3 Wq := by rw [hWq]; exact (Below.refl _ _).alloc (Nat.le_refl _) _
        have hBq : Blk Wq W3.heap.size 27 #[.int .i64 0, .string ⟨#[]⟩, .int .i64 0] := by rw [hWq]; exact Blk.new _ _ _
        have z0 : Wq.cell? ⟨W3.heap.size, 0, none⟩ = some (.int .i64 0) := (hBq.cell 0).trans rfl
        have z1 : Wq.cell? ⟨W3.heap.size, 1, none⟩ = some (.string ⟨#[]⟩) := (hBq.cell 1).trans rfl
        have z2 : Wq.cell? ⟨W3.heap.size, 2, none⟩ = some (.int .i64 0) := (hBq.cell 2).trans rfl
        have p1 := (hbq.cell (p := ⟨g, off + i * 5 + 1, none⟩) hg3).trans y1
        have HQ0 := Lib.hid (HQ1.out.new_ hbq)
        have d1 : decide ((0 : Int) ≤ a.n) = false := by simp; omega
        rw [← hWq]
        clear hWq hbq hBq y1
        go_wp2_with fail
        go_quiet (fail)
        have HQ := Lib.hid (HQ0.out.new_ (Below.drewN' (Below.refl _ Wq) nq))
        clear p1 z0 z1 z2
        go_wp2_with fail
        refine (HQ.out.len_).mono ?_
        rintro e W9 ⟨rfl, rfl⟩
        go_wp2_with fail
        go_roundw
        case rel => exact ⟨i + 1, by go_num, by omega, _, _, HQ.out, by omega⟩
        case measure => simp [intOf] <;> omega
      by_cases hn1 : (L.length : Int) ≤ a.n
      · go_wp2_with fail
        refine (HP1.out.atout_ a.n (.inr hn1)).mono ?_
        rintro e W3 ⟨rfl, hB3⟩
        obtain ⟨hc3, _⟩ := bcell hB3
        have y1 := (hc3 g _ hg1).trans p1
        have hg3 : g < W3.heap.size := Nat.lt_of_lt_of_le hg1 hB3.size
        have HQ1 := Lib.hid (HP1.out.new_ hB3)
        clear hB3 hc3 p1
        go_wp2_with fail
        obtain ⟨Wq, hWq⟩ : ∃ Wq, Wq = W3.alloc (.cells #[.int .i64 0, .string ⟨#[]⟩, .int .i64 0] 27) := ⟨_, rfl⟩
        have hbq : Below W3.heap.size W3 Wq := by rw [hWq]; exact (Below.refl _ _).alloc (Nat.le_refl _) _
        have hBq : Blk Wq W3.heap.size 27 #[.int .i64 0, .string ⟨#[]⟩, .int .i64 0] := by rw [hWq]; exact Blk.new _ _ _
        have z0 : Wq.cell? ⟨W3.heap.size, 0, none⟩ = some (.int .i64 0) := (hBq.cell 0).trans rfl
        have z1 : Wq.cell? ⟨W3.heap.size, 1, none⟩ = some (.string ⟨#[]⟩) := (hBq.cell 1).trans rfl
        have z2 : Wq.cell? ⟨W3.heap.size, 2, none⟩ = some (.int .i64 0) := (hBq.cell 2).trans rfl
        have p1 := (hbq.cell (p := ⟨g, off + i * 5 + 1, none⟩) hg3).trans y1
        have HQ0 := Lib.hid (HQ1.out.new_ hbq)
        have d1 : decide ((0 : Int) ≤ a.n) = true := by simp; omega
        have d2 : decide (a.n < (L.length : Int)) = false := by simp; omega
        rw [← hWq]
        clear hWq hbq hBq y1
        go_wp2_with fail
        go_quiet (fail)
        have HQ := Lib.hid (HQ0.out.new_ (Below.drewN' (Below.refl _ Wq) nq))
        clear p1 z0 z1 z2
        go_wp2_with fail
        refine (HQ.out.len_).mono ?_
        rintro e W9 ⟨rfl, rfl⟩
        go_wp2_with fail
        go_roundw
        case rel => exact ⟨i + 1, by go_num, by omega, _, _, HQ.out, by omega⟩
        case measure => simp [intOf] <;> omega
      obtain ⟨m, hm⟩ : ∃ m : Nat, a.n = (m : Int) := ⟨a.n.toNat, by omega⟩
      rw [hm] at p1 hn0 hn1
      have hmL : m < L.length := by omega
      obtain ⟨y, hy⟩ : ∃ y, y = L[m] := ⟨_, rfl⟩
      have HY := Lib.hid hy
      clear hy
      have hns := neq_same y
      go_wp2_with fail
      refine (HP1.out.atin_ m y hmL HY.out).mono ?_
      rintro e W3 ⟨rfl, hB3⟩
      obtain ⟨hc3, _⟩ := bcell hB3
      have y1 := (hc3 g _ hg1).trans p1
      have hg3 : g < W3.heap.size := Nat.lt_of_lt_of_le hg1 hB3.size
      have HQ1 := Lib.hid (HP1.out.new_ hB3)
      clear hB3 hc3 p1
      go_wp2_with fail
      obtain ⟨Wq, hWq⟩ : ∃ Wq, Wq = W3.alloc (.cells #[.int .i64 y.kind, .string y.text, .int .i64 y.n] 27) := ⟨_, rfl⟩
      have hbq : Below W3.heap.size W3 Wq := by rw [hWq]; exact (Below.refl _ _).alloc (Nat.le_refl _) _
      have hBq : Blk Wq W3.heap.size 27 #[.int .i64 y.kind, .string y.text, .int .i64 y.n] := by rw [hWq]; exact Blk.new _ _ _
      have z0 : Wq.cell? ⟨W3.heap.size, 0, none⟩ = some (.int .i64 y.kind) := (hBq.cell 0).trans rfl
      have z1 : Wq.cell? ⟨W3.heap.size, 1, none⟩ = some (.string y.text) := (hBq.cell 1).trans rfl
      have z2 : Wq.cell? ⟨W3.heap.size, 2, none⟩ = some (.int .i64 y.n) := (hBq.cell 2).trans rfl
      have p1 := (hbq.cell (p := ⟨g, off + i * 5 + 1, none⟩) hg3).trans y1
      have hQ0 := HQ1.out.new_ hbq
      obtain ⟨A5, c5, e5, hr5⟩ := hQ0.rd
      injection e5 with e5 _ e6
      subst e5; subst e6
      obtain ⟨g4, off4, hA4, hg4, s0, s1, s2⟩ := sym_at hr5 hmL
      rw [← HY.out] at s0 s1 s2
      subst hA4
      have HQ0 := Lib.hid hQ0
      have d2 : decide ((m : Int) < (L.length : Int)) = true := by simp; omega
      have b3 : (0 : Int) ≤ (m : Int) := by omega
      have b4 : (m : Int) < (L.length : Int) := by omega
      rw [← hWq]
      clear hWq hbq hBq y1 hQ0 hr5 hn0 hn1
      go_wp2_with fail
      go_quiet (fail)
      have HQ := Lib.hid (HQ0.out.new_ (Below.drewN' (Below.refl _ Wq) nq))
      clear p1 z0 z1 z2 s0 s1 s2
      go_wp2_with fail
      refine (HQ.out.len_).mono ?_
      rintro e W9 ⟨rfl, rfl⟩
      go_wp2_with fail
      go_roundw
      case rel => exact ⟨i + 1, by go_num, by omega, _, _, HQ.out, by omega⟩
      case measure => simp [intOf] <;> omega
    · have hie : i = l.length := by omega
      subst hie
      obtain ⟨⟨A0, c0, S, σ, h1, h2, h3, h4⟩, h5, h6⟩ := HP.out
      injection h1 with e1 _ e3
      subst e1; subst e3
      have HS := Lib.hid h3
      have HK := Lib.hid h2
      have HSs := Lib.hid h4
      have H5 := Lib.hid h5
      have H6 := Lib.hid h6
      clear h2 h3 h4 h5 h6
      go_wp2_with fail
      refine (lawlist HS.out HSs.out (by omega)).mono ?_
      intro e w3 hm
      obtain ⟨A3, c3, rfl, hr3, _, _, hF3⟩ := listed_open hm
      have HR3 := Lib.hid hr3
      have HK3 := Lib.hid (HK.out.fr hF3)
      have HB3 := Lib.hid (H6.out.trans (hF3.below H6.out.size (fun j hj hd => hd (H5.out j hj))))
      clear hm hr3 hF3
      go_wp2_with fail
      refine (syms_is _ _ _ _ L L _ HR3.out HK3.out.rd).mono ?_
      rintro e w4 ⟨rfl, hB4⟩
      rw [decide_eq_true rfl]
      have HB4 := Lib.hid (HB3.out.trans (hB4.mono HB3.out.size))
      clear hB4
      go_wp2_with fail
      refine (wakes_is _).mono ?_
      rintro e w5 ⟨rfl, hB5⟩
      have HB5 := Lib.hid (HB4.out.trans (hB5.mono HB4.out.size))
      clear hB5
      go_wp2_with fail
      go_ret
      exact ⟨rfl, HB5.out⟩
end Go.Proofs.Ythhhhjllpejpgaa
