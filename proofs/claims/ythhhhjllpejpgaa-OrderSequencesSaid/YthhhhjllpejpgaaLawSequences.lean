/-
  The law on sequences: All, From and Back tell the members that there are; left early they tell a beginning: its walk.
-/
import Derived.Test.YthhhhjllpejpgaaBackSym
import Derived.Test.YthhhhjllpejpgaaFirstSym
import Derived.Test.YthhhhjllpejpgaaLawJoins
import Derived.Test.YthhhhjllpejpgaaRefBelow
namespace Go.Proofs.Ythhhhjllpejpgaa
open Go.RowKit
attribute [local go_sem] eql_sym neq_sym
theorem neq_same' (x : Sym) (W : World) : (binOp .neq 27 (.agg #[.int .i64 x.kind, .string x.text, .int .i64 x.n]) (.agg #[.int .i64 x.kind, .string x.text, .int .i64 x.n])).run Try.prog W = .ok (.bool false) W := by
  have := neq_sym x x W
  simpa using this
theorem syms_at {A B : Option Addr} {c d la lb : Nat} {l m : List Sym} (e1 : la = l.length) (e2 : lb = m.length) (w : World) (hl : RowRd w 3 Sym.cells A c l) (hm : RowRd w 3 Sym.cells B d m) :
    Calls Try.prog 17 #[.slice A la c, .slice B lb d] w fun e w' => e = .returned (.bool (decide (l = m))) ∧ Below w.heap.size w w' := by
  subst e1; subst e2
  exact syms_is A B c d l m w hl hm
set_option maxRecDepth 100000 in
set_option maxHeartbeats 16000000 in
theorem sequences_walk (A : Option Addr) (c : Nat) (l : List Sym) (x : Sym) (n : Int) (w : World) (hl : RowRd w 3 Sym.cells A c l) :
    Calls Try.prog 5 #[.slice A l.length c, .agg #[.int .i64 x.kind, .string x.text, .int .i64 x.n], .int .i64 n] w fun e w' => e = .returned (.bool true) ∧ Below w.heap.size w w' := by
  have HL := Lib.hid hl
  clear hl
  by_cases h1 : 60 < l.length
  · have t1 : decide ((60 : Int) < (l.length : Int)) = true := by simp; omega
    clear h1
    go_enter Try.func5, Try.ntmps5
    go_wp2_with fail
    refine (wakes_is _).mono ?_
    rintro e w1 ⟨rfl, hB⟩
    have HB := Lib.hid (((Below.refl w.heap.size w).alloc (Nat.le_refl _) _).trans (hB.mono (by simp)))
    clear hB
    go_wp2_with fail
    go_ret
    exact ⟨rfl, HB.out⟩
  have t1 : decide ((60 : Int) < (l.length : Int)) = false := by simp; omega
  have hl60 : l.length ≤ 60 := by omega
  clear h1
  go_enter Try.func5, Try.ntmps5
  go_wp2_with fail
  obtain ⟨W0, hW0⟩ : ∃ W0, W0 = w.alloc (.cells #[.int .i64 x.kind, .string x.text, .int .i64 x.n] 27) := ⟨_, rfl⟩
  have hb0 : Below w.heap.size w W0 := by rw [hW0]; exact (Below.refl _ _).alloc (Nat.le_refl _) _
  have hX0 : Blk W0 w.heap.size 27 #[.int .i64 x.kind, .string x.text, .int .i64 x.n] := by rw [hW0]; exact Blk.new _ _ _
  rw [← hW0]
  clear hW0
  refine (sNew_Sym A c l (Sets.start _ _ _ Sym.cells cmpSym W0) (HL.out.new_ hb0) (by omega)).mono ?_
  rintro e w1 ⟨⟨s, rfl, hs, _, σ1, h1, _⟩, hB1⟩
  obtain ⟨X, hX⟩ : ∃ X, X = puts cmpSym [] l := ⟨_, rfl⟩
  rw [← hX] at h1
  have hXl : X.length ≤ 60 := by
    have := length_puts_le tc_sym l (Srt.nil (cmp := cmpSym))
    rw [hX]; simp at this; omega
  have hS1 := h1.at_ s X (upd_same _ _ _)
  have HXS := Lib.hid (h1.srt s X (upd_same _ _ _))
  have HXE := Lib.hid hX
  have HS1 := Lib.hid hS1
  have HX1 := Lib.hid (hX0.new_ hB1)
  have HB1 := Lib.hid (hb0.trans (hB1.mono hb0.size))
  have hwx : w.heap.size < w1.heap.size := (hX0.new_ hB1).lt
  have hsx : s ≠ w.heap.size := by have := hX0.lt; omega
  have hs1 : s < w1.heap.size := hS1.lt
  have hsw : w.heap.size ≤ s := by have := hX0.lt; omega
  clear h1 hS1 hb0 hX0 hB1 hX
  go_wp2_with fail
  go_loopw [8, 9] (fun v t wr => ∃ i : Nat, t = .int .i64 i ∧ i ≤ l.length ∧ Tmp w1.heap.size wr v (puts cmpSym [] (l.take i)) ∧ Below w1.heap.size w1 wr) (fun v t wr => l.length - (intOf t).toNat)
  case atStart => exact ⟨0, rfl, Nat.zero_le _, Tmp.nil _ _, Below.refl _ _⟩
  case round =>
    obtain ⟨i, rfl, hi, ho, hB⟩ := hrel
    have HO := Lib.hid ho
    have HB := Lib.hid hB
    clear ho hB
    by_cases hlt : i < l.length
    · obtain ⟨y, hy⟩ : ∃ y, y = l[i] := ⟨_, rfl⟩
      obtain ⟨g, off, rfl, hg, q0, q1, q2⟩ := sym_at (HL.out.new_ (HB1.out.trans (HB.out.mono HB1.out.size))) hlt
      rw [← hy] at q0 q1 q2
      have hzr := HB.out.size
      have hs1' := Srt.puts tc_sym (l.take i) (Srt.nil (cmp := cmpSym))
      have hl1 := length_puts_le tc_sym (l.take i) (Srt.nil (cmp := cmpSym))
      have e1 := take_snoc hlt
      rw [← hy] at e1
      have htl : (l.take i).length = i := by rw [List.length_take]; omega
      rw [htl] at hl1
      simp only [List.length_nil, Nat.zero_add] at hl1
      have HE1 := Lib.hid e1
      have HSS := Lib.hid hs1'
      have b1 : (0 : Int) ≤ (i : Int) := by omega
      have b2 : (i : Int) < (l.length : Int) := by omega
      clear hy e1 hs1' htl
      go_wp2_with fail
      refine (tput_is y HO.out HSS.out (by omega) hzr).mono ?_
      rintro e W1 ⟨vo', rfl, ho, hBx⟩
      have HO' := Lib.hid ho
      have HBt := Lib.hid (HB.out.trans (hBx.mono hzr))
      clear ho hBx q0 q1 q2
      go_wp2_with fail
      go_roundw
      case rel => exact ⟨i + 1, by go_num, by omega, by rw [HE1.out, puts_snoc]; exact HO'.out, HBt.out⟩
      case measure => simp [intOf] <;> omega
    · have hie : i = l.length := by omega
      subst hie
      have hte : l.take l.length = l := List.take_length
      have HOa := HO.out
      rw [hte, ← HXE.out] at HOa
      obtain ⟨Ar, cr, rfl, hrr, hAr⟩ := HOa
      obtain ⟨w2, rfl⟩ : ∃ w2, w2 = wr := ⟨_, rfl⟩
      have hXb := HX1.out.new_ HB.out
      have x0 : w2.cell? ⟨w.heap.size, 0, none⟩ = some (.int .i64 x.kind) := (hXb.cell 0).trans rfl
      have x1 : w2.cell? ⟨w.heap.size, 1, none⟩ = some (.string x.text) := (hXb.cell 1).trans rfl
      have x2 : w2.cell? ⟨w.heap.size, 2, none⟩ = some (.int .i64 x.n) := (hXb.cell 2).trans rfl
      have HS2 := Lib.hid (HS1.out.new_ HB.out)
      have HX2 := Lib.hid hXb
      have HR2 := Lib.hid hrr
      have HAR := Lib.hid hAr
      have HB2 := Lib.hid (HB1.out.trans (HB.out.mono HB1.out.size))
      clear hXb hrr hAr hte HO
      go_wp2_with fail
      refine (below_is Ar cr X x w2 HR2.out).mono ?_
      rintro e w3 ⟨rfl, hB3⟩
      have HS3 := Lib.hid (HS2.out.new_ hB3)
      have HX3 := Lib.hid (HX2.out.new_ hB3)
      have HR3 := Lib.hid (HR2.out.new_ hB3)
      have HB3 := Lib.hid (HB2.out.trans (hB3.mono HB2.out.size))
      have hz23 := hB3.size
      clear hB3 x0 x1 x2
      go_wp2_with fail
      refine (mkback_Sym s w3).mono ?_
      rintro e w4 ⟨rfl, hB4, hbox⟩
      have HS4 := Lib.hid (HS3.out.new_ hB4)
      have HX4 := Lib.hid (HX3.out.new_ hB4)
      have HR4 := Lib.hid (HR3.out.new_ hB4)
      have HB4 := Lib.hid (HB3.out.trans (hB4.mono HB3.out.size))
      have HBX := Lib.hid hbox
      have hz34 := hB4.size
      clear hB4 hbox
      go_wp2_with fail
      refine (list_Sym _ _ X.reverse w4 _ _ (seq_back_Sym _ s _ _ _ X w4 HBX.out HS4.out) (by simp; omega)).mono ?_
      rintro e w5 ⟨A5, c5, rfl, hown5, hA5, Wx, Wy, hbx, hst, hby⟩
      have hF5 : Fr (· = s) w4 w5 := ((Fr.of_new (M := (· = s)) hbx).trans (hst.fr.mono (fun _ _ h => h))).into (Fr.of_below hby) (fun i hi => .inr hi)
      have hS5 := (hst.set_ (HS4.out.new_ hbx) (by decide)).fr (Fr.of_below hby) (by have := HS4.out.lt; omega) (HS4.out.row_lt.mono (fun k hk => by omega))
      have hR5 := HR4.out.fr hF5 (fun a ha h => by have := (HAR.out a ha).1; omega)
      have hX5 := HX4.out.fr hF5 (fun h => hsx h.symm)
      have hrev : X.reverse.length = X.length := List.length_reverse
      have HS5 := Lib.hid hS5
      have HR5 := Lib.hid hR5
      have HX5 := Lib.hid hX5
      have HK5 := Lib.hid (ownsRow_rd Sym.cells_length hown5)
      have HB5 := Lib.hid (HB4.out.trans (hF5.below HB4.out.size (fun k hk e => by omega)))
      clear hS5 hR5 hX5 hown5 hA5 hF5 hbx hst hby
      rw [hrev]
      clear hrev
      go_wp2_with fail
      go_loopw [12] (fun t wr => ∃ i : Nat, t = .int .i64 i ∧ i ≤ X.length ∧ Below w5.heap.size w5 wr) (fun t wr => X.length - (intOf t).toNat)
      case atStart => exact ⟨0, rfl, Nat.zero_le _, Below.refl _ _⟩
      case round =>
        obtain ⟨i, rfl, hi2, hB6⟩ := hrel
        have HB6 := Lib.hid hB6
        clear hB6
        by_cases hlt2 : i < X.length
        · obtain ⟨m, hm⟩ : ∃ m, m = X.length - 1 - i := ⟨_, rfl⟩
          have hmX : m < X.length := by omega
          have e1 : (X.length : Int) - 1 - (i : Int) = (m : Int) := by omega
          obtain ⟨y, hy⟩ : ∃ y, y = X[m] := ⟨_, rfl⟩
          have hir : i < X.reverse.length := by simpa using hlt2
          have hyr : X.reverse[i] = y := by
            rw [List.getElem_reverse, hy]
            congr 1
            omega
          obtain ⟨g, off, hA5, hg, q0, q1, q2⟩ := sym_at (HK5.out.new_ HB6.out) hir
          obtain ⟨g2, off2, hAr2, hg2, p0, p1, p2⟩ := sym_at (HR5.out.new_ HB6.out) hmX
          rw [hyr] at q0 q1 q2
          rw [← hy] at p0 p1 p2
          subst hA5
          subst hAr2
          have b1 : (0 : Int) ≤ (i : Int) := by omega
          have b2 : (i : Int) < (X.length : Int) := by omega
          have b3 : (0 : Int) ≤ (m : Int) := by omega
          have b4 : (m : Int) < (X.length : Int) := by omega
          have hns := neq_same' y
          clear hy hyr hm hir
          go_wp2_with fail
          go_quiet (fail)
          have HB7 := Lib.hid (Below.drewN' HB6.out nq)
          clear q0 q1 q2 p0 p1 p2
          go_wp2_with fail
          go_roundw
          case rel => exact ⟨i + 1, by go_num, by omega, HB7.out⟩
          case measure => simp [intOf] <;> omega
        · have hie : i = X.length := by omega
          subst hie
          obtain ⟨w6, rfl⟩ : ∃ w6, w6 = wr := ⟨_, rfl⟩
          go_wp2_with fail
          refine (within_is _ _ _ (by omega)).mono ?_
          rintro e w7 ⟨rfl, rfl⟩
          obtain ⟨k, hk, hkl⟩ := within_nat n (show 0 < X.length + 2 by omega)
          have hk' : within n ((X.length : Int) + 2) = (k : Int) := by simpa using hk
          rw [hk']
          clear hk hk'
          by_cases hk0 : 0 < k
          · by_cases hkX : k ≤ X.length
            · obtain ⟨T, hT⟩ : ∃ T, T = X.take k := ⟨_, rfl⟩
              have HT1 := Lib.hid hT.symm
              have HT2 := Lib.hid hT.symm
              have HTL := Lib.hid (show T.length = k by rw [hT, List.length_take]; omega)
              have HTL2 := Lib.hid HTL.out
              clear hT
              go_wp2_with fail
              refine (mkall_Sym s w6).mono ?_
              rintro e w7 ⟨rfl, hB7, hbox⟩
              have HS7 := Lib.hid ((HS5.out.new_ HB6.out).new_ hB7)
              have HX7 := Lib.hid ((HX5.out.new_ HB6.out).new_ hB7)
              have HR7 := Lib.hid ((HR5.out.new_ HB6.out).new_ hB7)
              have HB7 := Lib.hid ((HB5.out.trans (HB6.out.mono HB5.out.size)).trans (hB7.mono (by have := HB5.out.size; have := HB6.out.size; omega)))
              have HBX7 := Lib.hid hbox
              have hs7 : s < w7.heap.size := HS7.out.lt
              have hx7 : w.heap.size < w7.heap.size := HX7.out.lt
              have hbx7 : w6.heap.size < w7.heap.size := World.block_lt_of_cell? _ _ hbox
              have hsb : w6.heap.size ≠ s := by have := (HS5.out.new_ HB6.out).lt; omega
              have har : ∀ a, Ar = some a → a.block ≠ s := fun a ha h => by have := (HAR.out a ha).1; omega
              have HNR := Lib.hid har
              have hrl := rank_le (cmp := cmpSym) X x
              have hcr : X.length ≤ cr := HR7.out.1
              have b1 : (0 : Int) ≤ ((k : Nat) : Int) := by omega
              have b2 : ((k : Nat) : Int) ≤ (cr : Int) := by omega
              have b3 : (0 : Int) ≤ (rank cmpSym X x : Int) := by omega
              have b4 : (rank cmpSym X x : Int) ≤ (X.length : Int) := by omega
              have HS70 := Lib.hid (HS7.out.new_ (Below.refl _ w7).drew)
              have HF70 := Lib.hid ((Fr.refl (· = s) w7).drew)
              have y0 : w7.cell? ⟨w.heap.size, 0, none⟩ = some (.int .i64 x.kind) := (HX7.out.cell 0).trans rfl
              have y1 : w7.cell? ⟨w.heap.size, 1, none⟩ = some (.string x.text) := (HX7.out.cell 1).trans rfl
              have y2 : w7.cell? ⟨w.heap.size, 2, none⟩ = some (.int .i64 x.n) := (HX7.out.cell 2).trans rfl
              clear hB7 hbox har
              go_wp2_with fail
              refine wp_region_E (fun w9 => Fr (· = s) w7 w9) [(0, 0), (1, 0), (3, 0), (4, 0), (5, 0), (2, 2), (6, 2), (7, 0), (8, 0), (10, 0), (9, 2), (11, 2), (12, 0), (13, 0), (14, 0), (15, 1), (18, 0), (19, 0), (20, 0), (16, 2), (17, 2), (21, 2), (22, 0), (23, 0), (24, 2), (25, 0), (26, 0)] (by kernel_rfl) (by kernel_rfl) (fun KK hKK => ?_)
              simp only [beside, List.filterMap_cons, List.filterMap_nil, List.getElem?_toArray, List.getElem?_cons_zero, List.getElem?_cons_succ, Option.map_some]
              repeat (first | (refine wpX_w ?_ (Or.inl ⟨by rfl, fun w9 => ?_⟩) ?_; rotate_left 1; (go_simp <;> with_reducible rfl); simp only [Act.put, List.setIfInBounds_toArray, List.set_cons_zero, List.set_cons_succ]) | (refine wpX_l ?_ (HF11.out) (Or.inl ⟨by rfl, fun w9 hw9 => ?_⟩) ?_; rotate_left 1; have hc9a := hw9.cell (p := ⟨w.heap.size, 0, none⟩) hx7 hsx.symm; have hc9b := hw9.cell (p := ⟨w.heap.size, 1, none⟩) hx7 hsx.symm; have hc9c := hw9.cell (p := ⟨w.heap.size, 2, none⟩) hx7 hsx.symm; (go_simp <;> with_reducible rfl); simp only [Act.put, List.setIfInBounds_toArray, List.set_cons_zero, List.set_cons_succ]) | (refine wpX_w undef (Or.inr ⟨by rfl, rfl⟩) ?_; simp only [Act.put, List.setIfInBounds_toArray, List.set_cons_zero, List.set_cons_succ]))
              refine wpX_es (fun K9 hK9 => ?_)
              go_simp
              refine (first_Sym _ _ k hk0 X w7.drew _ _ (seq_all_Sym w6.heap.size s _ _ _ X w7.drew HBX7.out HS70.out) (by omega)).mono ?_
              rintro e w8 ⟨A8, c8, rfl, hown, hA, Wx, Wy, hbx, hst, hby⟩
              have hF : Fr (· = s) w7 w8 := HF70.out.trans (((Fr.of_new (M := (· = s)) hbx).trans (hst.fr.mono (fun _ _ h => h))).into (Fr.of_below hby) (fun i hi => .inr hi))
              have HS8 := Lib.hid ((hst.set_ (HS70.out.new_ hbx) (by decide)).fr (Fr.of_below hby) (by have := HS70.out.lt; omega) (HS70.out.row_lt.mono (fun k hk => by omega)))
              have HF8 := Lib.hid hF
              have HT8 := Lib.hid (ownsRow_rd Sym.cells_length hown)
              refine hK9 _ _ HF8.out ?_
              clear hK9 K9 hown hA hbx hst hby hF
              rw [HT1.out, HTL.out]
              have HT8' := Lib.hid HT8.out
              clear HT8
              have HT8 := Lib.hid (HT1.out ▸ HT8'.out)
              refine wpX_es (fun K9 hK9 => ?_)
              go_simp
              refine (syms_at (l := T) (m := T) HTL.out.symm HTL2.out.symm w8 HT8.out (HT2.out ▸ ((HR7.out.fr HF8.out HNR.out).prefix_ (k)))).mono ?_
              rintro e w9 ⟨rfl, hB⟩
              rw [decide_eq_true rfl]
              have HF9 := Lib.hid (HF8.out.trans (Fr.of_new hB))
              have HS9 := Lib.hid (HS8.out.new_ hB)
              refine hK9 _ _ HF9.out ?_
              clear hK9 K9
              repeat (first | (refine wpX_w ?_ (Or.inl ⟨by rfl, fun w9 => ?_⟩) ?_; rotate_left 1; (go_simp <;> with_reducible rfl); simp only [Act.put, List.setIfInBounds_toArray, List.set_cons_zero, List.set_cons_succ]) | (refine wpX_l ?_ (HF11.out) (Or.inl ⟨by rfl, fun w9 hw9 => ?_⟩) ?_; rotate_left 1; have hc9a := hw9.cell (p := ⟨w.heap.size, 0, none⟩) hx7 hsx.symm; have hc9b := hw9.cell (p := ⟨w.heap.size, 1, none⟩) hx7 hsx.symm; have hc9c := hw9.cell (p := ⟨w.heap.size, 2, none⟩) hx7 hsx.symm; (go_simp <;> with_reducible rfl); simp only [Act.put, List.setIfInBounds_toArray, List.set_cons_zero, List.set_cons_succ]) | (refine wpX_w undef (Or.inr ⟨by rfl, rfl⟩) ?_; simp only [Act.put, List.setIfInBounds_toArray, List.set_cons_zero, List.set_cons_succ]))
              refine wpX_es (fun K9 hK9 => ?_)
              go_simp
              refine (list_Sym _ _ X w9 _ _ (seq_all_Sym w6.heap.size s _ _ _ X w9 ((HF9.out.cell (p := ⟨w6.heap.size, 0, none⟩) hbx7 hsb).trans HBX7.out) HS9.out) (by omega)).mono ?_
              rintro e w10 ⟨A10, c10, rfl, hown, hA, Wx, Wy, hbx, hst, hby⟩
              have hF : Fr (· = s) w7 w10 := HF9.out.trans (((Fr.of_new (M := (· = s)) hbx).trans (hst.fr.mono (fun _ _ h => h))).into (Fr.of_below hby) (fun i hi => .inr hi))
              have HS10 := Lib.hid ((hst.set_ (HS9.out.new_ hbx) (by decide)).fr (Fr.of_below hby) (by have := HS9.out.lt; omega) (HS9.out.row_lt.mono (fun k hk => by omega)))
              have HF10 := Lib.hid hF
              have HT10 := Lib.hid (ownsRow_rd Sym.cells_length hown)
              refine hK9 _ _ HF10.out ?_
              clear hK9 K9 hown hA hbx hst hby hF
              refine wpX_es (fun K9 hK9 => ?_)
              go_simp
              refine (syms_is _ _ _ _ X X w10 HT10.out (HR7.out.fr HF10.out HNR.out)).mono ?_
              rintro e w11 ⟨rfl, hB⟩
              rw [decide_eq_true rfl]
              have HF11 := Lib.hid (HF10.out.trans (Fr.of_new hB))
              have HS11 := Lib.hid (HS10.out.new_ hB)
              refine hK9 _ _ HF11.out ?_
              clear hK9 K9
              repeat (first | (refine wpX_w ?_ (Or.inl ⟨by rfl, fun w9 => ?_⟩) ?_; rotate_left 1; (go_simp <;> with_reducible rfl); simp only [Act.put, List.setIfInBounds_toArray, List.set_cons_zero, List.set_cons_succ]) | (refine wpX_l ?_ (HF11.out) (Or.inl ⟨by rfl, fun w9 hw9 => ?_⟩) ?_; rotate_left 1; have hc9a := hw9.cell (p := ⟨w.heap.size, 0, none⟩) hx7 hsx.symm; have hc9b := hw9.cell (p := ⟨w.heap.size, 1, none⟩) hx7 hsx.symm; have hc9c := hw9.cell (p := ⟨w.heap.size, 2, none⟩) hx7 hsx.symm; (go_simp <;> with_reducible rfl); simp only [Act.put, List.setIfInBounds_toArray, List.set_cons_zero, List.set_cons_succ]) | (refine wpX_w undef (Or.inr ⟨by rfl, rfl⟩) ?_; simp only [Act.put, List.setIfInBounds_toArray, List.set_cons_zero, List.set_cons_succ]))
              refine wpX_e (by kernel_rfl) (fun K9 hK9 => ?_)
              go_simp
              refine (mkfrom_Sym s x w11).mono ?_
              rintro e w16 ⟨rfl, hB, hbox, hxb⟩
              have HBF := Lib.hid hbox
              have HXF := Lib.hid hxb
              clear hbox hxb
              have HF16 := Lib.hid (HF11.out.trans (Fr.of_new hB))
              have HS16 := Lib.hid (HS11.out.new_ hB)
              refine hK9 _ _ ?_
              clear hK9 K9
              refine wpX_e (by kernel_rfl) (fun K9 hK9 => ?_)
              go_simp
              refine (list_Sym _ _ (X.drop (rank cmpSym X x)) w16 _ _ (seq_from_Sym _ _ s _ _ _ X x w16 HBF.out HXF.out HS16.out HXS.out (by omega)) (by simp; omega)).mono ?_
              rintro e w17 ⟨A17, c17, rfl, hown, hA, Wx, Wy, hbx, hst, hby⟩
              have hF : Fr (· = s) w7 w17 := HF16.out.trans (((Fr.of_new (M := (· = s)) hbx).trans (hst.fr.mono (fun _ _ h => h))).into (Fr.of_below hby) (fun i hi => .inr hi))
              have HS17 := Lib.hid ((hst.set_ (HS16.out.new_ hbx) (by decide)).fr (Fr.of_below hby) (by have := HS16.out.lt; omega) (HS16.out.row_lt.mono (fun k hk => by omega)))
              have HF17 := Lib.hid hF
              have HT17 := Lib.hid (ownsRow_rd Sym.cells_length hown)
              refine hK9 _ _ ?_
              clear hK9 K9 hown hA hbx hst hby hF
              refine wpX_e (by kernel_rfl) (fun K9 hK9 => ?_)
              go_simp
              refine (syms_at (l := X.drop (rank cmpSym X x)) (m := X.drop (rank cmpSym X x)) (by simp) (by simp) w17 HT17.out ((HR7.out.fr HF17.out HNR.out).suffix (rank cmpSym X x) hrl)).mono ?_
              rintro e w21 ⟨rfl, hB⟩
              rw [decide_eq_true rfl]
              have HF21 := Lib.hid (HF17.out.trans (Fr.of_new hB))
              have HS21 := Lib.hid (HS17.out.new_ hB)
              refine hK9 _ _ ?_
              clear hK9 K9
              repeat (first | (refine wpX_w ?_ (Or.inl ⟨by rfl, fun w9 => ?_⟩) ?_; rotate_left 1; (go_simp <;> with_reducible rfl); simp only [Act.put, List.setIfInBounds_toArray, List.set_cons_zero, List.set_cons_succ]) | (refine wpX_l ?_ (HF11.out) (Or.inl ⟨by rfl, fun w9 hw9 => ?_⟩) ?_; rotate_left 1; have hc9a := hw9.cell (p := ⟨w.heap.size, 0, none⟩) hx7 hsx.symm; have hc9b := hw9.cell (p := ⟨w.heap.size, 1, none⟩) hx7 hsx.symm; have hc9c := hw9.cell (p := ⟨w.heap.size, 2, none⟩) hx7 hsx.symm; (go_simp <;> with_reducible rfl); simp only [Act.put, List.setIfInBounds_toArray, List.set_cons_zero, List.set_cons_succ]) | (refine wpX_w undef (Or.inr ⟨by rfl, rfl⟩) ?_; simp only [Act.put, List.setIfInBounds_toArray, List.set_cons_zero, List.set_cons_succ]))
              refine wpX_e (by kernel_rfl) (fun K9 hK9 => ?_)
              go_simp
              refine (wakes_is w21).mono ?_
              rintro e w24 ⟨rfl, hB⟩
              have HF24 := Lib.hid (HF21.out.trans (Fr.of_new hB))
              have HS24 := Lib.hid (HS21.out.new_ hB)
              refine hK9 _ _ ?_
              clear hK9 K9
              repeat (first | (refine wpX_w ?_ (Or.inl ⟨by rfl, fun w9 => ?_⟩) ?_; rotate_left 1; (go_simp <;> with_reducible rfl); simp only [Act.put, List.setIfInBounds_toArray, List.set_cons_zero, List.set_cons_succ]) | (refine wpX_l ?_ (HF11.out) (Or.inl ⟨by rfl, fun w9 hw9 => ?_⟩) ?_; rotate_left 1; have hc9a := hw9.cell (p := ⟨w.heap.size, 0, none⟩) hx7 hsx.symm; have hc9b := hw9.cell (p := ⟨w.heap.size, 1, none⟩) hx7 hsx.symm; have hc9c := hw9.cell (p := ⟨w.heap.size, 2, none⟩) hx7 hsx.symm; (go_simp <;> with_reducible rfl); simp only [Act.put, List.setIfInBounds_toArray, List.set_cons_zero, List.set_cons_succ]) | (refine wpX_w undef (Or.inr ⟨by rfl, rfl⟩) ?_; simp only [Act.put, List.setIfInBounds_toArray, List.set_cons_zero, List.set_cons_succ]))
              refine wpX_nil ?_
              simp only [OnlyN_normal]
              refine hKK _ _ ?_
              clear hKK KK
              have HBZ := Lib.hid (HB7.out.trans (HF24.out.below HB7.out.size (fun k hk e => by omega)))
              go_wp2_with fail
              all_goals (go_ret; exact ⟨rfl, HBZ.out⟩)
            · obtain ⟨T, hT⟩ : ∃ T, T = X := ⟨_, rfl⟩
              have HT1 := Lib.hid (show X.take k = T by rw [hT]; exact List.take_of_length_le (by omega))
              have HT2 := Lib.hid (show X.take X.length = T by rw [hT]; exact List.take_length)
              have HTL := Lib.hid (show T.length = X.length by rw [hT])
              have HTL2 := Lib.hid HTL.out
              clear hT
              go_wp2_with fail
              refine (mkall_Sym s w6).mono ?_
              rintro e w7 ⟨rfl, hB7, hbox⟩
              have HS7 := Lib.hid ((HS5.out.new_ HB6.out).new_ hB7)
              have HX7 := Lib.hid ((HX5.out.new_ HB6.out).new_ hB7)
              have HR7 := Lib.hid ((HR5.out.new_ HB6.out).new_ hB7)
              have HB7 := Lib.hid ((HB5.out.trans (HB6.out.mono HB5.out.size)).trans (hB7.mono (by have := HB5.out.size; have := HB6.out.size; omega)))
              have HBX7 := Lib.hid hbox
              have hs7 : s < w7.heap.size := HS7.out.lt
              have hx7 : w.heap.size < w7.heap.size := HX7.out.lt
              have hbx7 : w6.heap.size < w7.heap.size := World.block_lt_of_cell? _ _ hbox
              have hsb : w6.heap.size ≠ s := by have := (HS5.out.new_ HB6.out).lt; omega
              have har : ∀ a, Ar = some a → a.block ≠ s := fun a ha h => by have := (HAR.out a ha).1; omega
              have HNR := Lib.hid har
              have hrl := rank_le (cmp := cmpSym) X x
              have hcr : X.length ≤ cr := HR7.out.1
              have b1 : (0 : Int) ≤ ((X.length : Nat) : Int) := by omega
              have b2 : ((X.length : Nat) : Int) ≤ (cr : Int) := by omega
              have b3 : (0 : Int) ≤ (rank cmpSym X x : Int) := by omega
              have b4 : (rank cmpSym X x : Int) ≤ (X.length : Int) := by omega
              have HS70 := Lib.hid (HS7.out.new_ (Below.refl _ w7).drew)
              have HF70 := Lib.hid ((Fr.refl (· = s) w7).drew)
              have y0 : w7.cell? ⟨w.heap.size, 0, none⟩ = some (.int .i64 x.kind) := (HX7.out.cell 0).trans rfl
              have y1 : w7.cell? ⟨w.heap.size, 1, none⟩ = some (.string x.text) := (HX7.out.cell 1).trans rfl
              have y2 : w7.cell? ⟨w.heap.size, 2, none⟩ = some (.int .i64 x.n) := (HX7.out.cell 2).trans rfl
              clear hB7 hbox har
              go_wp2_with fail
              refine wp_region_E (fun w9 => Fr (· = s) w7 w9) [(0, 0), (1, 0), (3, 0), (4, 0), (5, 0), (2, 2), (6, 2), (7, 0), (8, 0), (10, 0), (9, 2), (11, 2), (12, 0), (13, 0), (14, 0), (15, 1), (18, 0), (19, 0), (20, 0), (16, 2), (17, 2), (21, 2), (22, 0), (23, 0), (24, 2), (25, 0), (26, 0)] (by kernel_rfl) (by kernel_rfl) (fun KK hKK => ?_)
              simp only [beside, List.filterMap_cons, List.filterMap_nil, List.getElem?_toArray, List.getElem?_cons_zero, List.getElem?_cons_succ, Option.map_some]
              repeat (first | (refine wpX_w ?_ (Or.inl ⟨by rfl, fun w9 => ?_⟩) ?_; rotate_left 1; (go_simp <;> with_reducible rfl); simp only [Act.put, List.setIfInBounds_toArray, List.set_cons_zero, List.set_cons_succ]) | (refine wpX_l ?_ (HF11.out) (Or.inl ⟨by rfl, fun w9 hw9 => ?_⟩) ?_; rotate_left 1; have hc9a := hw9.cell (p := ⟨w.heap.size, 0, none⟩) hx7 hsx.symm; have hc9b := hw9.cell (p := ⟨w.heap.size, 1, none⟩) hx7 hsx.symm; have hc9c := hw9.cell (p := ⟨w.heap.size, 2, none⟩) hx7 hsx.symm; (go_simp <;> with_reducible rfl); simp only [Act.put, List.setIfInBounds_toArray, List.set_cons_zero, List.set_cons_succ]) | (refine wpX_w undef (Or.inr ⟨by rfl, rfl⟩) ?_; simp only [Act.put, List.setIfInBounds_toArray, List.set_cons_zero, List.set_cons_succ]))
              refine wpX_es (fun K9 hK9 => ?_)
              go_simp
              refine (first_Sym _ _ k hk0 X w7.drew _ _ (seq_all_Sym w6.heap.size s _ _ _ X w7.drew HBX7.out HS70.out) (by omega)).mono ?_
              rintro e w8 ⟨A8, c8, rfl, hown, hA, Wx, Wy, hbx, hst, hby⟩
              have hF : Fr (· = s) w7 w8 := HF70.out.trans (((Fr.of_new (M := (· = s)) hbx).trans (hst.fr.mono (fun _ _ h => h))).into (Fr.of_below hby) (fun i hi => .inr hi))
              have HS8 := Lib.hid ((hst.set_ (HS70.out.new_ hbx) (by decide)).fr (Fr.of_below hby) (by have := HS70.out.lt; omega) (HS70.out.row_lt.mono (fun k hk => by omega)))
              have HF8 := Lib.hid hF
              have HT8 := Lib.hid (ownsRow_rd Sym.cells_length hown)
              refine hK9 _ _ HF8.out ?_
              clear hK9 K9 hown hA hbx hst hby hF
              rw [HT1.out, HTL.out]
              have HT8' := Lib.hid HT8.out
              clear HT8
              have HT8 := Lib.hid (HT1.out ▸ HT8'.out)
              refine wpX_es (fun K9 hK9 => ?_)
              go_simp
              refine (syms_at (l := T) (m := T) HTL.out.symm HTL2.out.symm w8 HT8.out (HT2.out ▸ ((HR7.out.fr HF8.out HNR.out).prefix_ (X.length)))).mono ?_
              rintro e w9 ⟨rfl, hB⟩
              rw [decide_eq_true rfl]
              have HF9 := Lib.hid (HF8.out.trans (Fr.of_new hB))
              have HS9 := Lib.hid (HS8.out.new_ hB)
              refine hK9 _ _ HF9.out ?_
              clear hK9 K9
              repeat (first | (refine wpX_w ?_ (Or.inl ⟨by rfl, fun w9 => ?_⟩) ?_; rotate_left 1; (go_simp <;> with_reducible rfl); simp only [Act.put, List.setIfInBounds_toArray, List.set_cons_zero, List.set_cons_succ]) | (refine wpX_l ?_ (HF11.out) (Or.inl ⟨by rfl, fun w9 hw9 => ?_⟩) ?_; rotate_left 1; have hc9a := hw9.cell (p := ⟨w.heap.size, 0, none⟩) hx7 hsx.symm; have hc9b := hw9.cell (p := ⟨w.heap.size, 1, none⟩) hx7 hsx.symm; have hc9c := hw9.cell (p := ⟨w.heap.size, 2, none⟩) hx7 hsx.symm; (go_simp <;> with_reducible rfl); simp only [Act.put, List.setIfInBounds_toArray, List.set_cons_zero, List.set_cons_succ]) | (refine wpX_w undef (Or.inr ⟨by rfl, rfl⟩) ?_; simp only [Act.put, List.setIfInBounds_toArray, List.set_cons_zero, List.set_cons_succ]))
              refine wpX_es (fun K9 hK9 => ?_)
              go_simp
              refine (list_Sym _ _ X w9 _ _ (seq_all_Sym w6.heap.size s _ _ _ X w9 ((HF9.out.cell (p := ⟨w6.heap.size, 0, none⟩) hbx7 hsb).trans HBX7.out) HS9.out) (by omega)).mono ?_
              rintro e w10 ⟨A10, c10, rfl, hown, hA, Wx, Wy, hbx, hst, hby⟩
              have hF : Fr (· = s) w7 w10 := HF9.out.trans (((Fr.of_new (M := (· = s)) hbx).trans (hst.fr.mono (fun _ _ h => h))).into (Fr.of_below hby) (fun i hi => .inr hi))
              have HS10 := Lib.hid ((hst.set_ (HS9.out.new_ hbx) (by decide)).fr (Fr.of_below hby) (by have := HS9.out.lt; omega) (HS9.out.row_lt.mono (fun k hk => by omega)))
              have HF10 := Lib.hid hF
              have HT10 := Lib.hid (ownsRow_rd Sym.cells_length hown)
              refine hK9 _ _ HF10.out ?_
              clear hK9 K9 hown hA hbx hst hby hF
              refine wpX_es (fun K9 hK9 => ?_)
              go_simp
              refine (syms_is _ _ _ _ X X w10 HT10.out (HR7.out.fr HF10.out HNR.out)).mono ?_
              rintro e w11 ⟨rfl, hB⟩
              rw [decide_eq_true rfl]
              have HF11 := Lib.hid (HF10.out.trans (Fr.of_new hB))
              have HS11 := Lib.hid (HS10.out.new_ hB)
              refine hK9 _ _ HF11.out ?_
              clear hK9 K9
              repeat (first | (refine wpX_w ?_ (Or.inl ⟨by rfl, fun w9 => ?_⟩) ?_; rotate_left 1; (go_simp <;> with_reducible rfl); simp only [Act.put, List.setIfInBounds_toArray, List.set_cons_zero, List.set_cons_succ]) | (refine wpX_l ?_ (HF11.out) (Or.inl ⟨by rfl, fun w9 hw9 => ?_⟩) ?_; rotate_left 1; have hc9a := hw9.cell (p := ⟨w.heap.size, 0, none⟩) hx7 hsx.symm; have hc9b := hw9.cell (p := ⟨w.heap.size, 1, none⟩) hx7 hsx.symm; have hc9c := hw9.cell (p := ⟨w.heap.size, 2, none⟩) hx7 hsx.symm; (go_simp <;> with_reducible rfl); simp only [Act.put, List.setIfInBounds_toArray, List.set_cons_zero, List.set_cons_succ]) | (refine wpX_w undef (Or.inr ⟨by rfl, rfl⟩) ?_; simp only [Act.put, List.setIfInBounds_toArray, List.set_cons_zero, List.set_cons_succ]))
              refine wpX_e (by kernel_rfl) (fun K9 hK9 => ?_)
              go_simp
              refine (mkfrom_Sym s x w11).mono ?_
              rintro e w16 ⟨rfl, hB, hbox, hxb⟩
              have HBF := Lib.hid hbox
              have HXF := Lib.hid hxb
              clear hbox hxb
              have HF16 := Lib.hid (HF11.out.trans (Fr.of_new hB))
              have HS16 := Lib.hid (HS11.out.new_ hB)
              refine hK9 _ _ ?_
              clear hK9 K9
              refine wpX_e (by kernel_rfl) (fun K9 hK9 => ?_)
              go_simp
              refine (list_Sym _ _ (X.drop (rank cmpSym X x)) w16 _ _ (seq_from_Sym _ _ s _ _ _ X x w16 HBF.out HXF.out HS16.out HXS.out (by omega)) (by simp; omega)).mono ?_
              rintro e w17 ⟨A17, c17, rfl, hown, hA, Wx, Wy, hbx, hst, hby⟩
              have hF : Fr (· = s) w7 w17 := HF16.out.trans (((Fr.of_new (M := (· = s)) hbx).trans (hst.fr.mono (fun _ _ h => h))).into (Fr.of_below hby) (fun i hi => .inr hi))
              have HS17 := Lib.hid ((hst.set_ (HS16.out.new_ hbx) (by decide)).fr (Fr.of_below hby) (by have := HS16.out.lt; omega) (HS16.out.row_lt.mono (fun k hk => by omega)))
              have HF17 := Lib.hid hF
              have HT17 := Lib.hid (ownsRow_rd Sym.cells_length hown)
              refine hK9 _ _ ?_
              clear hK9 K9 hown hA hbx hst hby hF
              refine wpX_e (by kernel_rfl) (fun K9 hK9 => ?_)
              go_simp
              refine (syms_at (l := X.drop (rank cmpSym X x)) (m := X.drop (rank cmpSym X x)) (by simp) (by simp) w17 HT17.out ((HR7.out.fr HF17.out HNR.out).suffix (rank cmpSym X x) hrl)).mono ?_
              rintro e w21 ⟨rfl, hB⟩
              rw [decide_eq_true rfl]
              have HF21 := Lib.hid (HF17.out.trans (Fr.of_new hB))
              have HS21 := Lib.hid (HS17.out.new_ hB)
              refine hK9 _ _ ?_
              clear hK9 K9
              repeat (first | (refine wpX_w ?_ (Or.inl ⟨by rfl, fun w9 => ?_⟩) ?_; rotate_left 1; (go_simp <;> with_reducible rfl); simp only [Act.put, List.setIfInBounds_toArray, List.set_cons_zero, List.set_cons_succ]) | (refine wpX_l ?_ (HF11.out) (Or.inl ⟨by rfl, fun w9 hw9 => ?_⟩) ?_; rotate_left 1; have hc9a := hw9.cell (p := ⟨w.heap.size, 0, none⟩) hx7 hsx.symm; have hc9b := hw9.cell (p := ⟨w.heap.size, 1, none⟩) hx7 hsx.symm; have hc9c := hw9.cell (p := ⟨w.heap.size, 2, none⟩) hx7 hsx.symm; (go_simp <;> with_reducible rfl); simp only [Act.put, List.setIfInBounds_toArray, List.set_cons_zero, List.set_cons_succ]) | (refine wpX_w undef (Or.inr ⟨by rfl, rfl⟩) ?_; simp only [Act.put, List.setIfInBounds_toArray, List.set_cons_zero, List.set_cons_succ]))
              refine wpX_e (by kernel_rfl) (fun K9 hK9 => ?_)
              go_simp
              refine (wakes_is w21).mono ?_
              rintro e w24 ⟨rfl, hB⟩
              have HF24 := Lib.hid (HF21.out.trans (Fr.of_new hB))
              have HS24 := Lib.hid (HS21.out.new_ hB)
              refine hK9 _ _ ?_
              clear hK9 K9
              repeat (first | (refine wpX_w ?_ (Or.inl ⟨by rfl, fun w9 => ?_⟩) ?_; rotate_left 1; (go_simp <;> with_reducible rfl); simp only [Act.put, List.setIfInBounds_toArray, List.set_cons_zero, List.set_cons_succ]) | (refine wpX_l ?_ (HF11.out) (Or.inl ⟨by rfl, fun w9 hw9 => ?_⟩) ?_; rotate_left 1; have hc9a := hw9.cell (p := ⟨w.heap.size, 0, none⟩) hx7 hsx.symm; have hc9b := hw9.cell (p := ⟨w.heap.size, 1, none⟩) hx7 hsx.symm; have hc9c := hw9.cell (p := ⟨w.heap.size, 2, none⟩) hx7 hsx.symm; (go_simp <;> with_reducible rfl); simp only [Act.put, List.setIfInBounds_toArray, List.set_cons_zero, List.set_cons_succ]) | (refine wpX_w undef (Or.inr ⟨by rfl, rfl⟩) ?_; simp only [Act.put, List.setIfInBounds_toArray, List.set_cons_zero, List.set_cons_succ]))
              refine wpX_nil ?_
              simp only [OnlyN_normal]
              refine hKK _ _ ?_
              clear hKK KK
              have HBZ := Lib.hid (HB7.out.trans (HF24.out.below HB7.out.size (fun k hk e => by omega)))
              go_wp2_with fail
              all_goals (go_ret; exact ⟨rfl, HBZ.out⟩)
          · have hk00 : k = 0 := by omega
            subst hk00
            go_wp2_with fail
            refine (mkall_Sym s w6).mono ?_
            rintro e w7 ⟨rfl, hB7, hbox⟩
            have HS7 := Lib.hid ((HS5.out.new_ HB6.out).new_ hB7)
            have HX7 := Lib.hid ((HX5.out.new_ HB6.out).new_ hB7)
            have HR7 := Lib.hid ((HR5.out.new_ HB6.out).new_ hB7)
            have HB7 := Lib.hid ((HB5.out.trans (HB6.out.mono HB5.out.size)).trans (hB7.mono (by have := HB5.out.size; have := HB6.out.size; omega)))
            have HBX7 := Lib.hid hbox
            have hs7 : s < w7.heap.size := HS7.out.lt
            have hx7 : w.heap.size < w7.heap.size := HX7.out.lt
            have hbx7 : w6.heap.size < w7.heap.size := World.block_lt_of_cell? _ _ hbox
            have hsb : w6.heap.size ≠ s := by have := (HS5.out.new_ HB6.out).lt; omega
            have har : ∀ a, Ar = some a → a.block ≠ s := fun a ha h => by have := (HAR.out a ha).1; omega
            have HNR := Lib.hid har
            have hrl := rank_le (cmp := cmpSym) X x
            have hcr : X.length ≤ cr := HR7.out.1
            have b1 : (0 : Int) ≤ ((0 : Nat) : Int) := by omega
            have b2 : ((0 : Nat) : Int) ≤ (cr : Int) := by omega
            have b3 : (0 : Int) ≤ (rank cmpSym X x : Int) := by omega
            have b4 : (rank cmpSym X x : Int) ≤ (X.length : Int) := by omega
            have HS70 := Lib.hid (HS7.out.new_ (Below.refl _ w7).drew)
            have HF70 := Lib.hid ((Fr.refl (· = s) w7).drew)
            have y0 : w7.cell? ⟨w.heap.size, 0, none⟩ = some (.int .i64 x.kind) := (HX7.out.cell 0).trans rfl
            have y1 : w7.cell? ⟨w.heap.size, 1, none⟩ = some (.string x.text) := (HX7.out.cell 1).trans rfl
            have y2 : w7.cell? ⟨w.heap.size, 2, none⟩ = some (.int .i64 x.n) := (HX7.out.cell 2).trans rfl
            clear hB7 hbox har
            go_wp2_with fail
            refine wp_region_E (fun w9 => Fr (· = s) w7 w9) [(0, 0), (1, 0), (3, 0), (4, 0), (5, 0), (2, 2), (6, 2), (7, 0), (8, 0), (10, 0), (9, 2), (11, 2), (12, 0), (13, 0), (14, 0), (15, 1), (18, 0), (19, 0), (20, 0), (16, 2), (17, 2), (21, 2), (22, 0), (23, 0), (24, 2), (25, 0), (26, 0)] (by kernel_rfl) (by kernel_rfl) (fun KK hKK => ?_)
            simp only [beside, List.filterMap_cons, List.filterMap_nil, List.getElem?_toArray, List.getElem?_cons_zero, List.getElem?_cons_succ, Option.map_some]
            repeat (first | (refine wpX_w ?_ (Or.inl ⟨by rfl, fun w9 => ?_⟩) ?_; rotate_left 1; (go_simp <;> with_reducible rfl); simp only [Act.put, List.setIfInBounds_toArray, List.set_cons_zero, List.set_cons_succ]) | (refine wpX_l ?_ (HF11.out) (Or.inl ⟨by rfl, fun w9 hw9 => ?_⟩) ?_; rotate_left 1; have hc9a := hw9.cell (p := ⟨w.heap.size, 0, none⟩) hx7 hsx.symm; have hc9b := hw9.cell (p := ⟨w.heap.size, 1, none⟩) hx7 hsx.symm; have hc9c := hw9.cell (p := ⟨w.heap.size, 2, none⟩) hx7 hsx.symm; (go_simp <;> with_reducible rfl); simp only [Act.put, List.setIfInBounds_toArray, List.set_cons_zero, List.set_cons_succ]) | (refine wpX_w undef (Or.inr ⟨by rfl, rfl⟩) ?_; simp only [Act.put, List.setIfInBounds_toArray, List.set_cons_zero, List.set_cons_succ]))
            refine wpX_es (fun K9 hK9 => ?_)
            go_simp
            refine (first_no_Sym _ _ _ (by simp) w7.drew).mono ?_
            rintro e w8 ⟨rfl, hB⟩
            have HF8 := Lib.hid (HF70.out.trans (Fr.of_new hB))
            have HS8 := Lib.hid (HS70.out.new_ hB)
            refine hK9 _ _ HF8.out ?_
            clear hK9 K9
            refine wpX_es (fun K9 hK9 => ?_)
            go_simp
            refine (syms_at (l := ([] : List Sym)) (m := ([] : List Sym)) rfl rfl w8 (RowRd.nil _ _ _) (by have h := (HR7.out.fr HF8.out HNR.out).prefix_ 0; rw [List.take_zero] at h; exact h)).mono ?_
            rintro e w9 ⟨rfl, hB⟩
            rw [decide_eq_true rfl]
            have HF9 := Lib.hid (HF8.out.trans (Fr.of_new hB))
            have HS9 := Lib.hid (HS8.out.new_ hB)
            refine hK9 _ _ HF9.out ?_
            clear hK9 K9
            repeat (first | (refine wpX_w ?_ (Or.inl ⟨by rfl, fun w9 => ?_⟩) ?_; rotate_left 1; (go_simp <;> with_reducible rfl); simp only [Act.put, List.setIfInBounds_toArray, List.set_cons_zero, List.set_cons_succ]) | (refine wpX_l ?_ (HF11.out) (Or.inl ⟨by rfl, fun w9 hw9 => ?_⟩) ?_; rotate_left 1; have hc9a := hw9.cell (p := ⟨w.heap.size, 0, none⟩) hx7 hsx.symm; have hc9b := hw9.cell (p := ⟨w.heap.size, 1, none⟩) hx7 hsx.symm; have hc9c := hw9.cell (p := ⟨w.heap.size, 2, none⟩) hx7 hsx.symm; (go_simp <;> with_reducible rfl); simp only [Act.put, List.setIfInBounds_toArray, List.set_cons_zero, List.set_cons_succ]) | (refine wpX_w undef (Or.inr ⟨by rfl, rfl⟩) ?_; simp only [Act.put, List.setIfInBounds_toArray, List.set_cons_zero, List.set_cons_succ]))
            refine wpX_es (fun K9 hK9 => ?_)
            go_simp
            refine (list_Sym _ _ X w9 _ _ (seq_all_Sym w6.heap.size s _ _ _ X w9 ((HF9.out.cell (p := ⟨w6.heap.size, 0, none⟩) hbx7 hsb).trans HBX7.out) HS9.out) (by omega)).mono ?_
            rintro e w10 ⟨A10, c10, rfl, hown, hA, Wx, Wy, hbx, hst, hby⟩
            have hF : Fr (· = s) w7 w10 := HF9.out.trans (((Fr.of_new (M := (· = s)) hbx).trans (hst.fr.mono (fun _ _ h => h))).into (Fr.of_below hby) (fun i hi => .inr hi))
            have HS10 := Lib.hid ((hst.set_ (HS9.out.new_ hbx) (by decide)).fr (Fr.of_below hby) (by have := HS9.out.lt; omega) (HS9.out.row_lt.mono (fun k hk => by omega)))
            have HF10 := Lib.hid hF
            have HT10 := Lib.hid (ownsRow_rd Sym.cells_length hown)
            refine hK9 _ _ HF10.out ?_
            clear hK9 K9 hown hA hbx hst hby hF
            refine wpX_es (fun K9 hK9 => ?_)
            go_simp
            refine (syms_is _ _ _ _ X X w10 HT10.out (HR7.out.fr HF10.out HNR.out)).mono ?_
            rintro e w11 ⟨rfl, hB⟩
            rw [decide_eq_true rfl]
            have HF11 := Lib.hid (HF10.out.trans (Fr.of_new hB))
            have HS11 := Lib.hid (HS10.out.new_ hB)
            refine hK9 _ _ HF11.out ?_
            clear hK9 K9
            repeat (first | (refine wpX_w ?_ (Or.inl ⟨by rfl, fun w9 => ?_⟩) ?_; rotate_left 1; (go_simp <;> with_reducible rfl); simp only [Act.put, List.setIfInBounds_toArray, List.set_cons_zero, List.set_cons_succ]) | (refine wpX_l ?_ (HF11.out) (Or.inl ⟨by rfl, fun w9 hw9 => ?_⟩) ?_; rotate_left 1; have hc9a := hw9.cell (p := ⟨w.heap.size, 0, none⟩) hx7 hsx.symm; have hc9b := hw9.cell (p := ⟨w.heap.size, 1, none⟩) hx7 hsx.symm; have hc9c := hw9.cell (p := ⟨w.heap.size, 2, none⟩) hx7 hsx.symm; (go_simp <;> with_reducible rfl); simp only [Act.put, List.setIfInBounds_toArray, List.set_cons_zero, List.set_cons_succ]) | (refine wpX_w undef (Or.inr ⟨by rfl, rfl⟩) ?_; simp only [Act.put, List.setIfInBounds_toArray, List.set_cons_zero, List.set_cons_succ]))
            refine wpX_e (by kernel_rfl) (fun K9 hK9 => ?_)
            go_simp
            refine (mkfrom_Sym s x w11).mono ?_
            rintro e w16 ⟨rfl, hB, hbox, hxb⟩
            have HBF := Lib.hid hbox
            have HXF := Lib.hid hxb
            clear hbox hxb
            have HF16 := Lib.hid (HF11.out.trans (Fr.of_new hB))
            have HS16 := Lib.hid (HS11.out.new_ hB)
            refine hK9 _ _ ?_
            clear hK9 K9
            refine wpX_e (by kernel_rfl) (fun K9 hK9 => ?_)
            go_simp
            refine (list_Sym _ _ (X.drop (rank cmpSym X x)) w16 _ _ (seq_from_Sym _ _ s _ _ _ X x w16 HBF.out HXF.out HS16.out HXS.out (by omega)) (by simp; omega)).mono ?_
            rintro e w17 ⟨A17, c17, rfl, hown, hA, Wx, Wy, hbx, hst, hby⟩
            have hF : Fr (· = s) w7 w17 := HF16.out.trans (((Fr.of_new (M := (· = s)) hbx).trans (hst.fr.mono (fun _ _ h => h))).into (Fr.of_below hby) (fun i hi => .inr hi))
            have HS17 := Lib.hid ((hst.set_ (HS16.out.new_ hbx) (by decide)).fr (Fr.of_below hby) (by have := HS16.out.lt; omega) (HS16.out.row_lt.mono (fun k hk => by omega)))
            have HF17 := Lib.hid hF
            have HT17 := Lib.hid (ownsRow_rd Sym.cells_length hown)
            refine hK9 _ _ ?_
            clear hK9 K9 hown hA hbx hst hby hF
            refine wpX_e (by kernel_rfl) (fun K9 hK9 => ?_)
            go_simp
            refine (syms_at (l := X.drop (rank cmpSym X x)) (m := X.drop (rank cmpSym X x)) (by simp) (by simp) w17 HT17.out ((HR7.out.fr HF17.out HNR.out).suffix (rank cmpSym X x) hrl)).mono ?_
            rintro e w21 ⟨rfl, hB⟩
            rw [decide_eq_true rfl]
            have HF21 := Lib.hid (HF17.out.trans (Fr.of_new hB))
            have HS21 := Lib.hid (HS17.out.new_ hB)
            refine hK9 _ _ ?_
            clear hK9 K9
            repeat (first | (refine wpX_w ?_ (Or.inl ⟨by rfl, fun w9 => ?_⟩) ?_; rotate_left 1; (go_simp <;> with_reducible rfl); simp only [Act.put, List.setIfInBounds_toArray, List.set_cons_zero, List.set_cons_succ]) | (refine wpX_l ?_ (HF11.out) (Or.inl ⟨by rfl, fun w9 hw9 => ?_⟩) ?_; rotate_left 1; have hc9a := hw9.cell (p := ⟨w.heap.size, 0, none⟩) hx7 hsx.symm; have hc9b := hw9.cell (p := ⟨w.heap.size, 1, none⟩) hx7 hsx.symm; have hc9c := hw9.cell (p := ⟨w.heap.size, 2, none⟩) hx7 hsx.symm; (go_simp <;> with_reducible rfl); simp only [Act.put, List.setIfInBounds_toArray, List.set_cons_zero, List.set_cons_succ]) | (refine wpX_w undef (Or.inr ⟨by rfl, rfl⟩) ?_; simp only [Act.put, List.setIfInBounds_toArray, List.set_cons_zero, List.set_cons_succ]))
            refine wpX_e (by kernel_rfl) (fun K9 hK9 => ?_)
            go_simp
            refine (wakes_is w21).mono ?_
            rintro e w24 ⟨rfl, hB⟩
            have HF24 := Lib.hid (HF21.out.trans (Fr.of_new hB))
            have HS24 := Lib.hid (HS21.out.new_ hB)
            refine hK9 _ _ ?_
            clear hK9 K9
            repeat (first | (refine wpX_w ?_ (Or.inl ⟨by rfl, fun w9 => ?_⟩) ?_; rotate_left 1; (go_simp <;> with_reducible rfl); simp only [Act.put, List.setIfInBounds_toArray, List.set_cons_zero, List.set_cons_succ]) | (refine wpX_l ?_ (HF11.out) (Or.inl ⟨by rfl, fun w9 hw9 => ?_⟩) ?_; rotate_left 1; have hc9a := hw9.cell (p := ⟨w.heap.size, 0, none⟩) hx7 hsx.symm; have hc9b := hw9.cell (p := ⟨w.heap.size, 1, none⟩) hx7 hsx.symm; have hc9c := hw9.cell (p := ⟨w.heap.size, 2, none⟩) hx7 hsx.symm; (go_simp <;> with_reducible rfl); simp only [Act.put, List.setIfInBounds_toArray, List.set_cons_zero, List.set_cons_succ]) | (refine wpX_w undef (Or.inr ⟨by rfl, rfl⟩) ?_; simp only [Act.put, List.setIfInBounds_toArray, List.set_cons_zero, List.set_cons_succ]))
            refine wpX_nil ?_
            simp only [OnlyN_normal]
            refine hKK _ _ ?_
            clear hKK KK
            have HBZ := Lib.hid (HB7.out.trans (HF24.out.below HB7.out.size (fun k hk e => by omega)))
            go_wp2_with fail
            all_goals (go_ret; exact ⟨rfl, HBZ.out⟩)
end Go.Proofs.Ythhhhjllpejpgaa
