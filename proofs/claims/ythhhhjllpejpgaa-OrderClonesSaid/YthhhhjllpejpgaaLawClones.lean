/-
  The law on clones: its walk, and its row.
-/
import Derived.Test.YthhhhjllpejpgaaKitSyms
import Derived.Test.YthhhhjllpejpgaaKitWakes
import Derived.Test.YthhhhjllpejpgaaRowSym
import Derived.Shelf.Abstract
namespace Go.Proofs.Ythhhhjllpejpgaa
open Go.RowKit
theorem mem_drops {α : Type} {cmp : α → α → Int} : ∀ (xs : List α) {l : List α} {y : α}, y ∈ xs.foldl (drop cmp) l → y ∈ l ∧ ∀ x ∈ xs, cmp y x ≠ 0
  | [], _, _, h => ⟨h, fun _ h => by simp at h⟩
  | x :: xs, l, y, h => by
    obtain ⟨h1, h2⟩ := mem_drops xs (l := drop cmp l x) h
    rw [mem_drop] at h1
    refine ⟨h1.1, fun z hz => ?_⟩
    rcases List.mem_cons.1 hz with rfl | hz
    · exact h1.2
    · exact h2 z hz
theorem mem_put {α : Type} {cmp : α → α → Int} {l : List α} {x y : α} (h : y ∈ put cmp l x) : y ∈ l ∨ y = x := by
  unfold put at h
  split at h
  · exact .inl h
  · rcases List.mem_append.1 h with h | h
    · exact .inl (mem_below.1 h).1
    · rcases List.mem_cons.1 h with h | h
      · exact .inr h
      · exact .inl (mem_above.1 h).1
theorem mem_puts {α : Type} {cmp : α → α → Int} : ∀ (xs : List α) {l : List α} {y : α}, y ∈ puts cmp l xs → y ∈ l ∨ y ∈ xs
  | [], _, _, h => .inl h
  | x :: xs, l, y, h => by
    rcases mem_puts xs (l := put cmp l x) h with h | h
    · rcases mem_put h with h | h
      · exact .inl h
      · exact .inr (by simp [h])
    · exact .inr (by simp [h])
theorem drops_puts (l : List Sym) : l.foldl (drop cmpSym) (puts cmpSym [] l) = [] := by
  rw [List.eq_nil_iff_forall_not_mem]
  intro y hy
  obtain ⟨h1, h2⟩ := mem_drops l hy
  rcases mem_puts l h1 with h | h
  · simp at h
  · exact h2 y h (cmpSym_eq.2 rfl)

set_option maxRecDepth 100000 in
set_option maxHeartbeats 4000000 in
theorem clones_walk (A B : Option Addr) (c d : Nat) (l m : List Sym) (w : World) (hl : RowRd w 3 Sym.cells A c l) (hm : RowRd w 3 Sym.cells B d m) :
    Calls Try.prog 7 #[.slice A l.length c, .slice B m.length d] w fun e w' => e = .returned (.bool true) ∧ Below w.heap.size w w' := by
  have HL := Lib.hid hl
  have HM := Lib.hid hm
  clear hl hm
  by_cases h1 : 60 < l.length
  · have t1 : decide ((60 : Int) < (l.length : Int)) = true := by simp; omega
    clear h1
    go_enter Try.func7, Try.ntmps7
    go_wp2_with fail
    refine (wakes_is _).mono ?_
    rintro e w1 ⟨rfl, hB⟩
    have HB := Lib.hid hB
    clear hB
    go_wp2_with fail
    go_ret
    exact ⟨rfl, HB.out⟩
  by_cases h2 : 60 < m.length
  · have t1 : decide ((60 : Int) < (l.length : Int)) = false := by simp; omega
    have t2 : decide ((60 : Int) < (m.length : Int)) = true := by simp; omega
    clear h1 h2
    go_enter Try.func7, Try.ntmps7
    go_wp2_with fail
    refine (wakes_is _).mono ?_
    rintro e w1 ⟨rfl, hB⟩
    have HB := Lib.hid hB
    clear hB
    go_wp2_with fail
    go_ret
    exact ⟨rfl, HB.out⟩
  have t1 : decide ((60 : Int) < (l.length : Int)) = false := by simp; omega
  have t2 : decide ((60 : Int) < (m.length : Int)) = false := by simp; omega
  have hl60 : l.length ≤ 60 := by omega
  have hm60 : m.length ≤ 60 := by omega
  clear h1 h2
  go_enter Try.func7, Try.ntmps7
  go_wp2_with fail
  refine (sNew_Sym A c l (Sets.start _ _ _ Sym.cells cmpSym w) HL.out (by omega)).mono ?_
  rintro e w1 ⟨⟨s, rfl, hs, _, σ1, h1, _⟩, hB1⟩
  obtain ⟨L, hL⟩ : ∃ L, L = puts cmpSym [] l := ⟨_, rfl⟩
  rw [← hL] at h1
  have hLl : L.length ≤ 60 := by
    have := length_puts_le tc_sym l (Srt.nil (cmp := cmpSym))
    rw [hL]; simp at this; omega
  have HLL := Lib.hid hL
  have H1 := Lib.hid h1
  have HB1 := Lib.hid hB1
  clear h1 hB1 hL
  go_wp2_with fail
  refine (sClone_Sym H1.out (upd_same _ _ _)).mono ?_
  rintro e w2 ⟨k, rfl, hk, hnk, σ2, h2, _, _, _, _, _, hF2, _⟩
  have hsk : s ≠ k := hnk s L (upd_same _ _ _)
  have H2 := Lib.hid h2
  have HB2 := Lib.hid (HB1.out.trans (hF2.below HB1.out.size (fun j hj hd => hd hj)))
  clear h2 hF2 hnk
  go_wp2_with fail
  refine (same_Sym s k _ _ _ _ _ _ L L _ (H2.out.at_ s L (by rw [upd_ne _ _ hsk, upd_same])) (H2.out.at_ k L (upd_same _ _ _)) (by omega)).mono ?_
  rintro e w3 ⟨r, rfl, hr, hB3⟩
  have hrt : r = true := hr.2 ⟨rfl, fun j _ _ => cmpSym_eq.2 rfl⟩
  subst hrt
  have H3 := Lib.hid (H2.out.below hB3)
  have HB3 := Lib.hid (HB2.out.trans (hB3.mono HB2.out.size))
  clear hr hB3
  go_wp2_with fail
  refine (lawlist H3.out (b := s) (l := L) (by rw [upd_ne _ _ hsk, upd_same]) (by omega)).mono ?_
  rintro e w4 ⟨A4, c4, rfl, _, _, ⟨σ4, h4⟩, hF4, _⟩
  have H4 := Lib.hid (h4.weaken (D' := (· < w.heap.size)) (fun j hj => .inl hj))
  have HB4 := Lib.hid (HB3.out.trans (hF4.below HB3.out.size (fun j hj hd => hd hj)))
  clear h4 hF4
  go_wp2_with fail
  go_loopw [8] (fun t wr => ∃ i : Nat, t = .int .i64 i ∧ i ≤ m.length ∧ Below w.heap.size w wr ∧ ∃ S σ M, SymSets (· < w.heap.size) wr S σ ∧ S s = some L ∧ S k = some M ∧ M.length ≤ i + 60) (fun t wr => m.length - (intOf t).toNat)
  case atStart => exact ⟨0, rfl, Nat.zero_le _, HB4.out, _, σ4, L, H4.out, by rw [upd_ne _ _ hsk, upd_same], upd_same _ _ _, by omega⟩
  case round =>
    obtain ⟨i, rfl, hi, hB, S, σ, M, hS, hSs, hSk, hM⟩ := hrel
    have HB := Lib.hid hB
    have HS := Lib.hid hS
    have HSs := Lib.hid hSs
    have HSk := Lib.hid hSk
    clear hB hS hSs hSk
    by_cases hlt : i < m.length
    · obtain ⟨x, hx⟩ : ∃ x, x = m[i] := ⟨_, rfl⟩
      obtain ⟨g, off, rfl, hg, q0, q1, q2⟩ := sym_at (HM.out.new_ HB.out) hlt
      rw [← hx] at q0 q1 q2
      have HX := Lib.hid hx
      clear hx
      have b1 : (0 : Int) ≤ (i : Int) := by omega
      have b2 : (i : Int) < (m.length : Int) := by omega
      go_wp2_with fail
      refine (sPut_Sym x HS.out HSk.out (by omega)).mono ?_
      rintro e w5 ⟨rfl, σ5, h5, _, hF5, _⟩
      have hM5 := length_put_le tc_sym (HS.out.srt k M HSk.out) x
      obtain ⟨M5, hMe⟩ : ∃ M5, M5 = put cmpSym M x := ⟨_, rfl⟩
      rw [← hMe] at h5 hM5
      have H5 := Lib.hid h5
      have HB5 := Lib.hid (HB.out.trans (hF5.below HB.out.size (fun j hj hd => hd hj)))
      clear h5 hF5 hMe q0 q1 q2
      go_wp2_with fail
      refine (within_is _ _ _ (by omega)).mono ?_
      rintro e w6 ⟨rfl, rfl⟩
      obtain ⟨j, hj, hjl⟩ := within_nat ((i : Int) * 7) (show 0 < m.length by omega)
      rw [hj]
      obtain ⟨y, hy⟩ : ∃ y, y = m[j] := ⟨_, rfl⟩
      obtain ⟨g2, off2, hA2, hg2, q0, q1, q2⟩ := sym_at (HM.out.new_ HB5.out) hjl
      cases hA2
      rw [← hy] at q0 q1 q2
      clear hy hj
      have b3 : (0 : Int) ≤ (j : Int) := by omega
      have b4 : (j : Int) < (m.length : Int) := by omega
      go_wp2_with fail
      refine (sDrop_Sym y H5.out (upd_same _ _ _) (by omega)).mono ?_
      rintro e w7 ⟨rfl, σ7, h7, _, hF7, _⟩
      have hM7 := length_drop_le (cmp := cmpSym) M5 y
      have H7 := Lib.hid h7
      have HB7 := Lib.hid (HB5.out.trans (hF7.below HB5.out.size (fun j hj hd => hd hj)))
      clear h7 hF7 q0 q1 q2
      go_wp2_with fail
      go_roundw
      case rel => exact ⟨i + 1, by go_num, by omega, HB7.out, _, σ7, _, H7.out, by rw [upd_ne _ _ hsk, upd_ne _ _ hsk]; exact HSs.out, upd_same _ _ _, by omega⟩
      case measure => simp [intOf] <;> omega
    · have hie : i = m.length := by omega
      subst hie
      go_wp2_with fail
      refine (lawlist HS.out HSk.out (by omega)).mono ?_
      rintro e w5 ⟨A5, c5, rfl, hr5, hA5, ⟨σ5, h5⟩, hF5, _⟩
      have HB5 := Lib.hid (HB.out.trans (hF5.below HB.out.size (fun j hj hd => hd hj)))
      obtain ⟨D, hD⟩ : ∃ D : Nat → Prop, D = fun k => k < w.heap.size ∨ (wr.heap.size ≤ k ∧ k < w5.heap.size) := ⟨_, rfl⟩
      have hDA : AIn A5 D := hA5.mono (fun j hj => by rw [hD]; exact .inr hj)
      have hDw : ∀ j, j < w.heap.size → D j := fun j hj => by rw [hD]; exact .inl hj
      rw [← hD] at h5
      have H5 := Lib.hid h5
      have HR5 := Lib.hid hr5
      have HDA := Lib.hid hDA
      have HDw := Lib.hid hDw
      clear h5 hr5 hA5 hF5 hDA hDw hD
      go_wp2_with fail
      go_loopw [10] (fun t wr => ∃ i : Nat, t = .int .i64 i ∧ i ≤ l.length ∧ Below w.heap.size w wr ∧ RowRd wr 3 Sym.cells A5 c5 M ∧ ∃ S σ, SymSets D wr S σ ∧ S s = some ((l.take i).foldl (drop cmpSym) L) ∧ S k = some M ∧ ((l.take i).foldl (drop cmpSym) L).length ≤ 60) (fun t wr => l.length - (intOf t).toNat)
      case atStart => exact ⟨0, rfl, Nat.zero_le _, HB5.out, HR5.out, _, σ5, H5.out, HSs.out, HSk.out, hLl⟩
      case round =>
        obtain ⟨i, rfl, hi, hB, hR, S, σ, hS, hSs, hSk, hLi⟩ := hrel
        obtain ⟨Li, hLe⟩ : ∃ Li, Li = (l.take i).foldl (drop cmpSym) L := ⟨_, rfl⟩
        rw [← hLe] at hSs hLi
        have HLe := Lib.hid hLe
        have HB := Lib.hid hB
        have HR := Lib.hid hR
        have HS := Lib.hid hS
        have HSs := Lib.hid hSs
        have HSk := Lib.hid hSk
        clear hB hS hSs hSk hR hLe
        by_cases hlt : i < l.length
        · obtain ⟨x, hx⟩ : ∃ x, x = l[i] := ⟨_, rfl⟩
          obtain ⟨g, off, rfl, hg, q0, q1, q2⟩ := sym_at (HL.out.new_ HB.out) hlt
          rw [← hx] at q0 q1 q2
          have HX := Lib.hid hx
          clear hx
          have b1 : (0 : Int) ≤ (i : Int) := by omega
          have b2 : (i : Int) < (l.length : Int) := by omega
          go_wp2_with fail
          refine (sDrop_Sym x HS.out HSs.out (by omega)).mono ?_
          rintro e w7 ⟨rfl, σ7, h7, _, hF7, _⟩
          have hM7 := length_drop_le (cmp := cmpSym) Li x
          have H7 := Lib.hid h7
          have HB7 := Lib.hid (HB.out.trans (hF7.below HB.out.size (fun j hj hd => hd (HDw.out j hj))))
          have HR7 := Lib.hid (HR.out.fr hF7 (HDA.out.mono (fun j hj hd => hd hj)))
          clear h7 hF7 q0 q1 q2
          go_wp2_with fail
          go_roundw
          case rel =>
            have e1 : (l.take (i + 1)).foldl (drop cmpSym) L = drop cmpSym Li x := by
              rw [List.take_add_one, List.getElem?_eq_getElem hlt, ← HX.out, HLe.out]
              simp
            refine ⟨i + 1, by go_num, by omega, HB7.out, HR7.out, _, σ7, H7.out, ?_, ?_, ?_⟩
            · rw [e1]; exact upd_same _ _ _
            · rw [upd_ne _ _ (Ne.symm hsk)]; exact HSk.out
            · rw [e1]; omega
          case measure => simp [intOf] <;> omega
        · have hie : i = l.length := by omega
          subst hie
          have hnil : Li = [] := by
            rw [HLe.out, List.take_length, HLL.out]
            exact drops_puts l
          subst hnil
          go_wp2_with fail
          refine (len_Sym s _ _ _ [] _ (HS.out.at_ s [] HSs.out)).mono ?_
          rintro e w7 ⟨rfl, rfl⟩
          simp only [List.length_nil]
          go_wp2_with fail
          refine (lawlist HS.out HSk.out (by omega)).mono ?_
          rintro e w8 ⟨A8, c8, rfl, hr8, _, _, hF8, _⟩
          have HB8 := Lib.hid (HB.out.trans (hF8.below HB.out.size (fun j hj hd => hd (HDw.out j hj))))
          have HR8 := Lib.hid hr8
          have HN8 := Lib.hid (HR.out.fr hF8 (HDA.out.mono (fun j hj hd => hd hj)))
          clear hr8 hF8
          go_wp2_with fail
          refine (syms_is A8 A5 c8 c5 M M _ HR8.out HN8.out).mono ?_
          rintro e w9 ⟨rfl, hB9⟩
          have e9 : decide (M = M) = true := by simp
          rw [e9]
          have HB9 := Lib.hid (HB8.out.trans (hB9.mono HB8.out.size))
          clear hB9 e9
          have t9 : L.length ≤ l.length := by
            have := length_puts_le tc_sym l (Srt.nil (cmp := cmpSym))
            rw [HLL.out]; simpa using this
          go_wp2_with fail
          refine (wakes_is _).mono ?_
          rintro e w10 ⟨rfl, hB10⟩
          have HB10 := Lib.hid (HB9.out.trans (hB10.mono HB9.out.size))
          clear hB10
          go_wp2_with fail
          go_ret
          exact ⟨rfl, HB10.out⟩
end Go.Proofs.Ythhhhjllpejpgaa
