/-
  Texts put together: GItems, GPushT, GStates, GWakes, GPushN.
-/
import Derived.Test.YthogokcbbkjcdaaMf

namespace Go.Proofs.Ythogokcbbkjcdaa
open Go.RowKit Go.Shelf
attribute [local go_sem] Oper.semAt_some
set_option maxRecDepth 100000 in
set_option maxHeartbeats 8000000 in
theorem items_is {D : Nat → Prop} {W : World} {T : TB} {L : List Sym} (kind : Int) (l : List Sym) (A : Option Addr) (c : Nat) (h : GT D W T L) (hrd : RowRd W 3 Sym.cells A c l) (hA : AIn A D) (hv : ∀ s ∈ l, validB s = true)
    (hn : ∀ i, (hi : i < l.length) → has cmpSym (puts cmpSym [] (l.take i)) l[i] = false) (hk : l.length = 0 ↔ kind = 4) (hl : (l.length : Int) ≤ 10000) :
    Calls Try.prog 22 #[.int .i64 kind, .slice A l.length c] W fun e W' => e = .returned (.bool true) ∧ GT D W' T L ∧ Fr (fun j => ¬ D j) W W' ∧ KB W W' := by
  have HT := Lib.hid h
  have HRD := Lib.hid hrd
  have HA := Lib.hid hA
  have HV := Lib.hid hv
  have HN := Lib.hid hn
  have t1 : ((l.length : Int) == 0) = decide (kind = 4) := by
    rw [Bool.eq_iff_iff, beq_iff_eq, decide_eq_true_iff, ← hk]; omega
  have t2 : (kind == 4) = decide (kind = 4) := by rw [Bool.eq_iff_iff, beq_iff_eq, decide_eq_true_iff]
  obtain ⟨b, hb⟩ : ∃ b, b = decide (kind = 4) := ⟨_, rfl⟩
  rw [← hb] at t1 t2
  clear h hrd hA hv hn hk hb
  go_enter Try.func22, Try.ntmps22
  go_wp2_with fail
  refine (gts_new HT.out).mono ?_
  rintro e W1 ⟨k, rfl, h1, hB1⟩
  have H1 := Lib.hid h1
  have HB1 := Lib.hid hB1
  clear h1 hB1 t1 t2
  go_wp2_with fail
  go_loopw [17] (fun s wr => ∃ i : Nat, s = .int .i64 i ∧ i ≤ l.length ∧ GTS D wr T L k (puts cmpSym [] (l.take i)) ∧ Fr (fun j => ¬ D j) W wr ∧ KB W wr) (fun s wr => l.length - (intOf s).toNat)
  case atStart => exact ⟨0, rfl, Nat.zero_le _, H1.out, Fr.of_new HB1.out, KB.of_below HB1.out⟩
  case round =>
    obtain ⟨i, rfl, hi, hg, hF, hK⟩ := hrel
    have HG := Lib.hid hg
    have HF := Lib.hid hF
    have HK := Lib.hid hK
    clear hg hF hK
    by_cases hlt : i < l.length
    · obtain ⟨y, hy⟩ : ∃ y, y = l[i] := ⟨_, rfl⟩
      obtain ⟨g, off, hAA, hgl, q0, q1, q2⟩ := sym_at (HRD.out.fr HF.out (HA.out.mono (fun _ h hn => hn h))) hlt
      subst hAA
      rw [← hy] at q0 q1 q2
      have HVY := Lib.hid (show validB y = true by rw [hy]; exact HV.out _ (List.getElem_mem hlt))
      have HNY := Lib.hid (show has cmpSym (puts cmpSym [] (l.take i)) y = false by rw [hy]; exact HN.out i hlt)
      have HSN := Lib.hid (show puts cmpSym [] (l.take (i + 1)) = put cmpSym (puts cmpSym [] (l.take i)) y by
        rw [List.take_add_one, List.getElem?_eq_getElem hlt, ← hy]
        exact puts_snoc _ _ _)
      have HLN := Lib.hid (show ((puts cmpSym [] (l.take i)).length : Int) ≤ 100000000 by
        have := length_puts_le tc_sym (l.take i) Srt.nil
        simp at this
        omega)
      have b1 : (0 : Int) ≤ (i : Int) := by omega
      have b2 : (i : Int) < (l.length : Int) := by omega
      clear hy
      go_wp2_with fail
      refine (valid_is y _).mono ?_
      rintro e w3 ⟨rfl, hb3⟩
      rw [HVY.out]
      have z0 : w3.cell? ⟨wr.heap.size, 0, none⟩ = some (.int .i64 y.kind) := (hb3.cell (p := ⟨wr.heap.size, 0, none⟩) (by simp)).trans (by go_simp)
      have z1 : w3.cell? ⟨wr.heap.size, 1, none⟩ = some (.string y.text) := (hb3.cell (p := ⟨wr.heap.size, 1, none⟩) (by simp)).trans (by go_simp)
      have z2 : w3.cell? ⟨wr.heap.size, 2, none⟩ = some (.int .i64 y.n) := (hb3.cell (p := ⟨wr.heap.size, 2, none⟩) (by simp)).trans (by go_simp)
      have hb3' := Below.trans (show Below wr.heap.size wr _ from (by (repeat (first | exact Below.refl _ _ | (refine Below.drew ?_) | (refine Below.alloc ?_ (by simp <;> omega) _) | (refine Below.setCell ?_ (by simp <;> omega) _))))) (hb3.mono (by simp))
      have HB3 := Lib.hid hb3'
      clear hb3 hb3' q0 q1 q2
      go_wp2_with fail
      refine (gts_put y (HG.out.below HB3.out) HLN.out).mono ?_
      rintro e w4 ⟨rfl, h4, hF4, hK4⟩
      rw [HNY.out]
      rw [← HSN.out] at h4
      have H4 := Lib.hid h4
      have HF4 := Lib.hid ((HF.out.trans (Fr.of_new HB3.out)).trans hF4)
      have HK4 := Lib.hid ((HK.out.trans (KB.of_below HB3.out)).trans hK4)
      clear h4 hF4 hK4 z0 z1 z2
      go_wp2_with fail
      go_roundw
      case rel => exact ⟨i + 1, by go_num, by omega, H4.out, HF4.out, HK4.out⟩
      case measure => simp [intOf] <;> omega
    · have hie : i = l.length := by omega
      subst hie
      go_wp2_with fail
      go_ret
      exact ⟨rfl, HG.out.gt, HF.out, HK.out⟩
end Go.Proofs.Ythogokcbbkjcdaa

namespace Go.Proofs.Ythogokcbbkjcdaa
open Go.RowKit Go.Shelf
attribute [local go_sem] Oper.semAt_some
set_option maxRecDepth 100000 in
set_option maxHeartbeats 16000000 in
theorem pushT_is {D : Nat → Prop} {W : World} {sb : Nat} {T : TB} {L : List Sym} {dep : Int} {gs : List GoalC} {ks : List Value} {A : Option Addr} {c : Nat} {A2 : Option Addr} {c2 : Nat} (h : GT D W T L) (hS : Stk W sb T dep gs ks A c) (hsD : ¬ D sb) (hrd : RowRd W 3 Sym.cells A2 c2 ops2) (hA2 : AIn A2 D)
    (hl : (gs.length : Int) < dep) (hl8 : (gs.length : Int) ≤ 100) (hrm : ((puts cmpSym L wordsT).length : Int) < T.room) (hnx : nextL (puts cmpSym L wordsT) 83 ≤ 1048576) :
    Calls Try.prog 9 #[.pointer (some ⟨sb, 0, none⟩), .int .i64 1, .string ⟨#[111, 112, 101, 114, 97, 116, 111, 114]⟩, .slice A2 2 c2] W fun e W' => e = .returned (.int .i64 0) ∧ PushTo D W sb T L wordsT dep gs ks 1 ⟨#[111, 112, 101, 114, 97, 116, 111, 114]⟩ ops2 W' := by
  obtain ⟨i0, hi0, hz0, hz1, hz2⟩ := info_parts info_Sym
  obtain ⟨j0, hj0, hy0, hy1, hy2⟩ := info_parts info_Goal
  have HT := Lib.hid h
  have HS := Lib.hid hS
  have HSD := Lib.hid hsD
  have HRM := Lib.hid hrm
  have HNX := Lib.hid hnx
  have s0 : W.cell? ⟨sb, 0, none⟩ = some (.int .i64 dep) := (hS.blk.cell 0).trans rfl
  have s1 : W.cell? ⟨sb, 1, none⟩ = some (.pointer (some ⟨T.b, 0, none⟩)) := (hS.blk.cell 1).trans rfl
  have s2 : W.cell? ⟨sb, 2, none⟩ = some (.slice A gs.length c) := (hS.blk.cell 2).trans rfl
  have hsl := hS.blk.lt
  have t1 : decide (dep ≤ (gs.length : Int)) = false := by simp; omega
  have HL := Lib.hid hl
  have HRD2 := Lib.hid hrd
  have HA2 := Lib.hid hA2
  clear hrd hA2
  clear h hS hsD hrm hnx s0 s1 s2 hsl hl
  go_enter Try.func9, Try.ntmps9
  go_wp2_with fail
  refine (items_is 1 ops2 A2 c2 HT.out HRD2.out HA2.out ops2_valid ops2_new (by decide) (by decide)).mono ?_
  rintro e W3 ⟨rfl, h3, hF3, hK3⟩
  have hS3 := HS.out.kb hK3
  have s0 : W3.cell? ⟨sb, 0, none⟩ = some (.int .i64 dep) := (hS3.blk.cell 0).trans rfl
  have s1 : W3.cell? ⟨sb, 1, none⟩ = some (.pointer (some ⟨T.b, 0, none⟩)) := (hS3.blk.cell 1).trans rfl
  have s2 : W3.cell? ⟨sb, 2, none⟩ = some (.slice A gs.length c) := (hS3.blk.cell 2).trans rfl
  have hsl := hS3.blk.lt
  have H3 := Lib.hid h3
  have HF3 := Lib.hid hF3
  have HS3 := Lib.hid hS3
  clear h3 hF3 hK3 hS3
  go_wp2_with fail
  go_quiet (fail)
  have HBC := Lib.hid (show Below W3.heap.size W3 (W3.drewN nq) from Below.drewN' (Below.refl _ _) nq)
  clear s0
  go_upto_region 7 with (first
    | (go_at_call 19; refine (gword_is _ _).mono ?_; rintro e w' ⟨rfl, hb⟩; replace s1 := (hb.cell (p := ⟨sb, 1, none⟩) hsl).trans s1; replace hsl := Nat.lt_of_lt_of_le hsl hb.size; have HBC := Lib.hid (HBC.out.trans (hb.mono HBC.out.size)); clear hb)
    | (go_at_call 23; refine (choices_tie _).mono ?_; rintro e w' ⟨rfl, rfl⟩)
    | (go_at_call 24; refine (impasse_tie _).mono ?_; rintro e w' ⟨rfl, rfl⟩))
  obtain ⟨X0, hX⟩ : ∃ X0, X0 = w'.alloc (.cells #[.int .i64 3, .string ⟨#[97, 116, 116, 114, 105, 98, 117, 116, 101]⟩, .int .i64 0, .int .i64 3, .string ⟨#[99, 104, 111, 105, 99, 101, 115]⟩, .int .i64 0, .int .i64 3, .string ⟨#[105, 109, 112, 97, 115, 115, 101]⟩, .int .i64 0, .int .i64 3, .string ⟨#[115, 117, 112, 101, 114, 115, 116, 97, 116, 101]⟩, .int .i64 0, .int .i64 3, .string ⟨#[116, 121, 112, 101]⟩, .int .i64 0, .int .i64 3, .string ⟨#[115, 116, 97, 116, 101]⟩, .int .i64 0, .int .i64 3, .string ⟨#[111, 112, 101, 114, 97, 116, 111, 114]⟩, .int .i64 0, .int .i64 3, .string ⟨#[109, 117, 108, 116, 105, 112, 108, 101]⟩, .int .i64 0, .int .i64 3, .string ⟨#[116, 105, 101]⟩, .int .i64 0] 36) := ⟨_, rfl⟩
  rw [← hX]
  have hB0 : Below W3.heap.size W3 X0 := by rw [hX]; exact HBC.out.alloc HBC.out.size _
  have hop0 : X0.ownsRow 0 36 3 (.slice (some ⟨w'.heap.size, 0, none⟩) 9 9) 9 ((wordsT.take 9).flatMap Sym.cells) := by rw [hX]; exact owns_fresh w' 36 3 9 ((wordsT.take 9).flatMap Sym.cells) rfl (by decide)
  obtain ⟨AP0, hAP⟩ : ∃ AP0 : Option Addr, AP0 = some ⟨w'.heap.size, 0, none⟩ := ⟨_, rfl⟩
  have hlo0 : AIn AP0 (W3.heap.size ≤ ·) := by rw [hAP]; intro a ha; cases ha; exact HBC.out.size
  rw [← hAP] at hop0 ⊢
  have hsl3 := HS3.out.blk.lt
  have HLO0 := Lib.hid hlo0
  clear hX hAP s1 hlo0
  go_wp2_with fail
  refine (gword_is _ _).mono ?_
  rintro e w8 ⟨rfl, hb8⟩
  have HB8 := Lib.hid (hB0.trans (hb8.mono hB0.size))
  have HOP8 := Lib.hid (ownsRow_new hop0 hb8)
  have hz8 := HB8.out.size
  clear hop0 hb8 hB0
  obtain ⟨X1, hX1⟩ : ∃ X1, X1 = w8.alloc (.cells #[.int .i64 3, .string ⟨#[105, 116, 101, 109]⟩, .int .i64 0] 36) := ⟨_, rfl⟩
  have hB81 : Below w8.heap.size w8 X1 := by rw [hX1]; exact (Below.refl _ _).alloc (Nat.le_refl _) _
  have HOX1 := Lib.hid (ownsRow_new HOP8.out hB81)
  have HNW1 := Lib.hid (show 0 < 1 → ∃ ad, (some ⟨w8.heap.size, 0, none⟩ : Option Addr) = some ad ∧ ∀ j u, (Sym.cells ⟨3, ⟨#[105, 116, 101, 109]⟩, 0⟩)[j]? = some u → X1.cell? (ad.add j) = some u from fun _ => ⟨_, rfl, by rw [hX1]; exact World.news_of_block (heap_alloc_new _ _)⟩)
  have HBX1 := Lib.hid (HB8.out.trans (hB81.mono hz8))
  obtain ⟨AK, hAK⟩ : ∃ AK : Option Addr, AK = some ⟨w8.heap.size, 0, none⟩ := ⟨_, rfl⟩
  have HX1 := Lib.hid hX1
  clear hX1 hB81 hAK
  go_upto_region 8 with (at_builtin; rw [← HX1.out]; refine wpList_append_src X1 rfl (.tmp 67) (.tmp 69) 32 rfl 36 i0 _ 3 32 Try.underlying32 hi0 hz0 hz1 hz2 rfl (by omega) (.slice AP0 9 9) 9 ((wordsT.take 9).flatMap Sym.cells) rfl HOX1.out (some ⟨w8.heap.size, 0, none⟩) 1 1 (Sym.cells ⟨3, ⟨#[105, 116, 101, 109]⟩, 0⟩) rfl rfl HNW1.out (Sym.one _) (by unfold maxLen; omega) (by omega) ?_; intro v1 w9 hown1 hg1 hnil1 hat1)
  obtain ⟨AP1, cp1, rfl, _, _, _, hlo1, hbe1, _, _⟩ := row_grown (D := fun _ => True) (B := W3.heap.size) HOX1.out (fun _ _ => trivial) HLO0.out HBX1.out.size hown1 hg1 hat1
  have HB9 := Lib.hid (HBX1.out.trans hbe1)
  have HLO1 := Lib.hid hlo1
  have HO1 := Lib.hid (show w9.ownsRow 0 36 3 (.slice AP1 10 cp1) 10 ((wordsT.take 10).flatMap Sym.cells) from hown1)
  clear hlo1 hbe1 hown1 hg1 hnil1 hat1
  have HN2 := Lib.hid ((HRD2.out.fr (HF3.out.trans (Fr.of_new HB9.out)) (HA2.out.mono (fun _ h hn => hn h))).news Sym.cells_length (by omega))
  have hz9 := HB9.out.size
  go_wp2_with (at_builtin; refine wpList_append_src w9 rfl (.tmp 71) (.tmp 72) 32 rfl 36 i0 _ 3 32 Try.underlying32 hi0 hz0 hz1 hz2 rfl (by omega) (.slice AP1 10 cp1) 10 ((wordsT.take 10).flatMap Sym.cells) rfl HO1.out A2 2 c2 (ops2.flatMap Sym.cells) rfl rfl HN2.out (Sym.oneAll _) (by unfold maxLen; omega) (by omega) ?_; intro v2 X hop hg2 hnil2 hat2; obtain ⟨AP, cp, rfl, _, _, _, hlo, hbe2, _, _⟩ := row_grown (D := fun _ => True) (B := W3.heap.size) HO1.out (fun _ _ => trivial) HLO1.out hz9 hop hg2 hat2; have hBX := HB9.out.trans hbe2; have s1 := (hBX.cell (p := ⟨sb, 1, none⟩) hsl3).trans ((HS3.out.blk.cell 1).trans rfl : _ = some (.pointer (some ⟨T.b, 0, none⟩))); have hsl := Nat.lt_of_lt_of_le hsl3 hBX.size; clear hg2 hnil2 hat2 hbe2)
  clear hsl3 hz8 hz9
  replace hop : X.ownsRow 0 36 3 (.slice AP 12 cp) 12 (wordsT.flatMap Sym.cells) := hop
  have hin : AIn AP (fun j => D j ∨ (W3.heap.size ≤ j ∧ j < X.heap.size)) := by
    intro a ha
    subst ha
    refine .inr ⟨hlo a rfl, ?_⟩
    rcases ownsRow_form hop with ⟨hv, _⟩ | ⟨g, cap, hv, _, _, hr, _⟩
    · cases hv
    · injection hv with hv
      injection hv with hv
      subst hv
      exact hr.lt
  have h4 := H3.out.new_ hBX
  obtain ⟨D1, hD1⟩ : ∃ D1 : Nat → Prop, D1 = fun j => D j ∨ (W3.heap.size ≤ j ∧ j < X.heap.size) := ⟨_, rfl⟩
  rw [← hD1] at h4 hin
  have HD := Lib.hid (show ∀ j, D j → D1 j by intro j hj; rw [hD1]; exact .inl hj)
  have HBX := Lib.hid hBX
  have HOP := Lib.hid hop
  have HIN := Lib.hid hin
  have HLO := Lib.hid hlo
  have HSX := Lib.hid (HS3.out.below hBX)
  refine (gt_clone h4).mono ?_
  clear h4 hBX hop hin hlo hD1 s1 hsl
  rintro e W4 ⟨T', rfl, hroom, h5, hF4, hK4⟩
  clear HBC
  have hS4 := HSX.out.kb hK4
  have hop4 := ownsRow_fr HOP.out hF4 (fun g hg hn => hn (by
    rcases AP with _ | a
    · simp [Value.ownBlock] at hg
    · have e : a.block = g := by simpa [Value.ownBlock] using hg
      exact e ▸ HIN.out a rfl))
  have HROOM := Lib.hid hroom
  have H5 := Lib.hid h5
  have HF4 := Lib.hid hF4
  have HS4 := Lib.hid hS4
  have HOP4 := Lib.hid hop4
  clear h5 hF4 hK4 hS4 hop4 hroom
  go_wp2_with fail
  refine (gt2_put wordsT AP cp H5.out (ownsRow_rd Sym.cells_length HOP4.out) (by decide)).mono ?_
  rintro e W5 ⟨rfl, h6, hF5, hK5⟩
  have hpc : putCode T'.room L wordsT = 0 ∧ putList T'.room L wordsT = puts cmpSym L wordsT := by
    unfold putCode putList
    have := HRM.out
    rw [HROOM.out, if_pos wordsT_valid, if_pos wordsT_valid, if_neg (by omega), if_neg (by omega)]
    exact ⟨rfl, rfl⟩
  rw [hpc.1]
  rw [hpc.2] at h6
  have hS5 := HS4.out.kb hK5
  have hop5 := ownsRow_fr HOP4.out hF5 (fun g hg hn => hn (by
    rcases AP with _ | a
    · simp [Value.ownBlock] at hg
    · have e : a.block = g := by simpa [Value.ownBlock] using hg
      exact e ▸ HIN.out a rfl))
  have H6 := Lib.hid h6
  have HF5 := Lib.hid hF5
  have HS5 := Lib.hid hS5
  have HOP5 := Lib.hid hop5
  clear h6 hF5 hK5 hS5 hop5 hpc
  go_wp2_with fail
  refine (gt2_freshS H6.out (by rw [HROOM.out]; exact HRM.out) HNX.out).mono ?_
  rintro e W6 ⟨rfl, h7, hF6, hK6⟩
  obtain ⟨nx, hnx⟩ : ∃ nx, nx = nextL (puts cmpSym L wordsT) 83 := ⟨_, rfl⟩
  rw [← hnx] at h7 ⊢
  have HNXE := Lib.hid hnx
  have hS6 := HS5.out.kb hK6
  have hop6 := ownsRow_fr HOP5.out hF6 (fun g hg hn => hn (by
    rcases AP with _ | a
    · simp [Value.ownBlock] at hg
    · have e : a.block = g := by simpa [Value.ownBlock] using hg
      exact e ▸ HIN.out a rfl))
  have H7 := Lib.hid (GT2.one h7)
  have HF6 := Lib.hid hF6
  have HS6 := Lib.hid hS6
  have HOP6 := Lib.hid hop6
  clear h7 hF6 hK6 hS6 hop6 hnx
  go_wp2_with fail
  obtain ⟨V, hV⟩ : ∃ V, V = W6.alloc (.cells #[.int .i64 1, .string ⟨#[83]⟩, .int .i64 nx] 36) := ⟨_, rfl⟩
  rw [← hV]
  have hbV : Below W6.heap.size W6 V := by rw [hV]; exact (Below.refl _ _).alloc (Nat.le_refl _) _
  have hkB : Blk V W6.heap.size 36 #[.int .i64 1, .string ⟨#[83]⟩, .int .i64 nx] := by rw [hV]; exact Blk.new _ _ _
  obtain ⟨kx, hkx⟩ : ∃ kx, kx = W6.heap.size := ⟨_, rfl⟩
  rw [← hkx] at hkB ⊢
  have HKX := Lib.hid hkx
  have x0 : V.cell? ⟨kx, 0, none⟩ = some (.int .i64 1) := (hkB.cell 0).trans rfl
  have x1 : V.cell? ⟨kx, 1, none⟩ = some (.string ⟨#[83]⟩) := (hkB.cell 1).trans rfl
  have x2 : V.cell? ⟨kx, 2, none⟩ = some (.int .i64 nx) := (hkB.cell 2).trans rfl
  have hkV := hkB.lt
  have hSV := HS6.out.below hbV
  have s1 : V.cell? ⟨sb, 1, none⟩ = some (.pointer (some ⟨T.b, 0, none⟩)) := (hSV.blk.cell 1).trans rfl
  have hsl := hSV.blk.lt
  have h8 := H7.out.new_ hbV
  obtain ⟨D2, hD2⟩ : ∃ D2 : Nat → Prop, D2 = fun j => D1 j ∨ (W6.heap.size ≤ j ∧ j < V.heap.size) := ⟨_, rfl⟩
  rw [← hD2] at h8
  have HD2 := Lib.hid (show ∀ j, D1 j → D2 j by intro j hj; rw [hD2]; exact .inl hj)
  have HK2 := Lib.hid (show D2 kx by rw [hD2]; exact .inr ⟨by omega, hkV⟩)
  have hopV := ownsRow_new HOP6.out hbV
  have hRs : ¬ (Value.slice AP 12 cp).ownBlock = some sb := own_blk_ne hopV hSV.blk (by decide)
  have hRk : ¬ (Value.slice AP 12 cp).ownBlock = some kx := by
    intro hg
    rcases AP with _ | a
    · simp [Value.ownBlock] at hg
    · have e : a.block = kx := by simpa [Value.ownBlock] using hg
      rcases ownsRow_form HOP6.out with ⟨hv, _⟩ | ⟨g, cap, hv, _, _, hr, _⟩
      · cases hv
      · injection hv with hv
        injection hv with hv
        subst hv
        have := hr.lt
        dsimp only at e
        omega
  have H8 := Lib.hid h8
  have HBV := Lib.hid hbV
  have HSV := Lib.hid hSV
  have HOPV := Lib.hid hopV
  have HKB := Lib.hid hkB
  clear hV hbV hkB hkx hSV h8 hD2 hopV
  refine wp_region_E (fun w9 => Fr (fun j => (Value.slice AP 12 cp).ownBlock = some j) V w9) [(0, 0), (1, 0), (2, 0), (3, 1), (4, 0), (5, 1), (6, 2), (7, 2), (8, 2)] (by kernel_rfl) (by kernel_rfl) (fun KK hKK => ?_)
  simp only [beside, List.filterMap_cons, List.filterMap_nil, List.getElem?_toArray, List.getElem?_cons_zero, List.getElem?_cons_succ, Option.map_some]
  repeat (first | (refine wpX_w ?_ (Or.inl ⟨by rfl, fun w9 => ?_⟩) ?_; rotate_left 1; go_simp; with_reducible rfl; simp only [Act.put, List.setIfInBounds_toArray, List.set_cons_zero, List.set_cons_succ]) | (refine wpX_l ?_ (((Fr.refl _ V).drew)) (Or.inl ⟨by rfl, fun w9 hw9 => ?_⟩) ?_; rotate_left 1; have hc9a := hw9.cell (p := ⟨sb, 1, none⟩) hsl hRs; have hc9x0 := hw9.cell (p := ⟨kx, 0, none⟩) hkV hRk; have hc9x1 := hw9.cell (p := ⟨kx, 1, none⟩) hkV hRk; have hc9x2 := hw9.cell (p := ⟨kx, 2, none⟩) hkV hRk; go_simp; with_reducible rfl; simp only [Act.put, List.setIfInBounds_toArray, List.set_cons_zero, List.set_cons_succ]) | (refine wpX_w undef (Or.inr ⟨by rfl, rfl⟩) ?_; simp only [Act.put, List.setIfInBounds_toArray, List.set_cons_zero, List.set_cons_succ]) | (refine wpX_l undef (((Fr.refl _ V).drew)) (Or.inr ⟨by rfl, rfl⟩) ?_; simp only [Act.put, List.setIfInBounds_toArray, List.set_cons_zero, List.set_cons_succ]))
  refine wpX_es (fun K9 hK9 => ?_)
  go_simp
  refine hK9 _ _ ((Fr.refl _ V).drew.alloc _) ?_
  clear hK9 K9
  refine wpX_es (fun K9 hK9 => ?_)
  refine step_append_src _ (by rfl) _ _ _ (by rfl) 36 i0 _ 3 32 Try.underlying32 hi0 hz0 hz1 hz2 rfl (by omega) (.slice AP 12 cp) 12 (wordsT.flatMap Sym.cells) (by rfl) (ownsRow_new HOPV.out (((Below.refl _ _).drew).alloc (Nat.le_refl _) _)) (some ⟨V.heap.size, 0, none⟩) 1 1 (Sym.cells ⟨1, ⟨#[83]⟩, nx⟩) (by rfl) (by rfl)
    (fun _ => ⟨_, rfl, World.news_of_block (heap_alloc_new _ _)⟩) (Sym.one _) (by unfold maxLen; omega) (by omega) ?_
  intro v2 w7 hown hgr hnil hat
  refine hK9 _ _ (((Fr.refl _ V).drew.alloc _).grown hgr (fun j hj => .inl hj)) ?_
  clear hK9 K9
  obtain ⟨AQ, cq, D3, rfl, h9, hDD3, hA3, hB3, hK3, hbe3, _, _⟩ := step_row (P := fun D W => GT D W T L) (fun _ _ _ h hF hK => GT.grow h hF hK) H8.out (((Below.refl _ _).drew).alloc (Nat.le_refl _) _) HOPV.out (HIN.out.mono HD2.out) HLO.out (by have := HBX.out.size; have := HF4.out.size; have := HF5.out.size; have := HF6.out.size; have := HBV.out.size; omega) hown hgr hat
  have H9 := Lib.hid h9
  have HDD3 := Lib.hid hDD3
  have HBE3 := Lib.hid hbe3
  have HSW := Lib.hid (HSV.out.kb hK3)
  have HO7 := Lib.hid hown
  have HGR := Lib.hid (show Fr (fun j => (Value.slice AP 12 cp).ownBlock = some j) V w7 from ((Fr.refl _ V).drew.alloc _).grown hgr (fun j hj => .inl hj))
  clear h9 hDD3 hA3 hB3 hK3 hbe3 hown hgr hnil hat
  refine wpX_e (by kernel_rfl) (fun K9 hK9 => ?_)
  go_simp
  obtain ⟨Y, hY⟩ : ∃ Y : List Sym, Y = wordsT ++ [⟨1, ⟨#[83]⟩, nx⟩] := ⟨_, rfl⟩
  have hYl : Y.length = 12 + 1 := by rw [hY]; rfl
  have hYc : Y.flatMap Sym.cells = wordsT.flatMap Sym.cells ++ Sym.cells ⟨1, ⟨#[83]⟩, nx⟩ := by rw [hY]; simp
  have hYo : w7.ownsRow 0 36 3 (.slice AQ Y.length cq) Y.length (Y.flatMap Sym.cells) := by rw [hYl, hYc]; exact HO7.out
  have hgp := gt_put Y AQ cq H9.out (ownsRow_rd Sym.cells_length hYo) (by rw [hYl]; decide)
  rw [hYl] at hgp
  refine hgp.mono ?_
  clear hgp hYo hYc hYl
  subst hY
  rintro e W8 ⟨rfl, h10, hF8, hK8⟩
  have e10 : putList T.room L (wordsT ++ [⟨1, ⟨#[83]⟩, nx⟩]) = puts cmpSym L (wordsT ++ [⟨1, ⟨#[83]⟩, nx⟩]) := by
    have := push_put (H7.out.list_).1 wordsT_valid HRM.out HNX.out
    rw [← HNXE.out] at this
    exact this
  rw [e10] at h10
  have H10 := Lib.hid h10
  have HF8 := Lib.hid hF8
  have HS8 := Lib.hid (HSW.out.kb hK8)
  clear h10 hF8 hK8 e10
  refine hK9 _ _ ?_
  clear hK9 K9
  refine wpX_nil ?_
  simp only [OnlyN_normal]
  refine hKK _ _ ?_
  clear hKK KK
  have hk7 := HKB.out.fr HGR.out hRk
  have hk8 := hk7.fr HF8.out (fun hn => hn (HDD3.out _ HK2.out))
  clear x0 x1 x2 s1 hsl hRs hRk hkV
  have x0 : W8.cell? ⟨kx, 0, none⟩ = some (.int .i64 1) := (hk8.cell 0).trans rfl
  have x1 : W8.cell? ⟨kx, 1, none⟩ = some (.string ⟨#[83]⟩) := (hk8.cell 1).trans rfl
  have x2 : W8.cell? ⟨kx, 2, none⟩ = some (.int .i64 nx) := (hk8.cell 2).trans rfl
  have hkV := hk8.lt
  have s2 : W8.cell? ⟨sb, 2, none⟩ = some (.slice A gs.length c) := (HS8.out.blk.cell 2).trans rfl
  have f2 := HS8.out.blk.frozen 2
  have hsl := HS8.out.blk.lt
  have hrdg := HS8.out.rd
  have hcm := hrdg.2.1
  have hnc := hrdg.1
  have HRDG := Lib.hid hrdg
  have e1 : IntKind.i64.wrap ((gs.length : Int) + 1) = (gs.length : Int) + 1 := IntWalk.i64_in _ (by omega)
  have hmk : ∀ W : World, (Instr.makeSlice 62 (.int .i64 0) (.int .i64 ((gs.length : Int) + 1))).run Try.prog W = .ok (.slice (some ⟨W.heap.size, 0, none⟩) 0 (gs.length + 1)) (W.alloc (.cells (madeCells (Value.cells (.agg #[.int .i64 0, .string ⟨#[]⟩, .int .i64 0, .int .i64 0, .string ⟨#[]⟩, .slice none 0 0, .int .i64 0, .string ⟨#[]⟩, .int .i64 0])) ((gs.length + 1) * 9)) 61)) := fun W => by
    have h := run_make (P := Try.prog) W 62 61 j0 _ Try.underlying62 hj0 hy0 .i64 .i64 0 ((gs.length : Int) + 1) (by omega) (by omega) (by rw [hy2]; omega) (by omega)
    rw [hy1] at h
    simpa [show ((gs.length : Int) + 1).toNat = gs.length + 1 by omega] using h
  clear hk7 hk8 hrdg
  go_wp2_with fail
  refine wp_region_E (fun w9 => Below W8.heap.size W8 w9) [(0, 0), (1, 0), (2, 0), (3, 1), (4, 0), (5, 0), (7, 0), (8, 0), (9, 0), (10, 1), (6, 2), (11, 2), (12, 0)] (by kernel_rfl) (by kernel_rfl) (fun KK hKK => ?_)
  simp only [beside, List.filterMap_cons, List.filterMap_nil, List.getElem?_toArray, List.getElem?_cons_zero, List.getElem?_cons_succ, Option.map_some]
  repeat (first | (refine wpX_w ?_ (Or.inl ⟨by rfl, fun w9 => ?_⟩) ?_; rotate_left 1; go_simp; with_reducible rfl; simp only [Act.put, List.setIfInBounds_toArray, List.set_cons_zero, List.set_cons_succ]) | (refine wpX_l ?_ (((Below.refl _ _).drew)) (Or.inl ⟨by rfl, fun w9 hw9 => ?_⟩) ?_; rotate_left 1; obtain ⟨hc9, hf9⟩ := bcell hw9; go_simp; with_reducible rfl; simp only [Act.put, List.setIfInBounds_toArray, List.set_cons_zero, List.set_cons_succ]) | (refine wpX_w undef (Or.inr ⟨by rfl, rfl⟩) ?_; simp only [Act.put, List.setIfInBounds_toArray, List.set_cons_zero, List.set_cons_succ]) | (refine wpX_l undef (((Below.refl _ _).drew)) (Or.inr ⟨by rfl, rfl⟩) ?_; simp only [Act.put, List.setIfInBounds_toArray, List.set_cons_zero, List.set_cons_succ]))
  refine wpX_es (fun K9 hK9 => ?_)
  go_simp
  refine hK9 _ _ (((Below.refl _ _).drew).alloc (Nat.le_refl _) _) ?_
  clear hK9 K9
  refine wpX_e (by kernel_rfl) (fun K9 hK9 => ?_)
  refine step_append_src _ (by rfl) _ _ _ (by rfl) 61 j0 _ 9 112 Try.underlying62 hj0 hy0 hy1 hy2 rfl (by omega) _ 0 [] (by rfl) (World.ownsRow_made _ _ _ (Nat.zero_le _) (by unfold maxLen; omega) (by simp [madeCells])) A gs.length c (gs.flatMap GoalC.cells) (by rfl) (flat_length GoalC.cells_length gs)
    ((HRDG.out.drew.alloc _).news GoalC.cells_length (by omega)) (goals_one gs) (by unfold maxLen; omega) (by omega) ?_
  intro v9 w9 hown hgr hnil hat
  refine hK9 _ _ ?_
  clear hK9 K9
  rw [Nat.zero_add, List.nil_append] at hown
  obtain ⟨A9, c9, rfl, _, _, hz⟩ := own_form2 hown
  have e9 : W8.drew.heap.size = W8.heap.size := rfl
  have hob : ∀ k, (Value.slice A9 gs.length c9).ownBlock = some k → W8.heap.size ≤ k := by
    intro k hk
    rcases hat with h | h
    · rw [h] at hk; simp [Value.ownBlock] at hk; omega
    · rw [h] at hk; simp at hk; omega
  have HB9 := Lib.hid (show Below W8.heap.size W8 w9 from (((Below.refl _ _).drew).alloc (Nat.le_refl _) _).grown hgr (by simp) (fun k hk => by simp [Value.ownBlock] at hk; omega))
  have HO9 := Lib.hid hown
  have HOB9 := Lib.hid hob
  clear hown hgr hnil hat hob hz e9
  repeat (first | (refine wpX_w ?_ (Or.inl ⟨by rfl, fun w9 => ?_⟩) ?_; rotate_left 1; go_simp; with_reducible rfl; simp only [Act.put, List.setIfInBounds_toArray, List.set_cons_zero, List.set_cons_succ]) | (refine wpX_l ?_ (((Below.refl _ _).drew).alloc (Nat.le_refl _) _) (Or.inl ⟨by rfl, fun w9 hw9 => ?_⟩) ?_; rotate_left 1; obtain ⟨hc9, hf9⟩ := bcell hw9; go_simp; with_reducible rfl; simp only [Act.put, List.setIfInBounds_toArray, List.set_cons_zero, List.set_cons_succ]) | (refine wpX_w undef (Or.inr ⟨by rfl, rfl⟩) ?_; simp only [Act.put, List.setIfInBounds_toArray, List.set_cons_zero, List.set_cons_succ]) | (refine wpX_l undef (((Below.refl _ _).drew).alloc (Nat.le_refl _) _) (Or.inr ⟨by rfl, rfl⟩) ?_; simp only [Act.put, List.setIfInBounds_toArray, List.set_cons_zero, List.set_cons_succ]))
  refine wpX_nil ?_
  simp only [OnlyN_normal]
  refine hKK _ _ ?_
  clear hKK KK
  clear hmk e1
  have hF : Fr (fun j => ¬ D j) W W8 := ((((((HF3.out.trans (Fr.of_new HBX.out)).trans (HF4.out.mono (fun j _ hj h => hj (HD.out j h)))).trans (HF5.out.mono (fun j _ hj h => hj (HD.out j h)))).trans (HF6.out.mono (fun j _ hj h => hj (HD.out j h)))).trans (Fr.of_new HBV.out)).into (Fr.of_below HBE3.out) (fun i hi => .inr (Nat.le_trans HF3.out.size hi))).trans (HF8.out.mono (fun j _ hj h => hj (HDD3.out j (HD2.out j (HD.out j h)))))
  have HFW := Lib.hid hF
  clear hF
  have HR9 := Lib.hid (HRD2.out.fr (HFW.out.trans (Fr.of_new HB9.out)) (HA2.out.mono (fun _ h hn => hn h)))
  have y0 := (HB9.out.cell (p := ⟨kx, 0, none⟩) hkV).trans x0
  have y1 := (HB9.out.cell (p := ⟨kx, 1, none⟩) hkV).trans x1
  have y2 := (HB9.out.cell (p := ⟨kx, 2, none⟩) hkV).trans x2
  have hk9 := Nat.lt_of_lt_of_le hkV HB9.out.size
  have r2 := (HB9.out.cell (p := ⟨sb, 2, none⟩) hsl).trans s2
  have g2 := (HB9.out.frozen (p := ⟨sb, 2, none⟩) hsl).trans f2
  have hs9 := Nat.lt_of_lt_of_le hsl HB9.out.size
  clear x0 x1 x2 hkV s2 f2
  go_wp2_with fail
  refine wp_region_E (fun w => Below w9.heap.size w9 w) [(0, 0), (1, 0), (2, 1), (3, 0), (4, 0), (5, 0), (6, 2), (7, 0), (8, 2), (9, 2), (10, 0), (11, 0), (12, 2)] (by kernel_rfl) (by kernel_rfl) (fun KK hKK => ?_)
  simp only [beside, List.filterMap_cons, List.filterMap_nil, List.getElem?_toArray, List.getElem?_cons_zero, List.getElem?_cons_succ, Option.map_some]
  repeat (first | (refine wpX_w ?_ (Or.inl ⟨by rfl, fun w9 => ?_⟩) ?_; rotate_left 1; go_simp; with_reducible rfl; simp only [Act.put, List.setIfInBounds_toArray, List.set_cons_zero, List.set_cons_succ]) | (refine wpX_l ?_ (((Below.refl _ _).drew)) (Or.inl ⟨by rfl, fun w9 hw9 => ?_⟩) ?_; rotate_left 1; obtain ⟨hc9, hf9⟩ := bcell hw9; go_simp; with_reducible rfl; simp only [Act.put, List.setIfInBounds_toArray, List.set_cons_zero, List.set_cons_succ]) | (refine wpX_w undef (Or.inr ⟨by rfl, rfl⟩) ?_; simp only [Act.put, List.setIfInBounds_toArray, List.set_cons_zero, List.set_cons_succ]) | (refine wpX_l undef (((Below.refl _ _).drew)) (Or.inr ⟨by rfl, rfl⟩) ?_; simp only [Act.put, List.setIfInBounds_toArray, List.set_cons_zero, List.set_cons_succ]))
  refine wpX_es (fun K9 hK9 => ?_)
  refine step_append_src _ (by rfl) _ _ _ (by rfl) 36 i0 _ 3 32 Try.underlying32 hi0 hz0 hz1 hz2 rfl (by omega) (.slice none 0 0) 0 [] (by rfl) (owns_nil _ 0 _ _) A2 2 c2 (ops2.flatMap Sym.cells) (by rfl) rfl ((RowRd.drew HR9.out).news Sym.cells_length (by omega)) (Sym.oneAll _) (by unfold maxLen; omega) (by omega) ?_
  intro v10 w10 hown hgr hnil hat
  refine hK9 _ _ (((Below.refl _ _).drew).grown hgr (by simp) (fun k hk => by simp [Value.ownBlock] at hk)) ?_
  clear hK9 K9
  rw [Nat.zero_add, List.nil_append] at hown
  obtain ⟨ia, ic, rfl, _, _, _⟩ := own_form2 hown
  have HB10 := Lib.hid (show Below w9.heap.size w9 w10 from ((Below.refl _ _).drew).grown hgr (by simp) (fun k hk => by simp [Value.ownBlock] at hk))
  have HO10 := Lib.hid hown
  have HAT10 := Lib.hid hat
  clear hown hgr hnil hat
  repeat (first | (refine wpX_w ?_ (Or.inl ⟨by rfl, fun w9 => ?_⟩) ?_; rotate_left 1; go_simp; with_reducible rfl; simp only [Act.put, List.setIfInBounds_toArray, List.set_cons_zero, List.set_cons_succ]) | (refine wpX_l ?_ (HB10.out) (Or.inl ⟨by rfl, fun w9 hw9 => ?_⟩) ?_; rotate_left 1; obtain ⟨hc9, hf9⟩ := bcell hw9; go_simp; with_reducible rfl; simp only [Act.put, List.setIfInBounds_toArray, List.set_cons_zero, List.set_cons_succ]) | (refine wpX_w undef (Or.inr ⟨by rfl, rfl⟩) ?_; simp only [Act.put, List.setIfInBounds_toArray, List.set_cons_zero, List.set_cons_succ]) | (refine wpX_l undef (HB10.out) (Or.inr ⟨by rfl, rfl⟩) ?_; simp only [Act.put, List.setIfInBounds_toArray, List.set_cons_zero, List.set_cons_succ]))
  refine wpX_e (by kernel_rfl) (fun K9 hK9 => ?_)
  go_simp
  refine hK9 _ _ ?_
  clear hK9 K9
  refine wpX_e (by kernel_rfl) (fun K9 hK9 => ?_)
  refine step_append_src _ (by rfl) _ _ _ (by rfl) 61 j0 _ 9 112 Try.underlying62 hj0 hy0 hy1 hy2 rfl (by omega) (.slice A9 gs.length c9) gs.length (gs.flatMap GoalC.cells) (by rfl) (ownsRow_new (ownsRow_new HO9.out HB10.out) ((Below.refl _ _).alloc (Nat.le_refl _) _)) (some ⟨w10.heap.size, 0, none⟩) 1 1 (GoalC.cells ⟨⟨1, ⟨#[83]⟩, nx⟩, 1, ⟨#[111, 112, 101, 114, 97, 116, 111, 114]⟩, ia, 2, ic, zsym⟩) (by rfl) (by rfl)
    (fun _ => ⟨_, rfl, World.news_of_block (heap_alloc_new _ _)⟩) (GoalC.one _) (by unfold maxLen; omega) (by omega) ?_
  intro v11 w11 hown hgr hnil hat
  refine hK9 _ _ ?_
  clear hK9 K9
  obtain ⟨A11, c11, rfl, _, _, _⟩ := own_form2 hown
  have h10 := HB10.out.alloc (Nat.le_trans (Nat.le_refl _) HB10.out.size) (.cells (GoalC.cells ⟨⟨1, ⟨#[83]⟩, nx⟩, 1, ⟨#[111, 112, 101, 114, 97, 116, 111, 114]⟩, ia, 2, ic, zsym⟩).toArray 61)
  have h11 := ((HB9.out.trans (h10.mono HB9.out.size))).grown hgr (by have := HB9.out.size; have := HB10.out.size; simp; omega) HOB9.out
  have c2 := (h11.cell (p := ⟨sb, 2, none⟩) hsl).trans (HS8.out.blk.cell 2)
  have z2 := (h11.frozen (p := ⟨sb, 2, none⟩) hsl).trans (HS8.out.blk.frozen 2)
  have hs11 := Nat.lt_of_lt_of_le hsl h11.size
  simp only [List.getElem?_toArray, List.getElem?_cons_zero, List.getElem?_cons_succ] at c2
  have HB11 := Lib.hid h11
  have HO11 := Lib.hid hown
  have HGR11 := Lib.hid hgr
  clear h10 h11 hown hgr hnil hat r2 g2
  repeat (first | (refine wpX_w ?_ (Or.inl ⟨by rfl, fun w9 => ?_⟩) ?_; rotate_left 1; go_simp; with_reducible rfl; simp only [Act.put, List.setIfInBounds_toArray, List.set_cons_zero, List.set_cons_succ]) | (refine wpX_l ?_ (HB10.out) (Or.inl ⟨by rfl, fun w9 hw9 => ?_⟩) ?_; rotate_left 1; obtain ⟨hc9, hf9⟩ := bcell hw9; go_simp; with_reducible rfl; simp only [Act.put, List.setIfInBounds_toArray, List.set_cons_zero, List.set_cons_succ]) | (refine wpX_w undef (Or.inr ⟨by rfl, rfl⟩) ?_; simp only [Act.put, List.setIfInBounds_toArray, List.set_cons_zero, List.set_cons_succ]) | (refine wpX_l undef (HB10.out) (Or.inr ⟨by rfl, rfl⟩) ?_; simp only [Act.put, List.setIfInBounds_toArray, List.set_cons_zero, List.set_cons_succ]))
  refine wpX_e (by kernel_rfl) (fun K9 hK9 => ?_)
  go_simp
  refine hK9 _ _ ?_
  clear hK9 K9
  refine wpX_nil ?_
  simp only [OnlyN_normal]
  refine hKK _ _ ?_
  clear hKK KK
  go_wp2_with fail
  go_ret
  have hst := HS8.out.stored HB11.out (gs' := gs ++ [⟨⟨1, ⟨#[83]⟩, nx⟩, 1, ⟨#[111, 112, 101, 114, 97, 116, 111, 114]⟩, ia, 2, ic, zsym⟩]) (A' := A11) (c' := c11) (by rw [List.length_append, List.flatMap_append]; simpa using HO11.out)
  rw [List.length_append] at hst
  have hgt := (H10.out.weaken (fun j hj => HDD3.out j (HD2.out j (HD.out j hj)))).off HS8.out.blk (by decide) (by decide) (by decide) (by decide) (by decide) (by decide) hst.2
  have hrl := ownsRow_rd Sym.cells_length (l := ops2) HO10.out
  have hfw : Fr (fun k => (Value.slice A9 gs.length c9).ownBlock = some k ∨ k = sb) w10 (w11.setCell ⟨sb, 2, none⟩ (.slice A11 (gs.length + 1) c11)) := ((((Fr.refl _ w10).alloc _).grown HGR11.out (fun k hk => .inl (.inl hk)))).setCell (p := ⟨sb, 2, none⟩) (.inl (.inr rfl)) _
  have hro := hrl.fr hfw (fun a ha hm => by
    subst ha
    have hab : a.block = w9.heap.size := by
      rcases HAT10.out with h | h
      · simp [Value.ownBlock] at h
      · simpa [Value.ownBlock] using h
    rcases hm with hm | hm
    · rcases ownsRow_form HO9.out with ⟨hv, _⟩ | ⟨g, cap, hv, _, _, hr, _⟩
      · injection hv with hv; subst hv; simp [Value.ownBlock] at hm
      · injection hv with hv; subst hv
        have h1 := hr.lt
        simp [Value.ownBlock] at hm
        omega
    · omega)
  refine ⟨rfl, ?_⟩
  unfold PushTo
  rw [← HNXE.out]
  exact ⟨HFW.out.trans (hst.2.mono (fun j _ hj hd => HSD.out (hj ▸ hd))), A11, c11, ia, ic, hgt, hst.1, hro⟩
end Go.Proofs.Ythogokcbbkjcdaa

namespace Go.Proofs.Ythogokcbbkjcdaa
open Go.RowKit Go.Shelf
attribute [local go_sem] Oper.semAt_some
set_option maxRecDepth 100000 in
set_option maxHeartbeats 8000000 in
theorem states_is {sb : Nat} {T : TB} {dep : Int} {gs : List GoalC} {ks : List Value} {A : Option Addr} {c : Nat} {W : World} (h : Stk W sb T dep gs ks A c) (hl : (gs.length : Int) ≤ 1000) :
    Calls Try.prog 10 #[.pointer (some ⟨sb, 0, none⟩)] W fun e W' => ∃ A' c', e = .returned (.slice A' gs.length c') ∧ RowRd W' 3 Sym.cells A' c' (gs.map GoalC.state) ∧ AIn A' (fun j => W.heap.size ≤ j ∧ j < W'.heap.size) ∧ Below W.heap.size W W' := by
  obtain ⟨i0, hi0, hz0, hz1, hz2⟩ := info_parts info_Sym
  have HS := Lib.hid h
  have s2 : W.cell? ⟨sb, 2, none⟩ = some (.slice A gs.length c) := (h.blk.cell 2).trans rfl
  have hsl := h.blk.lt
  clear h
  go_enter Try.func10, Try.ntmps10
  go_wp2_with fail
  clear s2
  go_loopw [3, 11] (fun v s wr => ∃ i : Nat, s = .int .i64 i ∧ i ≤ gs.length ∧ wr.ownsRow W.heap.size 36 3 v i (((gs.take i).map GoalC.state).flatMap Sym.cells) ∧ Below W.heap.size W wr) (fun v s wr => gs.length - (intOf s).toNat)
  case atStart => exact ⟨0, rfl, Nat.zero_le _, by simpa using owns_nil W W.heap.size _ _, Below.refl _ _⟩
  case round =>
    obtain ⟨i, rfl, hi, hown, hB⟩ := hrel
    have HO := Lib.hid hown
    have HB := Lib.hid hB
    have hzr := hB.size
    clear hown hB
    by_cases hlt : i < gs.length
    · obtain ⟨y, hy⟩ : ∃ y, y = gs[i] := ⟨_, rfl⟩
      obtain ⟨g, off, hAA, hgl, q0, q1, q2, q3, q4, q5, q6, q7, q8⟩ := goal_at (HS.out.below HB.out).rd hlt
      subst hAA
      rw [← hy] at q0 q1 q2 q3 q4 q5 q6 q7 q8
      have HSN := Lib.hid (show ((gs.take (i + 1)).map GoalC.state).flatMap Sym.cells = ((gs.take i).map GoalC.state).flatMap Sym.cells ++ Sym.cells y.state by
        rw [List.take_add_one, List.getElem?_eq_getElem hlt, ← hy]
        simp)
      have b1 : (0 : Int) ≤ (i : Int) := by omega
      have b2 : (i : Int) < (gs.length : Int) := by omega
      clear hy
      go_wp2_with (at_builtin; refine wpList_append_own _ rfl _ _ 32 rfl W.heap.size 36 i0 _ 3 32 Try.underlying32 hi0 hz0 hz1 hz2 rfl (by decide) u3 i (((gs.take i).map GoalC.state).flatMap Sym.cells) rfl (owns_below HO.out (by (repeat (first | exact Below.refl _ _ | (refine Below.drew ?_) | (refine Below.alloc ?_ (by simp <;> omega) _) | (refine Below.setCell ?_ (by simp <;> omega) _))))) _ 1 1 (Sym.cells y.state) rfl rfl (news_alloc (by simp)) (Sym.one _) (by unfold maxLen; omega) (by omega) (by simp; omega) ?_; intro v' w4 hown' hg hnil)
      obtain ⟨A', c', rfl, hA'⟩ := owns_form hown'
      have HO4 := Lib.hid hown'
      have HB4 := Lib.hid ((show Below W.heap.size W _ from HB.out.trans (Below.mono (by (repeat (first | exact Below.refl _ _ | (refine Below.drew ?_) | (refine Below.alloc ?_ (by simp <;> omega) _) | (refine Below.setCell ?_ (by simp <;> omega) _)))) hzr)).grown hg (by simp; omega) (fun k hk => owns_block HO.out k hk))
      clear hown' hg hnil q0 q1 q2 q3 q4 q5 q6 q7 q8
      go_wp2_with fail
      go_roundw
      case rel => exact ⟨i + 1, by go_num, by omega, by rw [HSN.out]; exact HO4.out, HB4.out⟩
      case measure => simp [intOf] <;> omega
    · have hie : i = gs.length := by omega
      subst hie
      obtain ⟨A', c', rfl, hA'⟩ := owns_form HO.out
      have HA := Lib.hid hA'
      clear hA'
      go_wp2_with fail
      go_ret
      have ho := HO.out
      rw [List.take_length] at ho
      have hf : wr.ownsRow 0 36 3 (.slice A' (gs.map GoalC.state).length c') (gs.map GoalC.state).length ((gs.map GoalC.state).flatMap Sym.cells) := by
        rw [List.length_map]
        exact owns_base ho (Nat.zero_le _)
      refine ⟨A', c', rfl, ownsRow_rd Sym.cells_length hf, fun a ha => ⟨HA.out a ha, ?_⟩, HB.out⟩
      subst ha
      rcases ownsRow_form hf with ⟨hv, _⟩ | ⟨g, cap, hv, _, _, hr, _⟩
      · cases hv
      · injection hv with hv; injection hv with hv; subst hv; exact hr.lt
end Go.Proofs.Ythogokcbbkjcdaa

namespace Go.Proofs.Ythogokcbbkjcdaa
open Go.RowKit Go.Shelf
attribute [local go_sem] Oper.semAt_some
theorem wkT_len : (puts cmpSym gnew wordsT).length = 20 := by kernel_rfl
theorem wkT_next : nextL (puts cmpSym gnew wordsT) 83 = 2 := by kernel_rfl
set_option maxRecDepth 100000 in
set_option maxHeartbeats 16000000 in
theorem wakes19_is (w : World) : Calls Try.prog 6 #[] w fun e w' => e = .returned (.bool true) ∧ Below w.heap.size w w' := by
  go_enter Try.func6, Try.ntmps6
  go_wp2_with fail
  refine (gt_new 50 w (by decide) (by decide)).mono ?_
  rintro e w1 ⟨T, rfl, hroom, h1, hb1⟩
  have HROOM := Lib.hid hroom
  have H1 := Lib.hid h1
  have HB1 := Lib.hid hb1
  clear hroom h1 hb1
  go_wp2_with fail
  refine (gnew_is 5 H1.out (by decide) (by decide) (by rw [HROOM.out]; decide)).mono ?_
  rintro e w2 ⟨sb, A, c, rfl, h2, hS2, hsb, hF2, hK2⟩
  have H2 := Lib.hid h2
  have HS2 := Lib.hid hS2
  have HF2 := Lib.hid hF2
  have HSB := Lib.hid (show w.heap.size ≤ sb from Nat.le_trans HB1.out.size hsb)
  have hs2 := hS2.blk.lt
  clear h2 hS2 hF2 hK2 hsb
  go_wp2_with fail
  refine (symI_is _ _ _).mono ?_
  rintro e w3 ⟨rfl, hb3⟩
  have HB3 := Lib.hid hb3
  clear hb3
  go_wp2_with fail
  refine (symI_is _ _ _).mono ?_
  rintro e w4 ⟨rfl, hb4⟩
  have HB4 := Lib.hid (HB3.out.trans (hb4.mono HB3.out.size))
  clear hb4
  go_wp2_with fail
  obtain ⟨X, hX⟩ : ∃ X, X = w4.alloc (.cells #[.int .i64 1, .string ⟨#[79]⟩, .int .i64 1, .int .i64 1, .string ⟨#[79]⟩, .int .i64 2] 36) := ⟨_, rfl⟩
  rw [← hX]
  have hBX : Below w2.heap.size w2 X := by rw [hX]; exact HB4.out.alloc HB4.out.size _
  have hop : X.ownsRow 0 36 3 (.slice (some ⟨w4.heap.size, 0, none⟩) 2 2) 2 (ops2.flatMap Sym.cells) := by rw [hX]; exact owns_fresh w4 36 3 2 (ops2.flatMap Sym.cells) rfl (by decide)
  have hz4 := HB4.out.size
  have hlt4 : w4.heap.size < X.heap.size := by rw [hX]; simp
  have h5 := H2.out.new_ hBX
  refine (pushT_is h5 (HS2.out.below hBX) (fun hd => ?_) (ownsRow_rd Sym.cells_length (l := ops2) hop) (fun a ha => ?_) (by decide) (by decide) (by rw [wkT_len, HROOM.out]; decide) (by rw [wkT_next]; decide)).mono ?_
  · have := HSB.out
    rcases hd with hd | hd
    · omega
    · omega
  · cases ha
    exact .inr ⟨hz4, hlt4⟩
  rintro e w6 ⟨rfl, h6⟩
  unfold PushTo at h6
  rw [wkT_next] at h6
  obtain ⟨hF6, A6, c6, ia, ic, h6, hS6, hr6⟩ := h6
  have hb6 : Below w.heap.size w w6 := (HB1.out.trans ((HF2.out.trans (Fr.of_new hBX)).below HB1.out.size (fun k hk hn => hn hk))).trans (hF6.below (by have := HB1.out.size; have := HF2.out.size; have := hBX.size; omega) (fun k hk hn => hn (.inl hk)))
  have HB6 := Lib.hid hb6
  have HS6 := Lib.hid (show Stk w6 sb T 5 [goal0, goal1 ia ic] links A6 c6 from hS6)
  have HR6 := Lib.hid hr6
  clear hX hBX hop hz4 hlt4 h5 h6 hF6 hS6 hr6 hb6 hs2
  go_wp2_with fail
  refine (states_is HS6.out (by simp)).mono ?_
  rintro e w7 ⟨A7, c7, rfl, hr7, hA7, hb7⟩
  obtain ⟨g7, o7, rfl, hg7, hc7⟩ := hr7.2.2 (by simp)
  have hcc7 : 2 ≤ c7 := hr7.1
  have hcm7 : c7 ≤ maxLen := hr7.2.1
  have ll0 : w7.cell? ⟨g7, o7, none⟩ = some (.int .i64 1) := by have := hc7 0 (by simp) 0 _ rfl; simpa [goal0, goal1] using this
  have ll1 : w7.cell? ⟨g7, o7 + 1, none⟩ = some (.string ⟨#[83]⟩) := by have := hc7 0 (by simp) 1 _ rfl; simpa [goal0, goal1] using this
  have ll2 : w7.cell? ⟨g7, o7 + 2, none⟩ = some (.int .i64 1) := by have := hc7 0 (by simp) 2 _ rfl; simpa [goal0, goal1] using this
  have ll3 : w7.cell? ⟨g7, o7 + 3, none⟩ = some (.int .i64 1) := by have := hc7 1 (by simp) 0 _ rfl; simpa [goal0, goal1] using this
  have ll4 : w7.cell? ⟨g7, o7 + 4, none⟩ = some (.string ⟨#[83]⟩) := by have := hc7 1 (by simp) 1 _ rfl; simpa [goal0, goal1] using this
  have ll5 : w7.cell? ⟨g7, o7 + 5, none⟩ = some (.int .i64 2) := by have := hc7 1 (by simp) 2 _ rfl; simpa [goal0, goal1] using this
  have HB7 := Lib.hid (HB6.out.trans (hb7.mono HB6.out.size))
  have HS7 := Lib.hid (HS6.out.below hb7)
  have HR7 := Lib.hid (HR6.out.new_ hb7)
  clear hr7 hA7 hb7 hc7
  go_wp2_with fail
  refine wp_region_E (fun w9 => Below w7.heap.size w7 w9) [(0, 0), (1, 0), (2, 0), (3, 0), (4, 0), (5, 0), (6, 1), (7, 2), (8, 0), (9, 0)] (by kernel_rfl) (by kernel_rfl) (fun KK hKK => ?_)
  simp only [beside, List.filterMap_cons, List.filterMap_nil, List.getElem?_toArray, List.getElem?_cons_zero, List.getElem?_cons_succ, Option.map_some]
  repeat (first | (refine wpX_w ?_ (Or.inl ⟨by rfl, fun w9 => ?_⟩) ?_; rotate_left 1; go_simp; with_reducible rfl; simp only [Act.put, List.setIfInBounds_toArray, List.set_cons_zero, List.set_cons_succ]) | (refine wpX_l ?_ (((Below.refl _ _).drew)) (Or.inl ⟨by rfl, fun w9 hw9 => ?_⟩) ?_; rotate_left 1; obtain ⟨hc9, hf9⟩ := bcell hw9; go_simp; with_reducible rfl; simp only [Act.put, List.setIfInBounds_toArray, List.set_cons_zero, List.set_cons_succ]) | (refine wpX_w undef (Or.inr ⟨by rfl, rfl⟩) ?_; simp only [Act.put, List.setIfInBounds_toArray, List.set_cons_zero, List.set_cons_succ]) | (refine wpX_l undef (((Below.refl _ _).drew)) (Or.inr ⟨by rfl, rfl⟩) ?_; simp only [Act.put, List.setIfInBounds_toArray, List.set_cons_zero, List.set_cons_succ]))
  refine wpX_es (fun K9 hK9 => ?_)
  go_simp
  refine (symI_is _ _ _).mono ?_
  rintro e w8 ⟨rfl, hb8⟩
  have HB8 := Lib.hid ((Below.refl w7.heap.size w7).drew.trans (hb8.mono (by simp)))
  clear hb8
  refine hK9 _ _ HB8.out ?_
  clear hK9 K9
  repeat (first | (refine wpX_w ?_ (Or.inl ⟨by rfl, fun w9 => ?_⟩) ?_; rotate_left 1; go_simp; with_reducible rfl; simp only [Act.put, List.setIfInBounds_toArray, List.set_cons_zero, List.set_cons_succ]) | (refine wpX_l ?_ (HB8.out) (Or.inl ⟨by rfl, fun w9 hw9 => ?_⟩) ?_; rotate_left 1; obtain ⟨hc9, hf9⟩ := bcell hw9; go_simp; with_reducible rfl; simp only [Act.put, List.setIfInBounds_toArray, List.set_cons_zero, List.set_cons_succ]) | (refine wpX_w undef (Or.inr ⟨by rfl, rfl⟩) ?_; simp only [Act.put, List.setIfInBounds_toArray, List.set_cons_zero, List.set_cons_succ]) | (refine wpX_l undef (HB8.out) (Or.inr ⟨by rfl, rfl⟩) ?_; simp only [Act.put, List.setIfInBounds_toArray, List.set_cons_zero, List.set_cons_succ]))
  refine wpX_nil ?_
  simp only [OnlyN_normal]
  refine hKK _ _ ?_
  clear hKK KK
  have mm0 := (HB8.out.cell (p := ⟨g7, o7, none⟩) hg7).trans ll0
  have mm1 := (HB8.out.cell (p := ⟨g7, o7 + 1, none⟩) hg7).trans ll1
  have mm2 := (HB8.out.cell (p := ⟨g7, o7 + 2, none⟩) hg7).trans ll2
  have mm3 := (HB8.out.cell (p := ⟨g7, o7 + 3, none⟩) hg7).trans ll3
  have mm4 := (HB8.out.cell (p := ⟨g7, o7 + 4, none⟩) hg7).trans ll4
  have mm5 := (HB8.out.cell (p := ⟨g7, o7 + 5, none⟩) hg7).trans ll5
  have hg8 := Nat.lt_of_lt_of_le hg7 HB8.out.size
  clear ll0 ll1 ll2 ll3 ll4 ll5 hg7
  have HB8' := Lib.hid (HB7.out.trans (HB8.out.mono HB7.out.size))
  have HS8 := Lib.hid (HS7.out.below HB8.out)
  have HR8 := Lib.hid (HR7.out.new_ HB8.out)
  go_wp2_with fail
  refine wp_region_Pl (fun w9 => Below w8.heap.size w8 w9) [0, 1, 2, 3, 6, 8, 9, 10, 13] [3] (.fork [(0, 0), (1, 0), (2, 0), (3, 1)] 4 (.fork [] 5 (.fork [(6, 0)] 7 (.fin [(8, 0), (9, 0), (10, 0), (11, 2), (12, 2), (13, 0)]) 11 (.fin [(7, 2), (8, 0), (9, 0), (10, 0), (12, 2), (13, 0)])) 11 (.fin [(5, 2), (6, 0), (7, 2), (8, 0), (9, 0), (10, 0), (12, 2), (13, 0)])) 11 (.fin [(4, 2), (5, 2), (6, 0), (7, 2), (8, 0), (9, 0), (10, 0), (12, 2), (13, 0)])) (by kernel_rfl) (by kernel_rfl) (by kernel_rfl) (fun KK hKK => ?_)
  simp only [wpPl, beside, List.filterMap_cons, List.filterMap_nil, List.getElem?_toArray, List.getElem?_cons_zero, List.getElem?_cons_succ, Option.map_some]
  repeat (first | (refine wpY_w ?_ (Or.inl ⟨by rfl, fun w9 => ?_⟩) ?_; rotate_left 1; go_simp; with_reducible rfl; simp only [Act.put, List.setIfInBounds_toArray, List.set_cons_zero, List.set_cons_succ]) | (refine wpY_l ?_ ((Below.refl _ _).drew) (Or.inl ⟨by rfl, fun w9 hw9 => ?_⟩) ?_; rotate_left 1; obtain ⟨hc9, hf9⟩ := bcell hw9; go_simp; with_reducible rfl; simp only [Act.put, List.setIfInBounds_toArray, List.set_cons_zero, List.set_cons_succ]) | (refine wpY_w undef (Or.inr ⟨by rfl, rfl⟩) ?_; simp only [Act.put, List.setIfInBounds_toArray, List.set_cons_zero, List.set_cons_succ]) | (refine wpY_l undef ((Below.refl _ _).drew) (Or.inr ⟨by rfl, rfl⟩) ?_; simp only [Act.put, List.setIfInBounds_toArray, List.set_cons_zero, List.set_cons_succ]))
  refine wpY_nil ⟨?_, ?_⟩
  · refine wpOp_cs rfl (fun K9 hK9 => ?_)
    go_simp
    refine (symW_is _ _).mono ?_
    rintro e wa ⟨rfl, hba⟩
    have HBa := Lib.hid (((Below.refl w8.heap.size w8).drew).trans (hba.mono (by first | omega | simp)))
    clear hba
    refine hK9 _ _ (fun _ => HBa.out) ?_
    clear hK9 K9
    try simp only [Act.put, List.setIfInBounds_toArray, List.set_cons_zero, List.set_cons_succ]
    try simp only [beside, List.filterMap_nil]
    refine wpY_nil ⟨?_, ?_⟩
    · refine wpOp_cs rfl (fun K9 hK9 => ?_)
      go_simp
      refine (symI_is _ _ _).mono ?_
      rintro e wb ⟨rfl, hbb⟩
      have HBb := Lib.hid ((HBa.out).trans (hbb.mono (by have := HBa.out.size; first | omega | (simp at this ⊢; done) | (simp at this ⊢; omega))))
      clear hbb
      refine hK9 _ _ (fun _ => HBb.out) ?_
      clear hK9 K9
      try simp only [Act.put, List.setIfInBounds_toArray, List.set_cons_zero, List.set_cons_succ]
      try simp only [beside, List.filterMap_nil]
      repeat (first | (refine wpY_w ?_ (Or.inl ⟨by rfl, fun w9 => ?_⟩) ?_; rotate_left 1; go_simp; with_reducible rfl; simp only [Act.put, List.setIfInBounds_toArray, List.set_cons_zero, List.set_cons_succ]) | (refine wpY_l ?_ (HBb.out) (Or.inl ⟨by rfl, fun w9 hw9 => ?_⟩) ?_; rotate_left 1; obtain ⟨hc9, hf9⟩ := bcell hw9; go_simp; with_reducible rfl; simp only [Act.put, List.setIfInBounds_toArray, List.set_cons_zero, List.set_cons_succ]) | (refine wpY_w undef (Or.inr ⟨by rfl, rfl⟩) ?_; simp only [Act.put, List.setIfInBounds_toArray, List.set_cons_zero, List.set_cons_succ]) | (refine wpY_l undef (HBb.out) (Or.inr ⟨by rfl, rfl⟩) ?_; simp only [Act.put, List.setIfInBounds_toArray, List.set_cons_zero, List.set_cons_succ]))
      refine wpY_nil ⟨?_, ?_⟩
      · refine wpOp_cs rfl (fun K9 hK9 => ?_)
        go_simp
        refine (item_is (HS8.out.below (HBb.out)) (HR8.out.new_ (HBb.out))).mono ?_
        rintro e wc ⟨rfl, hbc⟩
        have HBc := Lib.hid ((HBb.out).trans (hbc.mono (by have := HBb.out.size; first | omega | (simp at this ⊢; done) | (simp at this ⊢; omega))))
        clear hbc
        refine hK9 _ _ (fun _ => HBc.out) ?_
        clear hK9 K9
        try simp only [Act.put, List.setIfInBounds_toArray, List.set_cons_zero, List.set_cons_succ]
        try simp only [beside, List.filterMap_nil]
        repeat (first | (refine wpY_w ?_ (Or.inl ⟨by rfl, fun w9 => ?_⟩) ?_; rotate_left 1; go_simp; with_reducible rfl; simp only [Act.put, List.setIfInBounds_toArray, List.set_cons_zero, List.set_cons_succ]) | (refine wpY_l ?_ (HBc.out) (Or.inl ⟨by rfl, fun w9 hw9 => ?_⟩) ?_; rotate_left 1; obtain ⟨hc9, hf9⟩ := bcell hw9; go_simp; with_reducible rfl; simp only [Act.put, List.setIfInBounds_toArray, List.set_cons_zero, List.set_cons_succ]) | (refine wpY_w undef (Or.inr ⟨by rfl, rfl⟩) ?_; simp only [Act.put, List.setIfInBounds_toArray, List.set_cons_zero, List.set_cons_succ]) | (refine wpY_l undef (HBc.out) (Or.inr ⟨by rfl, rfl⟩) ?_; simp only [Act.put, List.setIfInBounds_toArray, List.set_cons_zero, List.set_cons_succ]))
        refine wpY_es (fun K9 hK9 => ?_)
        go_simp
        have HB9 := Lib.hid ((HBc.out).alloc (by have := HBc.out.size; first | omega | (simp at this ⊢; done) | (simp at this ⊢; omega)) (.cells #[.int .i64 0, .string ⟨#[]⟩, .int .i64 0, .int .i64 0, .string ⟨#[]⟩, .int .i64 0, .int .i64 0, .string ⟨#[]⟩, .int .i64 0, .bool false, .bool false, .int .i64 0] 50))
        have HK9 := Lib.hid (show Blk (wc.alloc (.cells #[.int .i64 0, .string ⟨#[]⟩, .int .i64 0, .int .i64 0, .string ⟨#[]⟩, .int .i64 0, .int .i64 0, .string ⟨#[]⟩, .int .i64 0, .bool false, .bool false, .int .i64 0] 50)) wc.heap.size 50 #[.int .i64 0, .string ⟨#[]⟩, .int .i64 0, .int .i64 0, .string ⟨#[]⟩, .int .i64 0, .int .i64 0, .string ⟨#[]⟩, .int .i64 0, .bool false, .bool false, .int .i64 0] from Blk.new wc 50 #[.int .i64 0, .string ⟨#[]⟩, .int .i64 0, .int .i64 0, .string ⟨#[]⟩, .int .i64 0, .int .i64 0, .string ⟨#[]⟩, .int .i64 0, .bool false, .bool false, .int .i64 0])
        refine hK9 _ _ (HB9.out) ?_
        clear hK9 K9
        try simp only [Act.put, List.setIfInBounds_toArray, List.set_cons_zero, List.set_cons_succ]
        refine wpY_es (fun K9 hK9 => ?_)
        have HTH := Lib.hid (show World.there (wc.alloc (.cells #[.int .i64 0, .string ⟨#[]⟩, .int .i64 0, .int .i64 0, .string ⟨#[]⟩, .int .i64 0, .int .i64 0, .string ⟨#[]⟩, .int .i64 0, .bool false, .bool false, .int .i64 0] 50)) (wc.heap.size) 0 (#[.int .i64 1, .string ⟨#[83]⟩, .int .i64 1, .int .i64 3, .string ⟨#[111, 112, 101, 114, 97, 116, 111, 114]⟩, .int .i64 0, .int .i64 1, .string ⟨#[79]⟩, .int .i64 1, .bool true, .bool true, .int .i64 0] : Array Value).size from (HK9.out).there)
        have hgk := (HK9.out).lt
        refine step_store_el rfl 50 (.tmp 6) (.tmp 58) rfl (wc.heap.size) 0 #[.int .i64 1, .string ⟨#[83]⟩, .int .i64 1, .int .i64 3, .string ⟨#[111, 112, 101, 114, 97, 116, 111, 114]⟩, .int .i64 0, .int .i64 1, .string ⟨#[79]⟩, .int .i64 1, .bool true, .bool true, .int .i64 0] (by rfl) (by rfl) HTH.out (by kernel_rfl) (by kernel_rfl) ?_
        refine hK9 _ _ ((Below.setCells' _ _ (HB9.out) (by have := HBc.out.size; first | omega | (simp at this ⊢; done) | (simp at this ⊢; omega)))) ?_
        clear hK9 K9
        try simp only [Act.put, List.setIfInBounds_toArray, List.set_cons_zero, List.set_cons_succ]
        repeat (first | (refine wpY_w ?_ (Or.inl ⟨by rfl, fun w9 => ?_⟩) ?_; rotate_left 1; go_simp; with_reducible rfl; simp only [Act.put, List.setIfInBounds_toArray, List.set_cons_zero, List.set_cons_succ]) | (refine wpY_l ?_ ((Below.setCells' _ _ (HB9.out) (by have := HBc.out.size; first | omega | (simp at this ⊢; done) | (simp at this ⊢; omega)))) (Or.inl ⟨by rfl, fun w9 hw9 => ?_⟩) ?_; rotate_left 1; obtain ⟨hc9, hf9⟩ := bcell hw9; go_simp; with_reducible rfl; simp only [Act.put, List.setIfInBounds_toArray, List.set_cons_zero, List.set_cons_succ]) | (refine wpY_w undef (Or.inr ⟨by rfl, rfl⟩) ?_; simp only [Act.put, List.setIfInBounds_toArray, List.set_cons_zero, List.set_cons_succ]) | (refine wpY_l undef ((Below.setCells' _ _ (HB9.out) (by have := HBc.out.size; first | omega | (simp at this ⊢; done) | (simp at this ⊢; omega)))) (Or.inr ⟨by rfl, rfl⟩) ?_; simp only [Act.put, List.setIfInBounds_toArray, List.set_cons_zero, List.set_cons_succ]))
        refine wpY_nil ?_
        simp only [OnlyN_normal]
        refine hKK _ _ ?_
        clear hKK KK
        obtain ⟨Wf, hWf⟩ : ∃ Wf, Wf = (wc.alloc (.cells #[.int .i64 0, .string ⟨#[]⟩, .int .i64 0, .int .i64 0, .string ⟨#[]⟩, .int .i64 0, .int .i64 0, .string ⟨#[]⟩, .int .i64 0, .bool false, .bool false, .int .i64 0] 50)).setCells (wc.heap.size) 0 [.int .i64 1, .string ⟨#[83]⟩, .int .i64 1, .int .i64 3, .string ⟨#[111, 112, 101, 114, 97, 116, 111, 114]⟩, .int .i64 0, .int .i64 1, .string ⟨#[79]⟩, .int .i64 1, .bool true, .bool true, .int .i64 0] := ⟨_, rfl⟩
        have hbf : Below w8.heap.size w8 Wf := by rw [hWf]; exact (Below.setCells' _ _ (HB9.out) (by have := HBc.out.size; first | omega | (simp at this ⊢; done) | (simp at this ⊢; omega)))
        have hrg : Wf.rangeAt (wc.heap.size) 0 [.int .i64 1, .string ⟨#[83]⟩, .int .i64 1, .int .i64 3, .string ⟨#[111, 112, 101, 114, 97, 116, 111, 114]⟩, .int .i64 0, .int .i64 1, .string ⟨#[79]⟩, .int .i64 1, .bool true, .bool true, .int .i64 0] := by rw [hWf]; exact World.rangeAt_setCells_same _ _ _ _ HTH.out
        have hkf : wc.heap.size < Wf.heap.size := by rw [hWf]; exact Nat.lt_of_lt_of_le hgk (Below.setCells' (B := wc.heap.size) (a := (wc.alloc (.cells #[.int .i64 0, .string ⟨#[]⟩, .int .i64 0, .int .i64 0, .string ⟨#[]⟩, .int .i64 0, .int .i64 0, .string ⟨#[]⟩, .int .i64 0, .bool false, .bool false, .int .i64 0] 50))) _ 0 (Below.refl _ _) (Nat.le_refl _)).size
        rw [← hWf]
        obtain ⟨kx, hkx⟩ : ∃ kx, kx = wc.heap.size := ⟨_, rfl⟩
        rw [← hkx] at hrg hkf ⊢
        have ee0 : Wf.cell? ⟨kx, 0, none⟩ = some (.int .i64 1) := by have := hrg 0 _ rfl; simpa using this
        have ee1 : Wf.cell? ⟨kx, 1, none⟩ = some (.string ⟨#[83]⟩) := by have := hrg 1 _ rfl; simpa using this
        have ee2 : Wf.cell? ⟨kx, 2, none⟩ = some (.int .i64 1) := by have := hrg 2 _ rfl; simpa using this
        have ee9 : Wf.cell? ⟨kx, 9, none⟩ = some (.bool true) := by have := hrg 9 _ rfl; simpa using this
        have nn0 := (hbf.cell (p := ⟨g7, o7, none⟩) hg8).trans mm0
        have nn1 := (hbf.cell (p := ⟨g7, o7 + 1, none⟩) hg8).trans mm1
        have nn2 := (hbf.cell (p := ⟨g7, o7 + 2, none⟩) hg8).trans mm2
        have hgf := Nat.lt_of_lt_of_le hg8 hbf.size
        have HBF := Lib.hid (HB8'.out.trans (hbf.mono HB8'.out.size))
        clear hWf hbf hrg hkx mm0 mm1 mm2 mm3 mm4 mm5 hg8
        go_wp2_with fail
        refine wp_region_E (fun w9 => Below Wf.heap.size Wf w9) [(0, 0), (1, 0), (2, 0), (3, 1), (4, 0), (5, 0), (6, 1), (7, 0), (8, 0), (9, 0), (10, 0), (11, 1), (12, 0), (13, 0)] (by kernel_rfl) (by kernel_rfl) (fun KK hKK => ?_)
        simp only [beside, List.filterMap_cons, List.filterMap_nil, List.getElem?_toArray, List.getElem?_cons_zero, List.getElem?_cons_succ, Option.map_some]
        repeat (first | (refine wpX_w ?_ (Or.inl ⟨by rfl, fun w9 => ?_⟩) ?_; rotate_left 1; go_simp; with_reducible rfl; simp only [Act.put, List.setIfInBounds_toArray, List.set_cons_zero, List.set_cons_succ]) | (refine wpX_l ?_ (((Below.refl _ _).drew)) (Or.inl ⟨by rfl, fun w9 hw9 => ?_⟩) ?_; rotate_left 1; obtain ⟨hc9, hf9⟩ := bcell hw9; go_simp; with_reducible rfl; simp only [Act.put, List.setIfInBounds_toArray, List.set_cons_zero, List.set_cons_succ]) | (refine wpX_w undef (Or.inr ⟨by rfl, rfl⟩) ?_; simp only [Act.put, List.setIfInBounds_toArray, List.set_cons_zero, List.set_cons_succ]) | (refine wpX_l undef (((Below.refl _ _).drew)) (Or.inr ⟨by rfl, rfl⟩) ?_; simp only [Act.put, List.setIfInBounds_toArray, List.set_cons_zero, List.set_cons_succ]))
        refine wpX_nil ?_
        simp only [OnlyN_normal]
        refine hKK _ _ ?_
        clear hKK KK
        go_wp2_with fail
        go_ret
        exact ⟨rfl, HBF.out.drew⟩
      · refine wpOp_cs rfl (fun K9 hK9 => ?_)
        go_simp
        have HB9 := Lib.hid ((HBb.out).alloc (by have := HBb.out.size; first | omega | (simp at this ⊢; done) | (simp at this ⊢; omega)) (.cells #[.int .i64 0, .string ⟨#[]⟩, .int .i64 0, .int .i64 0, .string ⟨#[]⟩, .int .i64 0, .int .i64 0, .string ⟨#[]⟩, .int .i64 0, .bool false, .bool false, .int .i64 0] 50))
        have HK9 := Lib.hid (show Blk (wb.alloc (.cells #[.int .i64 0, .string ⟨#[]⟩, .int .i64 0, .int .i64 0, .string ⟨#[]⟩, .int .i64 0, .int .i64 0, .string ⟨#[]⟩, .int .i64 0, .bool false, .bool false, .int .i64 0] 50)) wb.heap.size 50 #[.int .i64 0, .string ⟨#[]⟩, .int .i64 0, .int .i64 0, .string ⟨#[]⟩, .int .i64 0, .int .i64 0, .string ⟨#[]⟩, .int .i64 0, .bool false, .bool false, .int .i64 0] from Blk.new wb 50 #[.int .i64 0, .string ⟨#[]⟩, .int .i64 0, .int .i64 0, .string ⟨#[]⟩, .int .i64 0, .int .i64 0, .string ⟨#[]⟩, .int .i64 0, .bool false, .bool false, .int .i64 0])
        refine hK9 _ _ (fun _ => HB9.out) ?_
        clear hK9 K9
        try simp only [Act.put, List.setIfInBounds_toArray, List.set_cons_zero, List.set_cons_succ]
        try simp only [beside, List.filterMap_nil]
        refine wpY_es (fun K9 hK9 => ?_)
        go_simp
        refine (item_is (HS8.out.below (HB9.out)) (HR8.out.new_ (HB9.out))).mono ?_
        rintro e wc ⟨rfl, hbc⟩
        have HBc := Lib.hid ((HB9.out).trans (hbc.mono (by have := HB9.out.size; first | omega | (simp at this ⊢; done) | (simp at this ⊢; omega))))
        have hkc := (HK9.out).new_ hbc
        have HKc := Lib.hid hkc
        clear hkc
        clear hbc
        refine hK9 _ _ (HBc.out) ?_
        clear hK9 K9
        try simp only [Act.put, List.setIfInBounds_toArray, List.set_cons_zero, List.set_cons_succ]
        repeat (first | (refine wpY_w ?_ (Or.inl ⟨by rfl, fun w9 => ?_⟩) ?_; rotate_left 1; go_simp; with_reducible rfl; simp only [Act.put, List.setIfInBounds_toArray, List.set_cons_zero, List.set_cons_succ]) | (refine wpY_l ?_ (HBc.out) (Or.inl ⟨by rfl, fun w9 hw9 => ?_⟩) ?_; rotate_left 1; obtain ⟨hc9, hf9⟩ := bcell hw9; go_simp; with_reducible rfl; simp only [Act.put, List.setIfInBounds_toArray, List.set_cons_zero, List.set_cons_succ]) | (refine wpY_w undef (Or.inr ⟨by rfl, rfl⟩) ?_; simp only [Act.put, List.setIfInBounds_toArray, List.set_cons_zero, List.set_cons_succ]) | (refine wpY_l undef (HBc.out) (Or.inr ⟨by rfl, rfl⟩) ?_; simp only [Act.put, List.setIfInBounds_toArray, List.set_cons_zero, List.set_cons_succ]))
        refine wpY_es (fun K9 hK9 => ?_)
        have HTH := Lib.hid (show World.there wc (wb.heap.size) 0 (#[.int .i64 1, .string ⟨#[83]⟩, .int .i64 1, .int .i64 3, .string ⟨#[111, 112, 101, 114, 97, 116, 111, 114]⟩, .int .i64 0, .int .i64 1, .string ⟨#[79]⟩, .int .i64 1, .bool true, .bool true, .int .i64 0] : Array Value).size from (HKc.out).there)
        have hgk := (HKc.out).lt
        refine step_store_el rfl 50 (.tmp 6) (.tmp 58) rfl (wb.heap.size) 0 #[.int .i64 1, .string ⟨#[83]⟩, .int .i64 1, .int .i64 3, .string ⟨#[111, 112, 101, 114, 97, 116, 111, 114]⟩, .int .i64 0, .int .i64 1, .string ⟨#[79]⟩, .int .i64 1, .bool true, .bool true, .int .i64 0] (by rfl) (by rfl) HTH.out (by kernel_rfl) (by kernel_rfl) ?_
        refine hK9 _ _ ((Below.setCells' _ _ (HBc.out) (by have := HBb.out.size; first | omega | (simp at this ⊢; done) | (simp at this ⊢; omega)))) ?_
        clear hK9 K9
        try simp only [Act.put, List.setIfInBounds_toArray, List.set_cons_zero, List.set_cons_succ]
        repeat (first | (refine wpY_w ?_ (Or.inl ⟨by rfl, fun w9 => ?_⟩) ?_; rotate_left 1; go_simp; with_reducible rfl; simp only [Act.put, List.setIfInBounds_toArray, List.set_cons_zero, List.set_cons_succ]) | (refine wpY_l ?_ ((Below.setCells' _ _ (HBc.out) (by have := HBb.out.size; first | omega | (simp at this ⊢; done) | (simp at this ⊢; omega)))) (Or.inl ⟨by rfl, fun w9 hw9 => ?_⟩) ?_; rotate_left 1; obtain ⟨hc9, hf9⟩ := bcell hw9; go_simp; with_reducible rfl; simp only [Act.put, List.setIfInBounds_toArray, List.set_cons_zero, List.set_cons_succ]) | (refine wpY_w undef (Or.inr ⟨by rfl, rfl⟩) ?_; simp only [Act.put, List.setIfInBounds_toArray, List.set_cons_zero, List.set_cons_succ]) | (refine wpY_l undef ((Below.setCells' _ _ (HBc.out) (by have := HBb.out.size; first | omega | (simp at this ⊢; done) | (simp at this ⊢; omega)))) (Or.inr ⟨by rfl, rfl⟩) ?_; simp only [Act.put, List.setIfInBounds_toArray, List.set_cons_zero, List.set_cons_succ]))
        refine wpY_nil ?_
        simp only [OnlyN_normal]
        refine hKK _ _ ?_
        clear hKK KK
        obtain ⟨Wf, hWf⟩ : ∃ Wf, Wf = wc.setCells (wb.heap.size) 0 [.int .i64 1, .string ⟨#[83]⟩, .int .i64 1, .int .i64 3, .string ⟨#[111, 112, 101, 114, 97, 116, 111, 114]⟩, .int .i64 0, .int .i64 1, .string ⟨#[79]⟩, .int .i64 1, .bool true, .bool true, .int .i64 0] := ⟨_, rfl⟩
        have hbf : Below w8.heap.size w8 Wf := by rw [hWf]; exact (Below.setCells' _ _ (HBc.out) (by have := HBb.out.size; first | omega | (simp at this ⊢; done) | (simp at this ⊢; omega)))
        have hrg : Wf.rangeAt (wb.heap.size) 0 [.int .i64 1, .string ⟨#[83]⟩, .int .i64 1, .int .i64 3, .string ⟨#[111, 112, 101, 114, 97, 116, 111, 114]⟩, .int .i64 0, .int .i64 1, .string ⟨#[79]⟩, .int .i64 1, .bool true, .bool true, .int .i64 0] := by rw [hWf]; exact World.rangeAt_setCells_same _ _ _ _ HTH.out
        have hkf : wb.heap.size < Wf.heap.size := by rw [hWf]; exact Nat.lt_of_lt_of_le hgk (Below.setCells' (B := wb.heap.size) (a := wc) _ 0 (Below.refl _ _) (Nat.le_refl _)).size
        rw [← hWf]
        obtain ⟨kx, hkx⟩ : ∃ kx, kx = wb.heap.size := ⟨_, rfl⟩
        rw [← hkx] at hrg hkf ⊢
        have ee0 : Wf.cell? ⟨kx, 0, none⟩ = some (.int .i64 1) := by have := hrg 0 _ rfl; simpa using this
        have ee1 : Wf.cell? ⟨kx, 1, none⟩ = some (.string ⟨#[83]⟩) := by have := hrg 1 _ rfl; simpa using this
        have ee2 : Wf.cell? ⟨kx, 2, none⟩ = some (.int .i64 1) := by have := hrg 2 _ rfl; simpa using this
        have ee9 : Wf.cell? ⟨kx, 9, none⟩ = some (.bool true) := by have := hrg 9 _ rfl; simpa using this
        have nn0 := (hbf.cell (p := ⟨g7, o7, none⟩) hg8).trans mm0
        have nn1 := (hbf.cell (p := ⟨g7, o7 + 1, none⟩) hg8).trans mm1
        have nn2 := (hbf.cell (p := ⟨g7, o7 + 2, none⟩) hg8).trans mm2
        have hgf := Nat.lt_of_lt_of_le hg8 hbf.size
        have HBF := Lib.hid (HB8'.out.trans (hbf.mono HB8'.out.size))
        clear hWf hbf hrg hkx mm0 mm1 mm2 mm3 mm4 mm5 hg8
        go_wp2_with fail
        refine wp_region_E (fun w9 => Below Wf.heap.size Wf w9) [(0, 0), (1, 0), (2, 0), (3, 1), (4, 0), (5, 0), (6, 1), (7, 0), (8, 0), (9, 0), (10, 0), (11, 1), (12, 0), (13, 0)] (by kernel_rfl) (by kernel_rfl) (fun KK hKK => ?_)
        simp only [beside, List.filterMap_cons, List.filterMap_nil, List.getElem?_toArray, List.getElem?_cons_zero, List.getElem?_cons_succ, Option.map_some]
        repeat (first | (refine wpX_w ?_ (Or.inl ⟨by rfl, fun w9 => ?_⟩) ?_; rotate_left 1; go_simp; with_reducible rfl; simp only [Act.put, List.setIfInBounds_toArray, List.set_cons_zero, List.set_cons_succ]) | (refine wpX_l ?_ (((Below.refl _ _).drew)) (Or.inl ⟨by rfl, fun w9 hw9 => ?_⟩) ?_; rotate_left 1; obtain ⟨hc9, hf9⟩ := bcell hw9; go_simp; with_reducible rfl; simp only [Act.put, List.setIfInBounds_toArray, List.set_cons_zero, List.set_cons_succ]) | (refine wpX_w undef (Or.inr ⟨by rfl, rfl⟩) ?_; simp only [Act.put, List.setIfInBounds_toArray, List.set_cons_zero, List.set_cons_succ]) | (refine wpX_l undef (((Below.refl _ _).drew)) (Or.inr ⟨by rfl, rfl⟩) ?_; simp only [Act.put, List.setIfInBounds_toArray, List.set_cons_zero, List.set_cons_succ]))
        refine wpX_nil ?_
        simp only [OnlyN_normal]
        refine hKK _ _ ?_
        clear hKK KK
        go_wp2_with fail
        go_ret
        exact ⟨rfl, HBF.out.drew⟩
    · refine wpOp_cs rfl (fun K9 hK9 => ?_)
      go_simp
      have HB9 := Lib.hid ((HBa.out).alloc (by have := HBa.out.size; first | omega | (simp at this ⊢; done) | (simp at this ⊢; omega)) (.cells #[.int .i64 0, .string ⟨#[]⟩, .int .i64 0, .int .i64 0, .string ⟨#[]⟩, .int .i64 0, .int .i64 0, .string ⟨#[]⟩, .int .i64 0, .bool false, .bool false, .int .i64 0] 50))
      have HK9 := Lib.hid (show Blk (wa.alloc (.cells #[.int .i64 0, .string ⟨#[]⟩, .int .i64 0, .int .i64 0, .string ⟨#[]⟩, .int .i64 0, .int .i64 0, .string ⟨#[]⟩, .int .i64 0, .bool false, .bool false, .int .i64 0] 50)) wa.heap.size 50 #[.int .i64 0, .string ⟨#[]⟩, .int .i64 0, .int .i64 0, .string ⟨#[]⟩, .int .i64 0, .int .i64 0, .string ⟨#[]⟩, .int .i64 0, .bool false, .bool false, .int .i64 0] from Blk.new wa 50 #[.int .i64 0, .string ⟨#[]⟩, .int .i64 0, .int .i64 0, .string ⟨#[]⟩, .int .i64 0, .int .i64 0, .string ⟨#[]⟩, .int .i64 0, .bool false, .bool false, .int .i64 0])
      refine hK9 _ _ (fun _ => HB9.out) ?_
      clear hK9 K9
      try simp only [Act.put, List.setIfInBounds_toArray, List.set_cons_zero, List.set_cons_succ]
      try simp only [beside, List.filterMap_nil]
      refine wpY_es (fun K9 hK9 => ?_)
      go_simp
      refine (symI_is _ _ _).mono ?_
      rintro e wb ⟨rfl, hbb⟩
      have HBb := Lib.hid ((HB9.out).trans (hbb.mono (by have := HB9.out.size; first | omega | (simp at this ⊢; done) | (simp at this ⊢; omega))))
      have hkb := (HK9.out).new_ hbb
      have HKb := Lib.hid hkb
      clear hkb
      clear hbb
      refine hK9 _ _ (HBb.out) ?_
      clear hK9 K9
      try simp only [Act.put, List.setIfInBounds_toArray, List.set_cons_zero, List.set_cons_succ]
      repeat (first | (refine wpY_w ?_ (Or.inl ⟨by rfl, fun w9 => ?_⟩) ?_; rotate_left 1; go_simp; with_reducible rfl; simp only [Act.put, List.setIfInBounds_toArray, List.set_cons_zero, List.set_cons_succ]) | (refine wpY_l ?_ (HBb.out) (Or.inl ⟨by rfl, fun w9 hw9 => ?_⟩) ?_; rotate_left 1; obtain ⟨hc9, hf9⟩ := bcell hw9; go_simp; with_reducible rfl; simp only [Act.put, List.setIfInBounds_toArray, List.set_cons_zero, List.set_cons_succ]) | (refine wpY_w undef (Or.inr ⟨by rfl, rfl⟩) ?_; simp only [Act.put, List.setIfInBounds_toArray, List.set_cons_zero, List.set_cons_succ]) | (refine wpY_l undef (HBb.out) (Or.inr ⟨by rfl, rfl⟩) ?_; simp only [Act.put, List.setIfInBounds_toArray, List.set_cons_zero, List.set_cons_succ]))
      refine wpY_es (fun K9 hK9 => ?_)
      go_simp
      refine (item_is (HS8.out.below (HBb.out)) (HR8.out.new_ (HBb.out))).mono ?_
      rintro e wc ⟨rfl, hbc⟩
      have HBc := Lib.hid ((HBb.out).trans (hbc.mono (by have := HBb.out.size; first | omega | (simp at this ⊢; done) | (simp at this ⊢; omega))))
      have hkc := (HKb.out).new_ hbc
      have HKc := Lib.hid hkc
      clear hkc
      clear hbc
      refine hK9 _ _ (HBc.out) ?_
      clear hK9 K9
      try simp only [Act.put, List.setIfInBounds_toArray, List.set_cons_zero, List.set_cons_succ]
      repeat (first | (refine wpY_w ?_ (Or.inl ⟨by rfl, fun w9 => ?_⟩) ?_; rotate_left 1; go_simp; with_reducible rfl; simp only [Act.put, List.setIfInBounds_toArray, List.set_cons_zero, List.set_cons_succ]) | (refine wpY_l ?_ (HBc.out) (Or.inl ⟨by rfl, fun w9 hw9 => ?_⟩) ?_; rotate_left 1; obtain ⟨hc9, hf9⟩ := bcell hw9; go_simp; with_reducible rfl; simp only [Act.put, List.setIfInBounds_toArray, List.set_cons_zero, List.set_cons_succ]) | (refine wpY_w undef (Or.inr ⟨by rfl, rfl⟩) ?_; simp only [Act.put, List.setIfInBounds_toArray, List.set_cons_zero, List.set_cons_succ]) | (refine wpY_l undef (HBc.out) (Or.inr ⟨by rfl, rfl⟩) ?_; simp only [Act.put, List.setIfInBounds_toArray, List.set_cons_zero, List.set_cons_succ]))
      refine wpY_es (fun K9 hK9 => ?_)
      have HTH := Lib.hid (show World.there wc (wa.heap.size) 0 (#[.int .i64 1, .string ⟨#[83]⟩, .int .i64 1, .int .i64 3, .string ⟨#[111, 112, 101, 114, 97, 116, 111, 114]⟩, .int .i64 0, .int .i64 1, .string ⟨#[79]⟩, .int .i64 1, .bool true, .bool true, .int .i64 0] : Array Value).size from (HKc.out).there)
      have hgk := (HKc.out).lt
      refine step_store_el rfl 50 (.tmp 6) (.tmp 58) rfl (wa.heap.size) 0 #[.int .i64 1, .string ⟨#[83]⟩, .int .i64 1, .int .i64 3, .string ⟨#[111, 112, 101, 114, 97, 116, 111, 114]⟩, .int .i64 0, .int .i64 1, .string ⟨#[79]⟩, .int .i64 1, .bool true, .bool true, .int .i64 0] (by rfl) (by rfl) HTH.out (by kernel_rfl) (by kernel_rfl) ?_
      refine hK9 _ _ ((Below.setCells' _ _ (HBc.out) (by have := HBa.out.size; first | omega | (simp at this ⊢; done) | (simp at this ⊢; omega)))) ?_
      clear hK9 K9
      try simp only [Act.put, List.setIfInBounds_toArray, List.set_cons_zero, List.set_cons_succ]
      repeat (first | (refine wpY_w ?_ (Or.inl ⟨by rfl, fun w9 => ?_⟩) ?_; rotate_left 1; go_simp; with_reducible rfl; simp only [Act.put, List.setIfInBounds_toArray, List.set_cons_zero, List.set_cons_succ]) | (refine wpY_l ?_ ((Below.setCells' _ _ (HBc.out) (by have := HBa.out.size; first | omega | (simp at this ⊢; done) | (simp at this ⊢; omega)))) (Or.inl ⟨by rfl, fun w9 hw9 => ?_⟩) ?_; rotate_left 1; obtain ⟨hc9, hf9⟩ := bcell hw9; go_simp; with_reducible rfl; simp only [Act.put, List.setIfInBounds_toArray, List.set_cons_zero, List.set_cons_succ]) | (refine wpY_w undef (Or.inr ⟨by rfl, rfl⟩) ?_; simp only [Act.put, List.setIfInBounds_toArray, List.set_cons_zero, List.set_cons_succ]) | (refine wpY_l undef ((Below.setCells' _ _ (HBc.out) (by have := HBa.out.size; first | omega | (simp at this ⊢; done) | (simp at this ⊢; omega)))) (Or.inr ⟨by rfl, rfl⟩) ?_; simp only [Act.put, List.setIfInBounds_toArray, List.set_cons_zero, List.set_cons_succ]))
      refine wpY_nil ?_
      simp only [OnlyN_normal]
      refine hKK _ _ ?_
      clear hKK KK
      obtain ⟨Wf, hWf⟩ : ∃ Wf, Wf = wc.setCells (wa.heap.size) 0 [.int .i64 1, .string ⟨#[83]⟩, .int .i64 1, .int .i64 3, .string ⟨#[111, 112, 101, 114, 97, 116, 111, 114]⟩, .int .i64 0, .int .i64 1, .string ⟨#[79]⟩, .int .i64 1, .bool true, .bool true, .int .i64 0] := ⟨_, rfl⟩
      have hbf : Below w8.heap.size w8 Wf := by rw [hWf]; exact (Below.setCells' _ _ (HBc.out) (by have := HBa.out.size; first | omega | (simp at this ⊢; done) | (simp at this ⊢; omega)))
      have hrg : Wf.rangeAt (wa.heap.size) 0 [.int .i64 1, .string ⟨#[83]⟩, .int .i64 1, .int .i64 3, .string ⟨#[111, 112, 101, 114, 97, 116, 111, 114]⟩, .int .i64 0, .int .i64 1, .string ⟨#[79]⟩, .int .i64 1, .bool true, .bool true, .int .i64 0] := by rw [hWf]; exact World.rangeAt_setCells_same _ _ _ _ HTH.out
      have hkf : wa.heap.size < Wf.heap.size := by rw [hWf]; exact Nat.lt_of_lt_of_le hgk (Below.setCells' (B := wa.heap.size) (a := wc) _ 0 (Below.refl _ _) (Nat.le_refl _)).size
      rw [← hWf]
      obtain ⟨kx, hkx⟩ : ∃ kx, kx = wa.heap.size := ⟨_, rfl⟩
      rw [← hkx] at hrg hkf ⊢
      have ee0 : Wf.cell? ⟨kx, 0, none⟩ = some (.int .i64 1) := by have := hrg 0 _ rfl; simpa using this
      have ee1 : Wf.cell? ⟨kx, 1, none⟩ = some (.string ⟨#[83]⟩) := by have := hrg 1 _ rfl; simpa using this
      have ee2 : Wf.cell? ⟨kx, 2, none⟩ = some (.int .i64 1) := by have := hrg 2 _ rfl; simpa using this
      have ee9 : Wf.cell? ⟨kx, 9, none⟩ = some (.bool true) := by have := hrg 9 _ rfl; simpa using this
      have nn0 := (hbf.cell (p := ⟨g7, o7, none⟩) hg8).trans mm0
      have nn1 := (hbf.cell (p := ⟨g7, o7 + 1, none⟩) hg8).trans mm1
      have nn2 := (hbf.cell (p := ⟨g7, o7 + 2, none⟩) hg8).trans mm2
      have hgf := Nat.lt_of_lt_of_le hg8 hbf.size
      have HBF := Lib.hid (HB8'.out.trans (hbf.mono HB8'.out.size))
      clear hWf hbf hrg hkx mm0 mm1 mm2 mm3 mm4 mm5 hg8
      go_wp2_with fail
      refine wp_region_E (fun w9 => Below Wf.heap.size Wf w9) [(0, 0), (1, 0), (2, 0), (3, 1), (4, 0), (5, 0), (6, 1), (7, 0), (8, 0), (9, 0), (10, 0), (11, 1), (12, 0), (13, 0)] (by kernel_rfl) (by kernel_rfl) (fun KK hKK => ?_)
      simp only [beside, List.filterMap_cons, List.filterMap_nil, List.getElem?_toArray, List.getElem?_cons_zero, List.getElem?_cons_succ, Option.map_some]
      repeat (first | (refine wpX_w ?_ (Or.inl ⟨by rfl, fun w9 => ?_⟩) ?_; rotate_left 1; go_simp; with_reducible rfl; simp only [Act.put, List.setIfInBounds_toArray, List.set_cons_zero, List.set_cons_succ]) | (refine wpX_l ?_ (((Below.refl _ _).drew)) (Or.inl ⟨by rfl, fun w9 hw9 => ?_⟩) ?_; rotate_left 1; obtain ⟨hc9, hf9⟩ := bcell hw9; go_simp; with_reducible rfl; simp only [Act.put, List.setIfInBounds_toArray, List.set_cons_zero, List.set_cons_succ]) | (refine wpX_w undef (Or.inr ⟨by rfl, rfl⟩) ?_; simp only [Act.put, List.setIfInBounds_toArray, List.set_cons_zero, List.set_cons_succ]) | (refine wpX_l undef (((Below.refl _ _).drew)) (Or.inr ⟨by rfl, rfl⟩) ?_; simp only [Act.put, List.setIfInBounds_toArray, List.set_cons_zero, List.set_cons_succ]))
      refine wpX_nil ?_
      simp only [OnlyN_normal]
      refine hKK _ _ ?_
      clear hKK KK
      go_wp2_with fail
      go_ret
      exact ⟨rfl, HBF.out.drew⟩
  · refine wpOp_cs rfl (fun K9 hK9 => ?_)
    go_simp
    have HB9 := Lib.hid (((Below.refl w8.heap.size w8).drew).alloc (by first | omega | simp) (.cells #[.int .i64 0, .string ⟨#[]⟩, .int .i64 0, .int .i64 0, .string ⟨#[]⟩, .int .i64 0, .int .i64 0, .string ⟨#[]⟩, .int .i64 0, .bool false, .bool false, .int .i64 0] 50))
    have HK9 := Lib.hid (show Blk (w8.drew.alloc (.cells #[.int .i64 0, .string ⟨#[]⟩, .int .i64 0, .int .i64 0, .string ⟨#[]⟩, .int .i64 0, .int .i64 0, .string ⟨#[]⟩, .int .i64 0, .bool false, .bool false, .int .i64 0] 50)) w8.heap.size 50 #[.int .i64 0, .string ⟨#[]⟩, .int .i64 0, .int .i64 0, .string ⟨#[]⟩, .int .i64 0, .int .i64 0, .string ⟨#[]⟩, .int .i64 0, .bool false, .bool false, .int .i64 0] from Blk.new w8.drew 50 #[.int .i64 0, .string ⟨#[]⟩, .int .i64 0, .int .i64 0, .string ⟨#[]⟩, .int .i64 0, .int .i64 0, .string ⟨#[]⟩, .int .i64 0, .bool false, .bool false, .int .i64 0])
    refine hK9 _ _ (fun _ => HB9.out) ?_
    clear hK9 K9
    try simp only [Act.put, List.setIfInBounds_toArray, List.set_cons_zero, List.set_cons_succ]
    try simp only [beside, List.filterMap_nil]
    refine wpY_es (fun K9 hK9 => ?_)
    go_simp
    refine (symW_is _ _).mono ?_
    rintro e wa ⟨rfl, hba⟩
    have HBa := Lib.hid ((HB9.out).trans (hba.mono (by have := HB9.out.size; first | omega | (simp at this ⊢; done) | (simp at this ⊢; omega))))
    have hka := (HK9.out).new_ hba
    have HKa := Lib.hid hka
    clear hka
    clear hba
    refine hK9 _ _ (HBa.out) ?_
    clear hK9 K9
    try simp only [Act.put, List.setIfInBounds_toArray, List.set_cons_zero, List.set_cons_succ]
    refine wpY_es (fun K9 hK9 => ?_)
    go_simp
    refine (symI_is _ _ _).mono ?_
    rintro e wb ⟨rfl, hbb⟩
    have HBb := Lib.hid ((HBa.out).trans (hbb.mono (by have := HBa.out.size; first | omega | (simp at this ⊢; done) | (simp at this ⊢; omega))))
    have hkb := (HKa.out).new_ hbb
    have HKb := Lib.hid hkb
    clear hkb
    clear hbb
    refine hK9 _ _ (HBb.out) ?_
    clear hK9 K9
    try simp only [Act.put, List.setIfInBounds_toArray, List.set_cons_zero, List.set_cons_succ]
    repeat (first | (refine wpY_w ?_ (Or.inl ⟨by rfl, fun w9 => ?_⟩) ?_; rotate_left 1; go_simp; with_reducible rfl; simp only [Act.put, List.setIfInBounds_toArray, List.set_cons_zero, List.set_cons_succ]) | (refine wpY_l ?_ (HBb.out) (Or.inl ⟨by rfl, fun w9 hw9 => ?_⟩) ?_; rotate_left 1; obtain ⟨hc9, hf9⟩ := bcell hw9; go_simp; with_reducible rfl; simp only [Act.put, List.setIfInBounds_toArray, List.set_cons_zero, List.set_cons_succ]) | (refine wpY_w undef (Or.inr ⟨by rfl, rfl⟩) ?_; simp only [Act.put, List.setIfInBounds_toArray, List.set_cons_zero, List.set_cons_succ]) | (refine wpY_l undef (HBb.out) (Or.inr ⟨by rfl, rfl⟩) ?_; simp only [Act.put, List.setIfInBounds_toArray, List.set_cons_zero, List.set_cons_succ]))
    refine wpY_es (fun K9 hK9 => ?_)
    go_simp
    refine (item_is (HS8.out.below (HBb.out)) (HR8.out.new_ (HBb.out))).mono ?_
    rintro e wc ⟨rfl, hbc⟩
    have HBc := Lib.hid ((HBb.out).trans (hbc.mono (by have := HBb.out.size; first | omega | (simp at this ⊢; done) | (simp at this ⊢; omega))))
    have hkc := (HKb.out).new_ hbc
    have HKc := Lib.hid hkc
    clear hkc
    clear hbc
    refine hK9 _ _ (HBc.out) ?_
    clear hK9 K9
    try simp only [Act.put, List.setIfInBounds_toArray, List.set_cons_zero, List.set_cons_succ]
    repeat (first | (refine wpY_w ?_ (Or.inl ⟨by rfl, fun w9 => ?_⟩) ?_; rotate_left 1; go_simp; with_reducible rfl; simp only [Act.put, List.setIfInBounds_toArray, List.set_cons_zero, List.set_cons_succ]) | (refine wpY_l ?_ (HBc.out) (Or.inl ⟨by rfl, fun w9 hw9 => ?_⟩) ?_; rotate_left 1; obtain ⟨hc9, hf9⟩ := bcell hw9; go_simp; with_reducible rfl; simp only [Act.put, List.setIfInBounds_toArray, List.set_cons_zero, List.set_cons_succ]) | (refine wpY_w undef (Or.inr ⟨by rfl, rfl⟩) ?_; simp only [Act.put, List.setIfInBounds_toArray, List.set_cons_zero, List.set_cons_succ]) | (refine wpY_l undef (HBc.out) (Or.inr ⟨by rfl, rfl⟩) ?_; simp only [Act.put, List.setIfInBounds_toArray, List.set_cons_zero, List.set_cons_succ]))
    refine wpY_es (fun K9 hK9 => ?_)
    have HTH := Lib.hid (show World.there wc (w8.heap.size) 0 (#[.int .i64 1, .string ⟨#[83]⟩, .int .i64 1, .int .i64 3, .string ⟨#[111, 112, 101, 114, 97, 116, 111, 114]⟩, .int .i64 0, .int .i64 1, .string ⟨#[79]⟩, .int .i64 1, .bool true, .bool true, .int .i64 0] : Array Value).size from (HKc.out).there)
    have hgk := (HKc.out).lt
    refine step_store_el rfl 50 (.tmp 6) (.tmp 58) rfl (w8.heap.size) 0 #[.int .i64 1, .string ⟨#[83]⟩, .int .i64 1, .int .i64 3, .string ⟨#[111, 112, 101, 114, 97, 116, 111, 114]⟩, .int .i64 0, .int .i64 1, .string ⟨#[79]⟩, .int .i64 1, .bool true, .bool true, .int .i64 0] (by rfl) (by rfl) HTH.out (by kernel_rfl) (by kernel_rfl) ?_
    refine hK9 _ _ ((Below.setCells' _ _ (HBc.out) (by first | omega | simp))) ?_
    clear hK9 K9
    try simp only [Act.put, List.setIfInBounds_toArray, List.set_cons_zero, List.set_cons_succ]
    repeat (first | (refine wpY_w ?_ (Or.inl ⟨by rfl, fun w9 => ?_⟩) ?_; rotate_left 1; go_simp; with_reducible rfl; simp only [Act.put, List.setIfInBounds_toArray, List.set_cons_zero, List.set_cons_succ]) | (refine wpY_l ?_ ((Below.setCells' _ _ (HBc.out) (by first | omega | simp))) (Or.inl ⟨by rfl, fun w9 hw9 => ?_⟩) ?_; rotate_left 1; obtain ⟨hc9, hf9⟩ := bcell hw9; go_simp; with_reducible rfl; simp only [Act.put, List.setIfInBounds_toArray, List.set_cons_zero, List.set_cons_succ]) | (refine wpY_w undef (Or.inr ⟨by rfl, rfl⟩) ?_; simp only [Act.put, List.setIfInBounds_toArray, List.set_cons_zero, List.set_cons_succ]) | (refine wpY_l undef ((Below.setCells' _ _ (HBc.out) (by first | omega | simp))) (Or.inr ⟨by rfl, rfl⟩) ?_; simp only [Act.put, List.setIfInBounds_toArray, List.set_cons_zero, List.set_cons_succ]))
    refine wpY_nil ?_
    simp only [OnlyN_normal]
    refine hKK _ _ ?_
    clear hKK KK
    obtain ⟨Wf, hWf⟩ : ∃ Wf, Wf = wc.setCells (w8.heap.size) 0 [.int .i64 1, .string ⟨#[83]⟩, .int .i64 1, .int .i64 3, .string ⟨#[111, 112, 101, 114, 97, 116, 111, 114]⟩, .int .i64 0, .int .i64 1, .string ⟨#[79]⟩, .int .i64 1, .bool true, .bool true, .int .i64 0] := ⟨_, rfl⟩
    have hbf : Below w8.heap.size w8 Wf := by rw [hWf]; exact (Below.setCells' _ _ (HBc.out) (by first | omega | simp))
    have hrg : Wf.rangeAt (w8.heap.size) 0 [.int .i64 1, .string ⟨#[83]⟩, .int .i64 1, .int .i64 3, .string ⟨#[111, 112, 101, 114, 97, 116, 111, 114]⟩, .int .i64 0, .int .i64 1, .string ⟨#[79]⟩, .int .i64 1, .bool true, .bool true, .int .i64 0] := by rw [hWf]; exact World.rangeAt_setCells_same _ _ _ _ HTH.out
    have hkf : w8.heap.size < Wf.heap.size := by rw [hWf]; exact Nat.lt_of_lt_of_le hgk (Below.setCells' (B := w8.heap.size) (a := wc) _ 0 (Below.refl _ _) (Nat.le_refl _)).size
    rw [← hWf]
    obtain ⟨kx, hkx⟩ : ∃ kx, kx = w8.heap.size := ⟨_, rfl⟩
    rw [← hkx] at hrg hkf ⊢
    have ee0 : Wf.cell? ⟨kx, 0, none⟩ = some (.int .i64 1) := by have := hrg 0 _ rfl; simpa using this
    have ee1 : Wf.cell? ⟨kx, 1, none⟩ = some (.string ⟨#[83]⟩) := by have := hrg 1 _ rfl; simpa using this
    have ee2 : Wf.cell? ⟨kx, 2, none⟩ = some (.int .i64 1) := by have := hrg 2 _ rfl; simpa using this
    have ee9 : Wf.cell? ⟨kx, 9, none⟩ = some (.bool true) := by have := hrg 9 _ rfl; simpa using this
    have nn0 := (hbf.cell (p := ⟨g7, o7, none⟩) hg8).trans mm0
    have nn1 := (hbf.cell (p := ⟨g7, o7 + 1, none⟩) hg8).trans mm1
    have nn2 := (hbf.cell (p := ⟨g7, o7 + 2, none⟩) hg8).trans mm2
    have hgf := Nat.lt_of_lt_of_le hg8 hbf.size
    have HBF := Lib.hid (HB8'.out.trans (hbf.mono HB8'.out.size))
    clear hWf hbf hrg hkx mm0 mm1 mm2 mm3 mm4 mm5 hg8
    go_wp2_with fail
    refine wp_region_E (fun w9 => Below Wf.heap.size Wf w9) [(0, 0), (1, 0), (2, 0), (3, 1), (4, 0), (5, 0), (6, 1), (7, 0), (8, 0), (9, 0), (10, 0), (11, 1), (12, 0), (13, 0)] (by kernel_rfl) (by kernel_rfl) (fun KK hKK => ?_)
    simp only [beside, List.filterMap_cons, List.filterMap_nil, List.getElem?_toArray, List.getElem?_cons_zero, List.getElem?_cons_succ, Option.map_some]
    repeat (first | (refine wpX_w ?_ (Or.inl ⟨by rfl, fun w9 => ?_⟩) ?_; rotate_left 1; go_simp; with_reducible rfl; simp only [Act.put, List.setIfInBounds_toArray, List.set_cons_zero, List.set_cons_succ]) | (refine wpX_l ?_ (((Below.refl _ _).drew)) (Or.inl ⟨by rfl, fun w9 hw9 => ?_⟩) ?_; rotate_left 1; obtain ⟨hc9, hf9⟩ := bcell hw9; go_simp; with_reducible rfl; simp only [Act.put, List.setIfInBounds_toArray, List.set_cons_zero, List.set_cons_succ]) | (refine wpX_w undef (Or.inr ⟨by rfl, rfl⟩) ?_; simp only [Act.put, List.setIfInBounds_toArray, List.set_cons_zero, List.set_cons_succ]) | (refine wpX_l undef (((Below.refl _ _).drew)) (Or.inr ⟨by rfl, rfl⟩) ?_; simp only [Act.put, List.setIfInBounds_toArray, List.set_cons_zero, List.set_cons_succ]))
    refine wpX_nil ?_
    simp only [OnlyN_normal]
    refine hKK _ _ ?_
    clear hKK KK
    go_wp2_with fail
    go_ret
    exact ⟨rfl, HBF.out.drew⟩
end Go.Proofs.Ythogokcbbkjcdaa

namespace Go.Proofs.Ythogokcbbkjcdaa
open Go.RowKit Go.Shelf
attribute [local go_sem] Oper.semAt_some
set_option maxRecDepth 100000 in
set_option maxHeartbeats 16000000 in
theorem pushN_is {D : Nat → Prop} {W : World} {sb : Nat} {T : TB} {L : List Sym} {dep : Int} {gs : List GoalC} {ks : List Value} {A : Option Addr} {c : Nat} (h : GT D W T L) (hS : Stk W sb T dep gs ks A c) (hsD : ¬ D sb) 
    (hl : (gs.length : Int) < dep) (hl8 : (gs.length : Int) ≤ 100) (hrm : ((puts cmpSym L wordsN).length : Int) < T.room) (hnx : nextL (puts cmpSym L wordsN) 83 ≤ 1048576) :
    Calls Try.prog 9 #[.pointer (some ⟨sb, 0, none⟩), .int .i64 4, .string ⟨#[115, 116, 97, 116, 101]⟩, .slice none 0 0] W fun e W' => e = .returned (.int .i64 0) ∧ PushTo D W sb T L wordsN dep gs ks 4 ⟨#[115, 116, 97, 116, 101]⟩ [] W' := by
  obtain ⟨i0, hi0, hz0, hz1, hz2⟩ := info_parts info_Sym
  obtain ⟨j0, hj0, hy0, hy1, hy2⟩ := info_parts info_Goal
  have HT := Lib.hid h
  have HS := Lib.hid hS
  have HSD := Lib.hid hsD
  have HRM := Lib.hid hrm
  have HNX := Lib.hid hnx
  have s0 : W.cell? ⟨sb, 0, none⟩ = some (.int .i64 dep) := (hS.blk.cell 0).trans rfl
  have s1 : W.cell? ⟨sb, 1, none⟩ = some (.pointer (some ⟨T.b, 0, none⟩)) := (hS.blk.cell 1).trans rfl
  have s2 : W.cell? ⟨sb, 2, none⟩ = some (.slice A gs.length c) := (hS.blk.cell 2).trans rfl
  have hsl := hS.blk.lt
  have t1 : decide (dep ≤ (gs.length : Int)) = false := by simp; omega
  have HL := Lib.hid hl
  clear h hS hsD hrm hnx s0 s1 s2 hsl hl
  go_enter Try.func9, Try.ntmps9
  go_wp2_with fail
  refine (items_is 4 [] none 0 HT.out (RowRd.nil _ _ _) (AIn.none_ _) (by simp) (fun i hi => absurd hi (by simp)) (by simp) (by simp)).mono ?_
  rintro e W3 ⟨rfl, h3, hF3, hK3⟩
  have hS3 := HS.out.kb hK3
  have s0 : W3.cell? ⟨sb, 0, none⟩ = some (.int .i64 dep) := (hS3.blk.cell 0).trans rfl
  have s1 : W3.cell? ⟨sb, 1, none⟩ = some (.pointer (some ⟨T.b, 0, none⟩)) := (hS3.blk.cell 1).trans rfl
  have s2 : W3.cell? ⟨sb, 2, none⟩ = some (.slice A gs.length c) := (hS3.blk.cell 2).trans rfl
  have hsl := hS3.blk.lt
  have H3 := Lib.hid h3
  have HF3 := Lib.hid hF3
  have HS3 := Lib.hid hS3
  clear h3 hF3 hK3 hS3
  go_wp2_with fail
  go_quiet (fail)
  have HBC := Lib.hid (show Below W3.heap.size W3 (W3.drewN nq) from Below.drewN' (Below.refl _ _) nq)
  clear s0
  go_wp2_with (first
    | (go_at_call 19; refine (gword_is _ _).mono ?_; rintro e w' ⟨rfl, hb⟩; replace s1 := (hb.cell (p := ⟨sb, 1, none⟩) hsl).trans s1; replace hsl := Nat.lt_of_lt_of_le hsl hb.size; have HBC := Lib.hid (HBC.out.trans (hb.mono HBC.out.size)); clear hb)
    | (go_at_call 23; refine (choices_none _).mono ?_; rintro e w' ⟨rfl, rfl⟩)
    | (go_at_call 24; refine (impasse_none _).mono ?_; rintro e w' ⟨rfl, rfl⟩))
  obtain ⟨X, hX⟩ : ∃ X, X = w'.alloc (.cells #[.int .i64 3, .string ⟨#[97, 116, 116, 114, 105, 98, 117, 116, 101]⟩, .int .i64 0, .int .i64 3, .string ⟨#[99, 104, 111, 105, 99, 101, 115]⟩, .int .i64 0, .int .i64 3, .string ⟨#[105, 109, 112, 97, 115, 115, 101]⟩, .int .i64 0, .int .i64 3, .string ⟨#[115, 117, 112, 101, 114, 115, 116, 97, 116, 101]⟩, .int .i64 0, .int .i64 3, .string ⟨#[116, 121, 112, 101]⟩, .int .i64 0, .int .i64 3, .string ⟨#[115, 116, 97, 116, 101]⟩, .int .i64 0, .int .i64 3, .string ⟨#[115, 116, 97, 116, 101]⟩, .int .i64 0, .int .i64 3, .string ⟨#[110, 111, 110, 101]⟩, .int .i64 0, .int .i64 3, .string ⟨#[110, 111, 45, 99, 104, 97, 110, 103, 101]⟩, .int .i64 0] 36) := ⟨_, rfl⟩
  rw [← hX]
  have hBX : Below W3.heap.size W3 X := by rw [hX]; exact HBC.out.alloc HBC.out.size _
  have hop : X.ownsRow 0 36 3 (.slice (some ⟨w'.heap.size, 0, none⟩) 9 9) 9 (wordsN.flatMap Sym.cells) := by rw [hX]; exact owns_fresh w' 36 3 9 (wordsN.flatMap Sym.cells) rfl (by decide)
  have s1 : X.cell? ⟨sb, 1, none⟩ = some (.pointer (some ⟨T.b, 0, none⟩)) := by rw [hX, World.cell?_alloc_lt _ _ _ hsl]; exact s1
  obtain ⟨AP, hAP⟩ : ∃ AP : Option Addr, AP = some ⟨w'.heap.size, 0, none⟩ := ⟨_, rfl⟩
  have hlo : AIn AP (W3.heap.size ≤ ·) := by rw [hAP]; intro a ha; cases ha; exact HBC.out.size
  rw [← hAP] at hop ⊢
  clear hX hAP
  have hin : AIn AP (fun j => D j ∨ (W3.heap.size ≤ j ∧ j < X.heap.size)) := by
    intro a ha
    subst ha
    refine .inr ⟨hlo a rfl, ?_⟩
    rcases ownsRow_form hop with ⟨hv, _⟩ | ⟨g, cap, hv, _, _, hr, _⟩
    · cases hv
    · injection hv with hv
      injection hv with hv
      subst hv
      exact hr.lt
  have h4 := H3.out.new_ hBX
  obtain ⟨D1, hD1⟩ : ∃ D1 : Nat → Prop, D1 = fun j => D j ∨ (W3.heap.size ≤ j ∧ j < X.heap.size) := ⟨_, rfl⟩
  rw [← hD1] at h4 hin
  have HD := Lib.hid (show ∀ j, D j → D1 j by intro j hj; rw [hD1]; exact .inl hj)
  have HBX := Lib.hid hBX
  have HOP := Lib.hid hop
  have HIN := Lib.hid hin
  have HLO := Lib.hid hlo
  have HSX := Lib.hid (HS3.out.below hBX)
  refine (gt_clone h4).mono ?_
  clear h4 hBX hop hin hlo hD1 s1 hsl
  rintro e W4 ⟨T', rfl, hroom, h5, hF4, hK4⟩
  clear HBC
  have hS4 := HSX.out.kb hK4
  have hop4 := ownsRow_fr HOP.out hF4 (fun g hg hn => hn (by
    rcases AP with _ | a
    · simp [Value.ownBlock] at hg
    · have e : a.block = g := by simpa [Value.ownBlock] using hg
      exact e ▸ HIN.out a rfl))
  have HROOM := Lib.hid hroom
  have H5 := Lib.hid h5
  have HF4 := Lib.hid hF4
  have HS4 := Lib.hid hS4
  have HOP4 := Lib.hid hop4
  clear h5 hF4 hK4 hS4 hop4 hroom
  go_wp2_with fail
  refine (gt2_put wordsN AP 9 H5.out (ownsRow_rd Sym.cells_length HOP4.out) (by decide)).mono ?_
  rintro e W5 ⟨rfl, h6, hF5, hK5⟩
  have hpc : putCode T'.room L wordsN = 0 ∧ putList T'.room L wordsN = puts cmpSym L wordsN := by
    unfold putCode putList
    have := HRM.out
    rw [HROOM.out, if_pos wordsN_valid, if_pos wordsN_valid, if_neg (by omega), if_neg (by omega)]
    exact ⟨rfl, rfl⟩
  rw [hpc.1]
  rw [hpc.2] at h6
  have hS5 := HS4.out.kb hK5
  have hop5 := ownsRow_fr HOP4.out hF5 (fun g hg hn => hn (by
    rcases AP with _ | a
    · simp [Value.ownBlock] at hg
    · have e : a.block = g := by simpa [Value.ownBlock] using hg
      exact e ▸ HIN.out a rfl))
  have H6 := Lib.hid h6
  have HF5 := Lib.hid hF5
  have HS5 := Lib.hid hS5
  have HOP5 := Lib.hid hop5
  clear h6 hF5 hK5 hS5 hop5 hpc
  go_wp2_with fail
  refine (gt2_freshS H6.out (by rw [HROOM.out]; exact HRM.out) HNX.out).mono ?_
  rintro e W6 ⟨rfl, h7, hF6, hK6⟩
  obtain ⟨nx, hnx⟩ : ∃ nx, nx = nextL (puts cmpSym L wordsN) 83 := ⟨_, rfl⟩
  rw [← hnx] at h7 ⊢
  have HNXE := Lib.hid hnx
  have hS6 := HS5.out.kb hK6
  have hop6 := ownsRow_fr HOP5.out hF6 (fun g hg hn => hn (by
    rcases AP with _ | a
    · simp [Value.ownBlock] at hg
    · have e : a.block = g := by simpa [Value.ownBlock] using hg
      exact e ▸ HIN.out a rfl))
  have H7 := Lib.hid (GT2.one h7)
  have HF6 := Lib.hid hF6
  have HS6 := Lib.hid hS6
  have HOP6 := Lib.hid hop6
  clear h7 hF6 hK6 hS6 hop6 hnx
  go_wp2_with fail
  obtain ⟨V, hV⟩ : ∃ V, V = W6.alloc (.cells #[.int .i64 1, .string ⟨#[83]⟩, .int .i64 nx] 36) := ⟨_, rfl⟩
  rw [← hV]
  have hbV : Below W6.heap.size W6 V := by rw [hV]; exact (Below.refl _ _).alloc (Nat.le_refl _) _
  have hkB : Blk V W6.heap.size 36 #[.int .i64 1, .string ⟨#[83]⟩, .int .i64 nx] := by rw [hV]; exact Blk.new _ _ _
  obtain ⟨kx, hkx⟩ : ∃ kx, kx = W6.heap.size := ⟨_, rfl⟩
  rw [← hkx] at hkB ⊢
  have HKX := Lib.hid hkx
  have x0 : V.cell? ⟨kx, 0, none⟩ = some (.int .i64 1) := (hkB.cell 0).trans rfl
  have x1 : V.cell? ⟨kx, 1, none⟩ = some (.string ⟨#[83]⟩) := (hkB.cell 1).trans rfl
  have x2 : V.cell? ⟨kx, 2, none⟩ = some (.int .i64 nx) := (hkB.cell 2).trans rfl
  have hkV := hkB.lt
  have hSV := HS6.out.below hbV
  have s1 : V.cell? ⟨sb, 1, none⟩ = some (.pointer (some ⟨T.b, 0, none⟩)) := (hSV.blk.cell 1).trans rfl
  have hsl := hSV.blk.lt
  have h8 := H7.out.new_ hbV
  obtain ⟨D2, hD2⟩ : ∃ D2 : Nat → Prop, D2 = fun j => D1 j ∨ (W6.heap.size ≤ j ∧ j < V.heap.size) := ⟨_, rfl⟩
  rw [← hD2] at h8
  have HD2 := Lib.hid (show ∀ j, D1 j → D2 j by intro j hj; rw [hD2]; exact .inl hj)
  have HK2 := Lib.hid (show D2 kx by rw [hD2]; exact .inr ⟨by omega, hkV⟩)
  have hopV := ownsRow_new HOP6.out hbV
  have hRs : ¬ (Value.slice AP 9 9).ownBlock = some sb := own_blk_ne hopV hSV.blk (by decide)
  have hRk : ¬ (Value.slice AP 9 9).ownBlock = some kx := by
    intro hg
    rcases AP with _ | a
    · simp [Value.ownBlock] at hg
    · have e : a.block = kx := by simpa [Value.ownBlock] using hg
      rcases ownsRow_form HOP6.out with ⟨hv, _⟩ | ⟨g, cap, hv, _, _, hr, _⟩
      · cases hv
      · injection hv with hv
        injection hv with hv
        subst hv
        have := hr.lt
        dsimp only at e
        omega
  have H8 := Lib.hid h8
  have HBV := Lib.hid hbV
  have HSV := Lib.hid hSV
  have HOPV := Lib.hid hopV
  have HKB := Lib.hid hkB
  clear hV hbV hkB hkx hSV h8 hD2 hopV
  refine wp_region_E (fun w9 => Fr (fun j => (Value.slice AP 9 9).ownBlock = some j) V w9) [(0, 0), (1, 0), (2, 0), (3, 1), (4, 0), (5, 1), (6, 2), (7, 2), (8, 2)] (by kernel_rfl) (by kernel_rfl) (fun KK hKK => ?_)
  simp only [beside, List.filterMap_cons, List.filterMap_nil, List.getElem?_toArray, List.getElem?_cons_zero, List.getElem?_cons_succ, Option.map_some]
  repeat (first | (refine wpX_w ?_ (Or.inl ⟨by rfl, fun w9 => ?_⟩) ?_; rotate_left 1; go_simp; with_reducible rfl; simp only [Act.put, List.setIfInBounds_toArray, List.set_cons_zero, List.set_cons_succ]) | (refine wpX_l ?_ (((Fr.refl _ V).drew)) (Or.inl ⟨by rfl, fun w9 hw9 => ?_⟩) ?_; rotate_left 1; have hc9a := hw9.cell (p := ⟨sb, 1, none⟩) hsl hRs; have hc9x0 := hw9.cell (p := ⟨kx, 0, none⟩) hkV hRk; have hc9x1 := hw9.cell (p := ⟨kx, 1, none⟩) hkV hRk; have hc9x2 := hw9.cell (p := ⟨kx, 2, none⟩) hkV hRk; go_simp; with_reducible rfl; simp only [Act.put, List.setIfInBounds_toArray, List.set_cons_zero, List.set_cons_succ]) | (refine wpX_w undef (Or.inr ⟨by rfl, rfl⟩) ?_; simp only [Act.put, List.setIfInBounds_toArray, List.set_cons_zero, List.set_cons_succ]) | (refine wpX_l undef (((Fr.refl _ V).drew)) (Or.inr ⟨by rfl, rfl⟩) ?_; simp only [Act.put, List.setIfInBounds_toArray, List.set_cons_zero, List.set_cons_succ]))
  refine wpX_es (fun K9 hK9 => ?_)
  go_simp
  refine hK9 _ _ ((Fr.refl _ V).drew.alloc _) ?_
  clear hK9 K9
  refine wpX_es (fun K9 hK9 => ?_)
  refine step_append_src _ (by rfl) _ _ _ (by rfl) 36 i0 _ 3 32 Try.underlying32 hi0 hz0 hz1 hz2 rfl (by omega) (.slice AP 9 9) 9 (wordsN.flatMap Sym.cells) (by rfl) (ownsRow_new HOPV.out (((Below.refl _ _).drew).alloc (Nat.le_refl _) _)) (some ⟨V.heap.size, 0, none⟩) 1 1 (Sym.cells ⟨1, ⟨#[83]⟩, nx⟩) (by rfl) (by rfl)
    (fun _ => ⟨_, rfl, World.news_of_block (heap_alloc_new _ _)⟩) (Sym.one _) (by unfold maxLen; omega) (by omega) ?_
  intro v2 w7 hown hgr hnil hat
  refine hK9 _ _ (((Fr.refl _ V).drew.alloc _).grown hgr (fun j hj => .inl hj)) ?_
  clear hK9 K9
  obtain ⟨AQ, cq, D3, rfl, h9, hDD3, hA3, hB3, hK3, hbe3, _, _⟩ := step_row (P := fun D W => GT D W T L) (fun _ _ _ h hF hK => GT.grow h hF hK) H8.out (((Below.refl _ _).drew).alloc (Nat.le_refl _) _) HOPV.out (HIN.out.mono HD2.out) HLO.out (by have := HBX.out.size; have := HF4.out.size; have := HF5.out.size; have := HF6.out.size; have := HBV.out.size; omega) hown hgr hat
  have H9 := Lib.hid h9
  have HDD3 := Lib.hid hDD3
  have HBE3 := Lib.hid hbe3
  have HSW := Lib.hid (HSV.out.kb hK3)
  have HO7 := Lib.hid hown
  have HGR := Lib.hid (show Fr (fun j => (Value.slice AP 9 9).ownBlock = some j) V w7 from ((Fr.refl _ V).drew.alloc _).grown hgr (fun j hj => .inl hj))
  clear h9 hDD3 hA3 hB3 hK3 hbe3 hown hgr hnil hat
  refine wpX_e (by kernel_rfl) (fun K9 hK9 => ?_)
  go_simp
  obtain ⟨Y, hY⟩ : ∃ Y : List Sym, Y = wordsN ++ [⟨1, ⟨#[83]⟩, nx⟩] := ⟨_, rfl⟩
  have hYl : Y.length = 9 + 1 := by rw [hY]; rfl
  have hYc : Y.flatMap Sym.cells = wordsN.flatMap Sym.cells ++ Sym.cells ⟨1, ⟨#[83]⟩, nx⟩ := by rw [hY]; simp
  have hYo : w7.ownsRow 0 36 3 (.slice AQ Y.length cq) Y.length (Y.flatMap Sym.cells) := by rw [hYl, hYc]; exact HO7.out
  have hgp := gt_put Y AQ cq H9.out (ownsRow_rd Sym.cells_length hYo) (by rw [hYl]; decide)
  rw [hYl] at hgp
  refine hgp.mono ?_
  clear hgp hYo hYc hYl
  subst hY
  rintro e W8 ⟨rfl, h10, hF8, hK8⟩
  have e10 : putList T.room L (wordsN ++ [⟨1, ⟨#[83]⟩, nx⟩]) = puts cmpSym L (wordsN ++ [⟨1, ⟨#[83]⟩, nx⟩]) := by
    have := push_put (H7.out.list_).1 wordsN_valid HRM.out HNX.out
    rw [← HNXE.out] at this
    exact this
  rw [e10] at h10
  have H10 := Lib.hid h10
  have HF8 := Lib.hid hF8
  have HS8 := Lib.hid (HSW.out.kb hK8)
  clear h10 hF8 hK8 e10
  refine hK9 _ _ ?_
  clear hK9 K9
  refine wpX_nil ?_
  simp only [OnlyN_normal]
  refine hKK _ _ ?_
  clear hKK KK
  have hk7 := HKB.out.fr HGR.out hRk
  have hk8 := hk7.fr HF8.out (fun hn => hn (HDD3.out _ HK2.out))
  clear x0 x1 x2 s1 hsl hRs hRk hkV
  have x0 : W8.cell? ⟨kx, 0, none⟩ = some (.int .i64 1) := (hk8.cell 0).trans rfl
  have x1 : W8.cell? ⟨kx, 1, none⟩ = some (.string ⟨#[83]⟩) := (hk8.cell 1).trans rfl
  have x2 : W8.cell? ⟨kx, 2, none⟩ = some (.int .i64 nx) := (hk8.cell 2).trans rfl
  have hkV := hk8.lt
  have s2 : W8.cell? ⟨sb, 2, none⟩ = some (.slice A gs.length c) := (HS8.out.blk.cell 2).trans rfl
  have f2 := HS8.out.blk.frozen 2
  have hsl := HS8.out.blk.lt
  have hrdg := HS8.out.rd
  have hcm := hrdg.2.1
  have hnc := hrdg.1
  have HRDG := Lib.hid hrdg
  have e1 : IntKind.i64.wrap ((gs.length : Int) + 1) = (gs.length : Int) + 1 := IntWalk.i64_in _ (by omega)
  have hmk : ∀ W : World, (Instr.makeSlice 62 (.int .i64 0) (.int .i64 ((gs.length : Int) + 1))).run Try.prog W = .ok (.slice (some ⟨W.heap.size, 0, none⟩) 0 (gs.length + 1)) (W.alloc (.cells (madeCells (Value.cells (.agg #[.int .i64 0, .string ⟨#[]⟩, .int .i64 0, .int .i64 0, .string ⟨#[]⟩, .slice none 0 0, .int .i64 0, .string ⟨#[]⟩, .int .i64 0])) ((gs.length + 1) * 9)) 61)) := fun W => by
    have h := run_make (P := Try.prog) W 62 61 j0 _ Try.underlying62 hj0 hy0 .i64 .i64 0 ((gs.length : Int) + 1) (by omega) (by omega) (by rw [hy2]; omega) (by omega)
    rw [hy1] at h
    simpa [show ((gs.length : Int) + 1).toNat = gs.length + 1 by omega] using h
  clear hk7 hk8 hrdg
  go_wp2_with fail
  refine wp_region_E (fun w9 => Below W8.heap.size W8 w9) [(0, 0), (1, 0), (2, 0), (3, 1), (4, 0), (5, 0), (7, 0), (8, 0), (9, 0), (10, 1), (6, 2), (11, 2), (12, 0)] (by kernel_rfl) (by kernel_rfl) (fun KK hKK => ?_)
  simp only [beside, List.filterMap_cons, List.filterMap_nil, List.getElem?_toArray, List.getElem?_cons_zero, List.getElem?_cons_succ, Option.map_some]
  repeat (first | (refine wpX_w ?_ (Or.inl ⟨by rfl, fun w9 => ?_⟩) ?_; rotate_left 1; go_simp; with_reducible rfl; simp only [Act.put, List.setIfInBounds_toArray, List.set_cons_zero, List.set_cons_succ]) | (refine wpX_l ?_ (((Below.refl _ _).drew)) (Or.inl ⟨by rfl, fun w9 hw9 => ?_⟩) ?_; rotate_left 1; obtain ⟨hc9, hf9⟩ := bcell hw9; go_simp; with_reducible rfl; simp only [Act.put, List.setIfInBounds_toArray, List.set_cons_zero, List.set_cons_succ]) | (refine wpX_w undef (Or.inr ⟨by rfl, rfl⟩) ?_; simp only [Act.put, List.setIfInBounds_toArray, List.set_cons_zero, List.set_cons_succ]) | (refine wpX_l undef (((Below.refl _ _).drew)) (Or.inr ⟨by rfl, rfl⟩) ?_; simp only [Act.put, List.setIfInBounds_toArray, List.set_cons_zero, List.set_cons_succ]))
  refine wpX_es (fun K9 hK9 => ?_)
  go_simp
  refine hK9 _ _ (((Below.refl _ _).drew).alloc (Nat.le_refl _) _) ?_
  clear hK9 K9
  refine wpX_e (by kernel_rfl) (fun K9 hK9 => ?_)
  refine step_append_src _ (by rfl) _ _ _ (by rfl) 61 j0 _ 9 112 Try.underlying62 hj0 hy0 hy1 hy2 rfl (by omega) _ 0 [] (by rfl) (World.ownsRow_made _ _ _ (Nat.zero_le _) (by unfold maxLen; omega) (by simp [madeCells])) A gs.length c (gs.flatMap GoalC.cells) (by rfl) (flat_length GoalC.cells_length gs)
    ((HRDG.out.drew.alloc _).news GoalC.cells_length (by omega)) (goals_one gs) (by unfold maxLen; omega) (by omega) ?_
  intro v9 w9 hown hgr hnil hat
  refine hK9 _ _ ?_
  clear hK9 K9
  rw [Nat.zero_add, List.nil_append] at hown
  obtain ⟨A9, c9, rfl, _, _, hz⟩ := own_form2 hown
  have e9 : W8.drew.heap.size = W8.heap.size := rfl
  have hob : ∀ k, (Value.slice A9 gs.length c9).ownBlock = some k → W8.heap.size ≤ k := by
    intro k hk
    rcases hat with h | h
    · rw [h] at hk; simp [Value.ownBlock] at hk; omega
    · rw [h] at hk; simp at hk; omega
  have HB9 := Lib.hid (show Below W8.heap.size W8 w9 from (((Below.refl _ _).drew).alloc (Nat.le_refl _) _).grown hgr (by simp) (fun k hk => by simp [Value.ownBlock] at hk; omega))
  have HO9 := Lib.hid hown
  have HOB9 := Lib.hid hob
  clear hown hgr hnil hat hob hz e9
  repeat (first | (refine wpX_w ?_ (Or.inl ⟨by rfl, fun w9 => ?_⟩) ?_; rotate_left 1; go_simp; with_reducible rfl; simp only [Act.put, List.setIfInBounds_toArray, List.set_cons_zero, List.set_cons_succ]) | (refine wpX_l ?_ (((Below.refl _ _).drew).alloc (Nat.le_refl _) _) (Or.inl ⟨by rfl, fun w9 hw9 => ?_⟩) ?_; rotate_left 1; obtain ⟨hc9, hf9⟩ := bcell hw9; go_simp; with_reducible rfl; simp only [Act.put, List.setIfInBounds_toArray, List.set_cons_zero, List.set_cons_succ]) | (refine wpX_w undef (Or.inr ⟨by rfl, rfl⟩) ?_; simp only [Act.put, List.setIfInBounds_toArray, List.set_cons_zero, List.set_cons_succ]) | (refine wpX_l undef (((Below.refl _ _).drew).alloc (Nat.le_refl _) _) (Or.inr ⟨by rfl, rfl⟩) ?_; simp only [Act.put, List.setIfInBounds_toArray, List.set_cons_zero, List.set_cons_succ]))
  refine wpX_nil ?_
  simp only [OnlyN_normal]
  refine hKK _ _ ?_
  clear hKK KK
  clear hmk e1
  have hF : Fr (fun j => ¬ D j) W W8 := ((((((HF3.out.trans (Fr.of_new HBX.out)).trans (HF4.out.mono (fun j _ hj h => hj (HD.out j h)))).trans (HF5.out.mono (fun j _ hj h => hj (HD.out j h)))).trans (HF6.out.mono (fun j _ hj h => hj (HD.out j h)))).trans (Fr.of_new HBV.out)).into (Fr.of_below HBE3.out) (fun i hi => .inr (Nat.le_trans HF3.out.size hi))).trans (HF8.out.mono (fun j _ hj h => hj (HDD3.out j (HD2.out j (HD.out j h)))))
  have HFW := Lib.hid hF
  clear hF
  have y0 := (HB9.out.cell (p := ⟨kx, 0, none⟩) hkV).trans x0
  have y1 := (HB9.out.cell (p := ⟨kx, 1, none⟩) hkV).trans x1
  have y2 := (HB9.out.cell (p := ⟨kx, 2, none⟩) hkV).trans x2
  have hk9 := Nat.lt_of_lt_of_le hkV HB9.out.size
  have r2 := (HB9.out.cell (p := ⟨sb, 2, none⟩) hsl).trans s2
  have g2 := (HB9.out.frozen (p := ⟨sb, 2, none⟩) hsl).trans f2
  have hs9 := Nat.lt_of_lt_of_le hsl HB9.out.size
  clear x0 x1 x2 hkV s2 f2
  go_wp2_with fail
  refine wp_region_E (fun w => Below w9.heap.size w9 w) [(0, 0), (1, 0), (2, 1), (3, 0), (4, 0), (5, 0), (6, 2), (7, 0), (8, 2), (9, 2), (10, 0), (11, 0), (12, 2)] (by kernel_rfl) (by kernel_rfl) (fun KK hKK => ?_)
  simp only [beside, List.filterMap_cons, List.filterMap_nil, List.getElem?_toArray, List.getElem?_cons_zero, List.getElem?_cons_succ, Option.map_some]
  repeat (first | (refine wpX_w ?_ (Or.inl ⟨by rfl, fun w9 => ?_⟩) ?_; rotate_left 1; go_simp; with_reducible rfl; simp only [Act.put, List.setIfInBounds_toArray, List.set_cons_zero, List.set_cons_succ]) | (refine wpX_l ?_ (((Below.refl _ _).drew)) (Or.inl ⟨by rfl, fun w9 hw9 => ?_⟩) ?_; rotate_left 1; obtain ⟨hc9, hf9⟩ := bcell hw9; go_simp; with_reducible rfl; simp only [Act.put, List.setIfInBounds_toArray, List.set_cons_zero, List.set_cons_succ]) | (refine wpX_w undef (Or.inr ⟨by rfl, rfl⟩) ?_; simp only [Act.put, List.setIfInBounds_toArray, List.set_cons_zero, List.set_cons_succ]) | (refine wpX_l undef (((Below.refl _ _).drew)) (Or.inr ⟨by rfl, rfl⟩) ?_; simp only [Act.put, List.setIfInBounds_toArray, List.set_cons_zero, List.set_cons_succ]))
  refine wpX_es (fun K9 hK9 => ?_)
  refine step_append_src _ (by rfl) _ _ _ (by rfl) 36 i0 _ 3 32 Try.underlying32 hi0 hz0 hz1 hz2 rfl (by omega) (.slice none 0 0) 0 [] (by rfl) (owns_nil _ 0 _ _) none 0 0 [] (by rfl) rfl (fun h => absurd h (by omega)) (fun u hu => by cases hu) (by unfold maxLen; omega) (by omega) ?_
  intro v10 w10 hown hgr hnil hat
  refine hK9 _ _ (((Below.refl _ _).drew).grown hgr (by simp) (fun k hk => by simp [Value.ownBlock] at hk)) ?_
  clear hK9 K9
  rw [Nat.zero_add, List.nil_append] at hown
  obtain ⟨ia, ic, rfl, _, _, _⟩ := own_form2 hown
  have HB10 := Lib.hid (show Below w9.heap.size w9 w10 from ((Below.refl _ _).drew).grown hgr (by simp) (fun k hk => by simp [Value.ownBlock] at hk))
  have HO10 := Lib.hid hown
  have HAT10 := Lib.hid hat
  clear hown hgr hnil hat
  repeat (first | (refine wpX_w ?_ (Or.inl ⟨by rfl, fun w9 => ?_⟩) ?_; rotate_left 1; go_simp; with_reducible rfl; simp only [Act.put, List.setIfInBounds_toArray, List.set_cons_zero, List.set_cons_succ]) | (refine wpX_l ?_ (HB10.out) (Or.inl ⟨by rfl, fun w9 hw9 => ?_⟩) ?_; rotate_left 1; obtain ⟨hc9, hf9⟩ := bcell hw9; go_simp; with_reducible rfl; simp only [Act.put, List.setIfInBounds_toArray, List.set_cons_zero, List.set_cons_succ]) | (refine wpX_w undef (Or.inr ⟨by rfl, rfl⟩) ?_; simp only [Act.put, List.setIfInBounds_toArray, List.set_cons_zero, List.set_cons_succ]) | (refine wpX_l undef (HB10.out) (Or.inr ⟨by rfl, rfl⟩) ?_; simp only [Act.put, List.setIfInBounds_toArray, List.set_cons_zero, List.set_cons_succ]))
  refine wpX_e (by kernel_rfl) (fun K9 hK9 => ?_)
  go_simp
  refine hK9 _ _ ?_
  clear hK9 K9
  refine wpX_e (by kernel_rfl) (fun K9 hK9 => ?_)
  refine step_append_src _ (by rfl) _ _ _ (by rfl) 61 j0 _ 9 112 Try.underlying62 hj0 hy0 hy1 hy2 rfl (by omega) (.slice A9 gs.length c9) gs.length (gs.flatMap GoalC.cells) (by rfl) (ownsRow_new (ownsRow_new HO9.out HB10.out) ((Below.refl _ _).alloc (Nat.le_refl _) _)) (some ⟨w10.heap.size, 0, none⟩) 1 1 (GoalC.cells ⟨⟨1, ⟨#[83]⟩, nx⟩, 4, ⟨#[115, 116, 97, 116, 101]⟩, ia, 0, ic, zsym⟩) (by rfl) (by rfl)
    (fun _ => ⟨_, rfl, World.news_of_block (heap_alloc_new _ _)⟩) (GoalC.one _) (by unfold maxLen; omega) (by omega) ?_
  intro v11 w11 hown hgr hnil hat
  refine hK9 _ _ ?_
  clear hK9 K9
  obtain ⟨A11, c11, rfl, _, _, _⟩ := own_form2 hown
  have h10 := HB10.out.alloc (Nat.le_trans (Nat.le_refl _) HB10.out.size) (.cells (GoalC.cells ⟨⟨1, ⟨#[83]⟩, nx⟩, 4, ⟨#[115, 116, 97, 116, 101]⟩, ia, 0, ic, zsym⟩).toArray 61)
  have h11 := ((HB9.out.trans (h10.mono HB9.out.size))).grown hgr (by have := HB9.out.size; have := HB10.out.size; simp; omega) HOB9.out
  have c2 := (h11.cell (p := ⟨sb, 2, none⟩) hsl).trans (HS8.out.blk.cell 2)
  have z2 := (h11.frozen (p := ⟨sb, 2, none⟩) hsl).trans (HS8.out.blk.frozen 2)
  have hs11 := Nat.lt_of_lt_of_le hsl h11.size
  simp only [List.getElem?_toArray, List.getElem?_cons_zero, List.getElem?_cons_succ] at c2
  have HB11 := Lib.hid h11
  have HO11 := Lib.hid hown
  have HGR11 := Lib.hid hgr
  clear h10 h11 hown hgr hnil hat r2 g2
  repeat (first | (refine wpX_w ?_ (Or.inl ⟨by rfl, fun w9 => ?_⟩) ?_; rotate_left 1; go_simp; with_reducible rfl; simp only [Act.put, List.setIfInBounds_toArray, List.set_cons_zero, List.set_cons_succ]) | (refine wpX_l ?_ (HB10.out) (Or.inl ⟨by rfl, fun w9 hw9 => ?_⟩) ?_; rotate_left 1; obtain ⟨hc9, hf9⟩ := bcell hw9; go_simp; with_reducible rfl; simp only [Act.put, List.setIfInBounds_toArray, List.set_cons_zero, List.set_cons_succ]) | (refine wpX_w undef (Or.inr ⟨by rfl, rfl⟩) ?_; simp only [Act.put, List.setIfInBounds_toArray, List.set_cons_zero, List.set_cons_succ]) | (refine wpX_l undef (HB10.out) (Or.inr ⟨by rfl, rfl⟩) ?_; simp only [Act.put, List.setIfInBounds_toArray, List.set_cons_zero, List.set_cons_succ]))
  refine wpX_e (by kernel_rfl) (fun K9 hK9 => ?_)
  go_simp
  refine hK9 _ _ ?_
  clear hK9 K9
  refine wpX_nil ?_
  simp only [OnlyN_normal]
  refine hKK _ _ ?_
  clear hKK KK
  go_wp2_with fail
  go_ret
  have hst := HS8.out.stored HB11.out (gs' := gs ++ [⟨⟨1, ⟨#[83]⟩, nx⟩, 4, ⟨#[115, 116, 97, 116, 101]⟩, ia, 0, ic, zsym⟩]) (A' := A11) (c' := c11) (by rw [List.length_append, List.flatMap_append]; simpa using HO11.out)
  rw [List.length_append] at hst
  have hgt := (H10.out.weaken (fun j hj => HDD3.out j (HD2.out j (HD.out j hj)))).off HS8.out.blk (by decide) (by decide) (by decide) (by decide) (by decide) (by decide) hst.2
  have hrl := ownsRow_rd Sym.cells_length (l := []) HO10.out
  have hfw : Fr (fun k => (Value.slice A9 gs.length c9).ownBlock = some k ∨ k = sb) w10 (w11.setCell ⟨sb, 2, none⟩ (.slice A11 (gs.length + 1) c11)) := ((((Fr.refl _ w10).alloc _).grown HGR11.out (fun k hk => .inl (.inl hk)))).setCell (p := ⟨sb, 2, none⟩) (.inl (.inr rfl)) _
  have hro := hrl.fr hfw (fun a ha hm => by
    subst ha
    have hab : a.block = w9.heap.size := by
      rcases HAT10.out with h | h
      · simp [Value.ownBlock] at h
      · simpa [Value.ownBlock] using h
    rcases hm with hm | hm
    · rcases ownsRow_form HO9.out with ⟨hv, _⟩ | ⟨g, cap, hv, _, _, hr, _⟩
      · injection hv with hv; subst hv; simp [Value.ownBlock] at hm
      · injection hv with hv; subst hv
        have h1 := hr.lt
        simp [Value.ownBlock] at hm
        omega
    · omega)
  refine ⟨rfl, ?_⟩
  unfold PushTo
  rw [← HNXE.out]
  exact ⟨HFW.out.trans (hst.2.mono (fun j _ hj hd => HSD.out (hj ▸ hd))), A11, c11, ia, ic, hgt, hst.1, hro⟩
end Go.Proofs.Ythogokcbbkjcdaa
