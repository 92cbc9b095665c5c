/-
  The law on what is kept of things that are one: its walk.
-/
import Derived.Test.YthhhhjllpejpgaaKitWakes
import Derived.Test.YthhhhjllpejpgaaKeptPlain
import Derived.Test.YthhhhjllpejpgaaKeptSt
import Derived.Test.YthhhhjllpejpgaaKeptCopy
import Derived.Test.YthhhhjllpejpgaaKeepElems
import Derived.Test.YthhhhjllpejpgaaRefSortE
import Derived.Test.YthhhhjllpejpgaaRefFindE
import Derived.Test.YthhhhjllpejpgaaListElem
namespace Go.Proofs.Ythhhhjllpejpgaa
open Go.RowKit
set_option maxRecDepth 100000 in
set_option maxHeartbeats 16000000 in
theorem kept_walk (A B : Option Addr) (ca cb : Nat) (a b : List Elem) (w : World) (hla : RowRd w 12 Elem.cells A ca a) (hlb : RowRd w 12 Elem.cells B cb b) :
    Calls Try.prog 8 #[.slice A a.length ca, .slice B b.length cb] w fun e w' => e = .returned (.bool true) ∧ Below w.heap.size w w' := by
  obtain ⟨i0, hi0, hz0, hz1, hz2⟩ := info_parts info_Elem
  have HLA := Lib.hid hla
  have HLB := Lib.hid hlb
  clear hla hlb
  by_cases h1 : 40 < a.length
  · have t1 : decide ((40 : Int) < (a.length : Int)) = true := by simp; omega
    clear h1
    go_enter Try.func8, Try.ntmps8
    go_wp2_with fail
    refine (wakes_is _).mono ?_
    rintro e w1 ⟨rfl, hB⟩
    have HB := Lib.hid hB
    clear hB
    go_wp2_with fail
    go_ret
    exact ⟨rfl, HB.out⟩
  by_cases h2 : 40 < b.length
  · have t1 : decide ((40 : Int) < (a.length : Int)) = false := by simp; omega
    have t2 : decide ((40 : Int) < (b.length : Int)) = true := by simp; omega
    clear h1 h2
    go_enter Try.func8, Try.ntmps8
    go_wp2_with fail
    refine (wakes_is _).mono ?_
    rintro e w1 ⟨rfl, hB⟩
    have HB := Lib.hid hB
    clear hB
    go_wp2_with fail
    go_ret
    exact ⟨rfl, HB.out⟩
  have t1 : decide ((40 : Int) < (a.length : Int)) = false := by simp; omega
  have t2 : decide ((40 : Int) < (b.length : Int)) = false := by simp; omega
  have ha40 : a.length ≤ 40 := by omega
  have hb40 : b.length ≤ 40 := by omega
  clear h1 h2
  go_enter Try.func8, Try.ntmps8
  have H0 := Lib.hid (StE.start w)
  go_wp2_with fail
  refine (H0.out.new_ A ca a HLA.out (by omega)).mono ?_
  rintro e w1 ⟨x, S1, rfl, gx, _, hsx, h⟩
  obtain ⟨X, hX⟩ : ∃ X, X = puts cmpElem [] a := ⟨_, rfl⟩
  rw [← hX] at gx hsx
  have NX : X.length ≤ 40 := by
    have := length_puts_le tc_elem a (Srt.nil (cmp := cmpElem))
    rw [hX]; simp at this; omega
  have HX := Lib.hid hX
  have HSX := Lib.hid hsx
  have GX1 := Lib.hid gx
  have H1 := Lib.hid h
  clear hX hsx gx h
  go_wp2_with fail
  refine (H1.out.new_ B cb b (HLB.out.new_ H1.out.bel) (by omega)).mono ?_
  rintro e w2 ⟨y, S2, rfl, gy, hk, hsy, h⟩
  obtain ⟨Y, hY⟩ : ∃ X, X = puts cmpElem [] b := ⟨_, rfl⟩
  rw [← hY] at gy hsy
  have NY : Y.length ≤ 40 := by
    have := length_puts_le tc_elem b (Srt.nil (cmp := cmpElem))
    rw [hY]; simp at this; omega
  have HY := Lib.hid hY
  have HSY := Lib.hid hsy
  have GX2 := Lib.hid (hk _ _ GX1.out)
  have GY2 := Lib.hid gy
  have H2 := Lib.hid h
  clear hY hsy gy h hk
  go_wp2_with fail
  refine (sortE_is A ca a w2 (HLA.out.new_ H2.out.bel) (by omega)).mono ?_
  rintro e w3 ⟨Ap, cp, rfl, hr, hA, hB⟩
  rw [← HX.out] at hr ⊢
  have H3 := Lib.hid (H2.out.row hB hr hA)
  clear hr hA hB
  go_wp2_with fail
  refine (sortE_is B cb b w3 (HLB.out.new_ H3.out.bel) (by omega)).mono ?_
  rintro e w4 ⟨Aq, cq, rfl, hr, hA, hB⟩
  rw [← HY.out] at hr ⊢
  have H4 := Lib.hid (H3.out.row hB hr hA)
  clear hr hA hB
  go_wp2_with fail
  refine (mkall_Elem x w4).mono ?_
  rintro e w5 ⟨rfl, hB, hbox⟩
  have H5 := Lib.hid (H4.out.quiet hB)
  have HBOX := Lib.hid hbox
  clear hB hbox
  go_wp2_with fail
  refine (H5.out.list _ GX2.out HBOX.out (by omega)).mono ?_
  rintro e w6 ⟨Ax, cx, rfl, hr, h⟩
  have H6 := Lib.hid h
  have HR6 := Lib.hid hr
  clear h hr HBOX
  go_wp2_with fail
  refine (elems_is Ax Ap cx cp X X w6 HR6.out (H6.out.rd (by simp))).mono ?_
  rintro e w7 ⟨rfl, hB⟩
  rw [decide_eq_true rfl]
  have H7 := Lib.hid (H6.out.quiet hB)
  clear hB HR6
  go_wp2_with fail
  refine (H7.out.union GX2.out GY2.out (by omega)).mono ?_
  rintro e w8 ⟨u, S8, rfl, gu, hk, hsu, h⟩
  obtain ⟨U, hU⟩ : ∃ L, L = puts cmpElem X Y := ⟨_, rfl⟩
  rw [← hU] at gu hsu
  have NU : U.length ≤ 80 := by
    have := length_puts_le tc_elem Y HSX.out
    rw [hU]; omega
  have HU := Lib.hid hU
  have GX8 := Lib.hid (hk _ _ GX2.out)
  have GY8 := Lib.hid (hk _ _ GY2.out)
  have GU8 := Lib.hid gu
  have H8 := Lib.hid h
  clear hU hsu gu h hk
  go_wp2_with fail
  refine (H8.out.meet GX8.out GY8.out (by omega) (by omega)).mono ?_
  rintro e w9 ⟨m, S9, rfl, gm, hk, hsm, h⟩
  obtain ⟨M, hM⟩ : ∃ M, M = X.filter fun x => has cmpElem Y x := ⟨_, rfl⟩
  rw [← hM] at gm hsm
  have NM : M.length ≤ 40 := by
    have := List.length_filter_le (fun x => has cmpElem Y x) X
    rw [hM]; omega
  have HM := Lib.hid hM
  have GX9 := Lib.hid (hk _ _ GX8.out)
  have GU9 := Lib.hid (hk _ _ GU8.out)
  have GM9 := Lib.hid gm
  have H9 := Lib.hid h
  clear hM hsm gm h hk
  go_wp2_with fail
  refine (copyE_is Ap cp X w9 (H9.out.rd (by simp)) (by omega)).mono ?_
  rintro e w10 ⟨v1, rfl, ho1, hv1, hB⟩
  have HO1 := Lib.hid ho1
  have HV1 := Lib.hid hv1
  have HB10 := Lib.hid hB
  have H10 := Lib.hid (H9.out.quiet hB)
  have hcq := (H10.out.rd (A := Aq) (c := cq) (l := Y) (by simp)).cap
  clear ho1 hv1 hB
  have HNW := Lib.hid ((H10.out.rd (A := Aq) (c := cq) (l := Y) (by simp)).news Elem.cells_length (by omega))
  have hsz1 : X.length + Y.length ≤ maxLen := by unfold maxLen; omega
  have hsz2 : (X.length + Y.length) * 112 ≤ 140737488355328 := by omega
  go_wp2_with (at_builtin; go_loud (refine wpList_append_src w10 rfl (.tmp 63) (.tmp 64) 68 rfl 72 i0 _ 12 112 Try.underlying68 hi0 hz0 hz1 hz2 rfl (by omega) v1 X.length (X.flatMap Elem.cells) rfl HO1.out Aq Y.length cq (Y.flatMap Elem.cells) rfl (flat_length Elem.cells_length _) HNW.out (Elem.oneAll _) hsz1 hsz2 ?_); intro v2 w11 hown2 hg2 hnil2 hat2)
  have hv2 := fresh_own (B := w9.heap.size) hat2 HV1.out HB10.out.size
  have hB11 := HB10.out.grown hg2 HB10.out.size HV1.out
  obtain ⟨A11, c11, rfl, hr11, hA11⟩ := own_rdE (w := w9) (l := X ++ Y) (n := w9.heap.size) (Nat.le_refl _) (by rw [List.length_append, List.flatMap_append]; exact hown2) hv2
  have H11 := Lib.hid (H9.out.quiet hB11)
  have HR11 := Lib.hid hr11
  clear hv2 hB11 hr11 hA11 hown2 hg2 hnil2 hat2 HV1 HO1 HB10 H10 hsz1 hsz2 HNW
  refine (sortE_is A11 c11 (X ++ Y) w11 HR11.out (by simp; omega)).mono ?_
  rintro e w12 ⟨Ab, cb', rfl, hr, hA, hB⟩
  rw [puts_two HSX.out, ← HU.out] at hr ⊢
  have H12 := Lib.hid (H11.out.row hB hr hA)
  clear hr hA hB HR11 H11 H9 H8 H7 H6 H5 H4 H3 H2 H1 H0
  go_wp2_with fail
  have hB0 := Below.refl w12.heap.size w12
  go_loopw [12, 13] (fun va s wr => ∃ i : Nat, s = .int .i64 i ∧ i ≤ X.length ∧ wr.ownsRow 0 72 12 va ((X.take i).filter fun x => has cmpElem Y x).length (((X.take i).filter fun x => has cmpElem Y x).flatMap Elem.cells) ∧ (∀ k, va.ownBlock = some k → w12.heap.size ≤ k) ∧ Below w12.heap.size w12 wr) (fun va s wr => X.length - (intOf s).toNat)
  case atStart => exact ⟨0, rfl, Nat.zero_le _, owns_nil _ _ _ _, fun k hk => by simp [Value.ownBlock] at hk, Below.refl _ _⟩
  case round =>
    obtain ⟨i, rfl, hi, ho, hv, hB⟩ := hrel
    have HO := Lib.hid ho
    have HV := Lib.hid hv
    have HB := Lib.hid hB
    have hzr := hB.size
    have HW := Lib.hid (H12.out.quiet hB)
    clear ho hv hB
    by_cases hlt : i < X.length
    · have g1 : decide ((i : Int) < (X.length : Int)) = true := by simpa using hlt
      have b1 : (0 : Int) ≤ (i : Int) := by omega
      have b2 : (i : Int) < (X.length : Int) := by omega
      obtain ⟨z, hz⟩ : ∃ z, z = X[i] := ⟨_, rfl⟩
      obtain ⟨g, off, rfl, hgs, q0, q1, q2, q3, q4, q5, q6, q7, q8, q9, q10, q11⟩ := elem_rd (HW.out.rd (A := Ap) (c := cp) (l := X) (by simp)) hlt
      rw [← hz] at q0 q1 q2 q3 q4 q5 q6 q7 q8 q9 q10 q11
      have HZ := Lib.hid hz
      clear hz
      go_wp2_with fail
      refine (findE_is Aq cq Y z _ (HW.out.rd (by simp))).mono ?_
      rintro e w1 ⟨he, hB1⟩
      have HB1 := Lib.hid hB1
      have HE := Lib.hid he
      clear hB1 he
      cases hf : Y.find? (fun y => oneE y z) with
      | none =>
        obtain rfl := HE.out.2 hf
        clear q0 q1 q2 q3 q4 q5 q6 q7 q8 q9 q10 q11
        have HTH := Lib.hid (show (w1.alloc (.cells #[.int .i64 0, .string ⟨#[]⟩, .int .i64 0, .int .i64 0, .string ⟨#[]⟩, .int .i64 0, .int .i64 0, .string ⟨#[]⟩, .int .i64 0, .bool false, .bool false, .int .i64 0] 72)).there w1.heap.size 0 (#[.int .i64 0, .string ⟨#[]⟩, .int .i64 0, .int .i64 0, .string ⟨#[]⟩, .int .i64 0, .int .i64 0, .string ⟨#[]⟩, .int .i64 0, .bool false, .bool false, .int .i64 0] : Array Value).size from (Blk.new w1 72 #[.int .i64 0, .string ⟨#[]⟩, .int .i64 0, .int .i64 0, .string ⟨#[]⟩, .int .i64 0, .int .i64 0, .string ⟨#[]⟩, .int .i64 0, .bool false, .bool false, .int .i64 0]).there)
        go_wp2_with (with_reducible refine wpList_store_mid rfl 72 _ _ rfl w1.heap.size 0 #[.int .i64 0, .string ⟨#[]⟩, .int .i64 0, .int .i64 0, .string ⟨#[]⟩, .int .i64 0, .int .i64 0, .string ⟨#[]⟩, .int .i64 0, .bool false, .bool false, .int .i64 0] rfl rfl HTH.out (by kernel_rfl) (by kernel_rfl) ?_)
        go_roundw
        case rel =>
          have hh : has cmpElem Y z = false := by rw [find_has, hf]; rfl
          have e2 : (X.take (i + 1)).filter (fun x => has cmpElem Y x) = (X.take i).filter (fun x => has cmpElem Y x) := by
            rw [take_snocE hlt, List.filter_append, ← HZ.out]; simp [hh]
          have hbb : Below wr.heap.size wr ((w1.alloc (.cells #[.int .i64 0, .string ⟨#[]⟩, .int .i64 0, .int .i64 0, .string ⟨#[]⟩, .int .i64 0, .int .i64 0, .string ⟨#[]⟩, .int .i64 0, .bool false, .bool false, .int .i64 0] 72)).setCells w1.heap.size 0 [.int .i64 0, .string ⟨#[]⟩, .int .i64 0, .int .i64 0, .string ⟨#[]⟩, .int .i64 0, .int .i64 0, .string ⟨#[]⟩, .int .i64 0, .bool false, .bool false, .int .i64 0]) := Below.setCells' _ _ (HB1.out.alloc HB1.out.size _) HB1.out.size
          refine ⟨i + 1, by go_num, by omega, ?_, HV.out, HB.out.trans (hbb.mono hzr)⟩
          rw [e2]
          exact ownsRow_new HO.out hbb
        case measure => simp [intOf] <;> omega
      | some y' =>
        obtain rfl := HE.out.1 y' hf
        clear q0 q1 q2 q3 q4 q5 q6 q7 q8 q9 q10 q11
        have HTH := Lib.hid (show (w1.alloc (.cells #[.int .i64 0, .string ⟨#[]⟩, .int .i64 0, .int .i64 0, .string ⟨#[]⟩, .int .i64 0, .int .i64 0, .string ⟨#[]⟩, .int .i64 0, .bool false, .bool false, .int .i64 0] 72)).there w1.heap.size 0 (#[.int .i64 y'.id.kind, .string y'.id.text, .int .i64 y'.id.n, .int .i64 y'.attr.kind, .string y'.attr.text, .int .i64 y'.attr.n, .int .i64 y'.value.kind, .string y'.value.text, .int .i64 y'.value.n, .bool y'.acc, .bool y'.goal, .int .i64 y'.tag] : Array Value).size from (Blk.new w1 72 #[.int .i64 0, .string ⟨#[]⟩, .int .i64 0, .int .i64 0, .string ⟨#[]⟩, .int .i64 0, .int .i64 0, .string ⟨#[]⟩, .int .i64 0, .bool false, .bool false, .int .i64 0]).there)
        obtain ⟨W3, hW3⟩ : ∃ W3, W3 = (w1.alloc (.cells #[.int .i64 0, .string ⟨#[]⟩, .int .i64 0, .int .i64 0, .string ⟨#[]⟩, .int .i64 0, .int .i64 0, .string ⟨#[]⟩, .int .i64 0, .bool false, .bool false, .int .i64 0] 72)).setCells w1.heap.size 0 [.int .i64 y'.id.kind, .string y'.id.text, .int .i64 y'.id.n, .int .i64 y'.attr.kind, .string y'.attr.text, .int .i64 y'.attr.n, .int .i64 y'.value.kind, .string y'.value.text, .int .i64 y'.value.n, .bool y'.acc, .bool y'.goal, .int .i64 y'.tag] := ⟨_, rfl⟩
        have hbb : Below wr.heap.size wr W3 := by rw [hW3]; exact Below.setCells' _ _ (HB1.out.alloc HB1.out.size _) HB1.out.size
        have HBB := Lib.hid hbb
        have hz3 := hbb.size
        clear hbb
        obtain ⟨g', off', e', hgs', q0, q1, q2, q3, q4, q5, q6, q7, q8, q9, q10, q11⟩ := elem_rd ((HW.out.quiet HBB.out).rd (A := some ⟨g, off, none⟩) (c := cp) (l := X) (by simp)) hlt
        cases e'
        rw [← HZ.out] at q0 q1 q2 q3 q4 q5 q6 q7 q8 q9 q10 q11
        have HO3 := Lib.hid (ownsRow_new HO.out HBB.out)
        obtain ⟨F, hF⟩ : ∃ F, F = (X.take i).filter fun x => has cmpElem Y x := ⟨_, rfl⟩
        rw [← hF] at HO3
        have hFl : F.length ≤ X.length := by
          have h1 := List.length_filter_le (fun x => has cmpElem Y x) (X.take i)
          rw [← hF, List.length_take] at h1; omega
        have hs1 : F.length + 1 ≤ maxLen := by unfold maxLen; omega
        have hs2 : (F.length + 1) * 112 ≤ 140737488355328 := by omega
        have HF := Lib.hid hF
        have HW3 := Lib.hid hW3
        clear hF hW3
        go_wp2_with (first
          | ((with_reducible refine wpList_store_mid rfl 72 _ _ rfl w1.heap.size 0 #[.int .i64 y'.id.kind, .string y'.id.text, .int .i64 y'.id.n, .int .i64 y'.attr.kind, .string y'.attr.text, .int .i64 y'.attr.n, .int .i64 y'.value.kind, .string y'.value.text, .int .i64 y'.value.n, .bool y'.acc, .bool y'.goal, .int .i64 y'.tag] rfl rfl HTH.out (by kernel_rfl) (by kernel_rfl) ?_); rw [← HW3.out])
          | (at_builtin; refine wpList_append_src (W3.alloc (.cells #[.int .i64 z.id.kind, .string z.id.text, .int .i64 z.id.n, .int .i64 z.attr.kind, .string z.attr.text, .int .i64 z.attr.n, .int .i64 z.value.kind, .string z.value.text, .int .i64 z.value.n, .bool z.acc, .bool z.goal, .int .i64 z.tag] 72)) rfl (.tmp 83) (.tmp 88) 68 rfl 72 i0 _ 12 112 Try.underlying68 hi0 hz0 hz1 hz2 rfl (by omega) u12 F.length (F.flatMap Elem.cells) rfl (ownsRow_new HO3.out ((Below.refl _ _).alloc (Nat.le_refl _) _)) (some ⟨W3.heap.size, 0, none⟩) 1 1 (Elem.cells z) rfl rfl (fun _ => ⟨_, rfl, World.news_of_block (heap_alloc_new _ _)⟩) (Elem.one z) hs1 hs2 ?_; intro v2 w4 hown2 hg2 hnil2 hat2))
        have hv2 := fresh_own (B := w12.heap.size) hat2 HV.out (by simp; omega)
        have HB4 := Lib.hid (((HB.out.trans (HBB.out.mono hzr)).alloc (by omega) (.cells #[.int .i64 z.id.kind, .string z.id.text, .int .i64 z.id.n, .int .i64 z.attr.kind, .string z.attr.text, .int .i64 z.attr.n, .int .i64 z.value.kind, .string z.value.text, .int .i64 z.value.n, .bool z.acc, .bool z.goal, .int .i64 z.tag] 72)).grown hg2 (by simp; omega) HV.out)
        clear q0 q1 q2 q3 q4 q5 q6 q7 q8 q9 q10 q11
        go_roundw
        case rel =>
          have hh : has cmpElem Y z = true := by rw [find_has, hf]; rfl
          have e2 : (X.take (i + 1)).filter (fun x => has cmpElem Y x) = F ++ [z] := by
            rw [take_snocE hlt, List.filter_append, ← HZ.out, HF.out]; simp [hh]
          refine ⟨i + 1, by go_num, by omega, ?_, hv2, HB4.out⟩
          rw [e2, List.length_append, List.flatMap_append]
          simpa using hown2
        case measure => simp [intOf] <;> omega
    · have hie : i = X.length := by omega
      subst hie
      have g1 : decide ((X.length : Int) < (X.length : Int)) = false := by simp
      have e0 : (X.take X.length).filter (fun x => has cmpElem Y x) = M := by rw [List.take_length, HM.out]
      obtain ⟨Am, cm, rfl, hrm, hAm⟩ := own_rdE (w := w12) (l := M) (n := w12.heap.size) (Nat.le_refl _) (by rw [← e0]; exact HO.out) HV.out
      have H13 := Lib.hid (H12.out.row HB.out hrm hAm)
      obtain ⟨w13, hw13⟩ : ∃ w13, w13 = wr := ⟨_, rfl⟩
      rw [← hw13] at H13 ⊢
      clear hrm hAm e0 HO HV HB HW hzr hw13
      go_wp2_with fail
      go_loopw [16] (fun s W => ∃ i : Nat, s = .int .i64 i ∧ i ≤ a.length ∧ Below w13.heap.size w13 W) (fun s W => a.length - (intOf s).toNat)
      case atStart => exact ⟨0, rfl, Nat.zero_le _, Below.refl _ _⟩
      case round =>
        obtain ⟨i, rfl, hi, hB⟩ := hrel
        have HB := Lib.hid hB
        have hzr := hB.size
        have HW := Lib.hid (H13.out.quiet hB)
        clear hB
        by_cases hlt : i < a.length
        · have g1 : decide ((i : Int) < (a.length : Int)) = true := by simpa using hlt
          have b1 : (0 : Int) ≤ (i : Int) := by omega
          have b2 : (i : Int) < (a.length : Int) := by omega
          obtain ⟨f', hf1, hh, hy⟩ := first_got hlt HX.out HSX.out
          obtain ⟨z, hz⟩ : ∃ z, z = a[i] := ⟨_, rfl⟩
          rw [← hz] at hf1 hh hy
          obtain ⟨g, off, rfl, hgs, q0, q1, q2, q3, q4, q5, q6, q7, q8, q9, q10, q11⟩ := elem_rd (HLA.out.new_ HW.out.bel) hlt
          rw [← hz] at q0 q1 q2 q3 q4 q5 q6 q7 q8 q9 q10 q11
          have HZ := Lib.hid hz
          have HF1 := Lib.hid hf1
          clear hz hf1
          go_wp2_with fail
          refine (HW.out.get GX9.out z f' (by omega) hh hy).mono ?_
          rintro e w14 ⟨rfl, hB1⟩
          have HB1 := Lib.hid hB1
          clear q0 q1 q2 q3 q4 q5 q6 q7 q8 q9 q10 q11 hB1 hh hy
          have HTH := Lib.hid (show (w14.alloc (.cells #[.int .i64 0, .string ⟨#[]⟩, .int .i64 0, .int .i64 0, .string ⟨#[]⟩, .int .i64 0, .int .i64 0, .string ⟨#[]⟩, .int .i64 0, .bool false, .bool false, .int .i64 0] 72)).there w14.heap.size 0 (#[.int .i64 f'.id.kind, .string f'.id.text, .int .i64 f'.id.n, .int .i64 f'.attr.kind, .string f'.attr.text, .int .i64 f'.attr.n, .int .i64 f'.value.kind, .string f'.value.text, .int .i64 f'.value.n, .bool f'.acc, .bool f'.goal, .int .i64 f'.tag] : Array Value).size from (Blk.new w14 72 #[.int .i64 0, .string ⟨#[]⟩, .int .i64 0, .int .i64 0, .string ⟨#[]⟩, .int .i64 0, .int .i64 0, .string ⟨#[]⟩, .int .i64 0, .bool false, .bool false, .int .i64 0]).there)
          obtain ⟨W3, hW3⟩ : ∃ W3, W3 = (w14.alloc (.cells #[.int .i64 0, .string ⟨#[]⟩, .int .i64 0, .int .i64 0, .string ⟨#[]⟩, .int .i64 0, .int .i64 0, .string ⟨#[]⟩, .int .i64 0, .bool false, .bool false, .int .i64 0] 72)).setCells w14.heap.size 0 [.int .i64 f'.id.kind, .string f'.id.text, .int .i64 f'.id.n, .int .i64 f'.attr.kind, .string f'.attr.text, .int .i64 f'.attr.n, .int .i64 f'.value.kind, .string f'.value.text, .int .i64 f'.value.n, .bool f'.acc, .bool f'.goal, .int .i64 f'.tag] := ⟨_, rfl⟩
          have HBB := Lib.hid (show Below wr.heap.size wr W3 by rw [hW3]; exact Below.setCells' _ _ (HB1.out.alloc HB1.out.size _) HB1.out.size)
          have hk3 : w14.heap.size < W3.heap.size := by
            have h1 : Below w14.heap.size (w14.alloc (.cells #[.int .i64 0, .string ⟨#[]⟩, .int .i64 0, .int .i64 0, .string ⟨#[]⟩, .int .i64 0, .int .i64 0, .string ⟨#[]⟩, .int .i64 0, .bool false, .bool false, .int .i64 0] 72)) W3 := by rw [hW3]; exact Below.setCells' _ _ (Below.refl _ _) (Nat.le_refl _)
            have h2 := h1.size
            simp at h2; omega
          have HRG := Lib.hid (show W3.rangeAt w14.heap.size 0 [.int .i64 f'.id.kind, .string f'.id.text, .int .i64 f'.id.n, .int .i64 f'.attr.kind, .string f'.attr.text, .int .i64 f'.attr.n, .int .i64 f'.value.kind, .string f'.value.text, .int .i64 f'.value.n, .bool f'.acc, .bool f'.goal, .int .i64 f'.tag] by rw [hW3]; exact World.rangeAt_setCells_same _ w14.heap.size 0 [.int .i64 f'.id.kind, .string f'.id.text, .int .i64 f'.id.n, .int .i64 f'.attr.kind, .string f'.attr.text, .int .i64 f'.attr.n, .int .i64 f'.value.kind, .string f'.value.text, .int .i64 f'.value.n, .bool f'.acc, .bool f'.goal, .int .i64 f'.tag] HTH.out)
          have hz3 := HBB.out.size
          have HW3 := Lib.hid hW3
          clear hW3
          obtain ⟨g', off', e', hgs', q0, q1, q2, q3, q4, q5, q6, q7, q8, q9, q10, q11⟩ := elem_rd (HLA.out.new_ ((HW.out.quiet HBB.out).bel)) hlt
          cases e'
          rw [← HZ.out] at q0 q1 q2 q3 q4 q5 q6 q7 q8 q9 q10 q11
          go_wp2_with ((with_reducible refine wpList_store_mid rfl 72 _ _ rfl w14.heap.size 0 #[.int .i64 f'.id.kind, .string f'.id.text, .int .i64 f'.id.n, .int .i64 f'.attr.kind, .string f'.attr.text, .int .i64 f'.attr.n, .int .i64 f'.value.kind, .string f'.value.text, .int .i64 f'.value.n, .bool f'.acc, .bool f'.goal, .int .i64 f'.tag] rfl rfl HTH.out (by kernel_rfl) (by kernel_rfl) ?_); rw [← HW3.out])
          refine (findE_is (some ⟨g, off, none⟩) ca a z W3 (HLA.out.new_ ((HW.out.quiet HBB.out).bel))).mono ?_
          rintro e w15 ⟨he, hB2⟩
          obtain rfl := he.1 f' HF1.out
          have HB2 := Lib.hid hB2
          clear he hB2 q0 q1 q2 q3 q4 q5 q6 q7 q8 q9 q10 q11 HTH
          have HTH := Lib.hid (show (w15.alloc (.cells #[.int .i64 0, .string ⟨#[]⟩, .int .i64 0, .int .i64 0, .string ⟨#[]⟩, .int .i64 0, .int .i64 0, .string ⟨#[]⟩, .int .i64 0, .bool false, .bool false, .int .i64 0] 72)).there w15.heap.size 0 (#[.int .i64 f'.id.kind, .string f'.id.text, .int .i64 f'.id.n, .int .i64 f'.attr.kind, .string f'.attr.text, .int .i64 f'.attr.n, .int .i64 f'.value.kind, .string f'.value.text, .int .i64 f'.value.n, .bool f'.acc, .bool f'.goal, .int .i64 f'.tag] : Array Value).size from (Blk.new w15 72 #[.int .i64 0, .string ⟨#[]⟩, .int .i64 0, .int .i64 0, .string ⟨#[]⟩, .int .i64 0, .int .i64 0, .string ⟨#[]⟩, .int .i64 0, .bool false, .bool false, .int .i64 0]).there)
          obtain ⟨W5, hW5⟩ : ∃ W5, W5 = (w15.alloc (.cells #[.int .i64 0, .string ⟨#[]⟩, .int .i64 0, .int .i64 0, .string ⟨#[]⟩, .int .i64 0, .int .i64 0, .string ⟨#[]⟩, .int .i64 0, .bool false, .bool false, .int .i64 0] 72)).setCells w15.heap.size 0 [.int .i64 f'.id.kind, .string f'.id.text, .int .i64 f'.id.n, .int .i64 f'.attr.kind, .string f'.attr.text, .int .i64 f'.attr.n, .int .i64 f'.value.kind, .string f'.value.text, .int .i64 f'.value.n, .bool f'.acc, .bool f'.goal, .int .i64 f'.tag] := ⟨_, rfl⟩
          have HBC := Lib.hid (show Below W3.heap.size W3 W5 by rw [hW5]; exact Below.setCells' _ _ (HB2.out.alloc HB2.out.size _) HB2.out.size)
          have HRG2 := Lib.hid (show W5.rangeAt w15.heap.size 0 [.int .i64 f'.id.kind, .string f'.id.text, .int .i64 f'.id.n, .int .i64 f'.attr.kind, .string f'.attr.text, .int .i64 f'.attr.n, .int .i64 f'.value.kind, .string f'.value.text, .int .i64 f'.value.n, .bool f'.acc, .bool f'.goal, .int .i64 f'.tag] by rw [hW5]; exact World.rangeAt_setCells_same _ w15.heap.size 0 [.int .i64 f'.id.kind, .string f'.id.text, .int .i64 f'.id.n, .int .i64 f'.attr.kind, .string f'.attr.text, .int .i64 f'.attr.n, .int .i64 f'.value.kind, .string f'.value.text, .int .i64 f'.value.n, .bool f'.acc, .bool f'.goal, .int .i64 f'.tag] HTH.out)
          have HRG1 := Lib.hid (rangeAt_below HRG.out HBC.out hk3)
          have HW5 := Lib.hid hW5
          have hne := fun W => neq_elem f' f' W
          have hff : decide (f' = f') = true := decide_eq_true rfl
          simp only [hff, Bool.not_true] at hne
          have c0 : W5.cell? ⟨w14.heap.size, 0, none⟩ = some (.int .i64 f'.id.kind) := HRG1.out 0 _ rfl
          have d0 : W5.cell? ⟨w15.heap.size, 0, none⟩ = some (.int .i64 f'.id.kind) := HRG2.out 0 _ rfl
          have c1 : W5.cell? ⟨w14.heap.size, 1, none⟩ = some (.string f'.id.text) := HRG1.out 1 _ rfl
          have d1 : W5.cell? ⟨w15.heap.size, 1, none⟩ = some (.string f'.id.text) := HRG2.out 1 _ rfl
          have c2 : W5.cell? ⟨w14.heap.size, 2, none⟩ = some (.int .i64 f'.id.n) := HRG1.out 2 _ rfl
          have d2 : W5.cell? ⟨w15.heap.size, 2, none⟩ = some (.int .i64 f'.id.n) := HRG2.out 2 _ rfl
          have c3 : W5.cell? ⟨w14.heap.size, 3, none⟩ = some (.int .i64 f'.attr.kind) := HRG1.out 3 _ rfl
          have d3 : W5.cell? ⟨w15.heap.size, 3, none⟩ = some (.int .i64 f'.attr.kind) := HRG2.out 3 _ rfl
          have c4 : W5.cell? ⟨w14.heap.size, 4, none⟩ = some (.string f'.attr.text) := HRG1.out 4 _ rfl
          have d4 : W5.cell? ⟨w15.heap.size, 4, none⟩ = some (.string f'.attr.text) := HRG2.out 4 _ rfl
          have c5 : W5.cell? ⟨w14.heap.size, 5, none⟩ = some (.int .i64 f'.attr.n) := HRG1.out 5 _ rfl
          have d5 : W5.cell? ⟨w15.heap.size, 5, none⟩ = some (.int .i64 f'.attr.n) := HRG2.out 5 _ rfl
          have c6 : W5.cell? ⟨w14.heap.size, 6, none⟩ = some (.int .i64 f'.value.kind) := HRG1.out 6 _ rfl
          have d6 : W5.cell? ⟨w15.heap.size, 6, none⟩ = some (.int .i64 f'.value.kind) := HRG2.out 6 _ rfl
          have c7 : W5.cell? ⟨w14.heap.size, 7, none⟩ = some (.string f'.value.text) := HRG1.out 7 _ rfl
          have d7 : W5.cell? ⟨w15.heap.size, 7, none⟩ = some (.string f'.value.text) := HRG2.out 7 _ rfl
          have c8 : W5.cell? ⟨w14.heap.size, 8, none⟩ = some (.int .i64 f'.value.n) := HRG1.out 8 _ rfl
          have d8 : W5.cell? ⟨w15.heap.size, 8, none⟩ = some (.int .i64 f'.value.n) := HRG2.out 8 _ rfl
          have c9 : W5.cell? ⟨w14.heap.size, 9, none⟩ = some (.bool f'.acc) := HRG1.out 9 _ rfl
          have d9 : W5.cell? ⟨w15.heap.size, 9, none⟩ = some (.bool f'.acc) := HRG2.out 9 _ rfl
          have c10 : W5.cell? ⟨w14.heap.size, 10, none⟩ = some (.bool f'.goal) := HRG1.out 10 _ rfl
          have d10 : W5.cell? ⟨w15.heap.size, 10, none⟩ = some (.bool f'.goal) := HRG2.out 10 _ rfl
          have c11 : W5.cell? ⟨w14.heap.size, 11, none⟩ = some (.int .i64 f'.tag) := HRG1.out 11 _ rfl
          have d11 : W5.cell? ⟨w15.heap.size, 11, none⟩ = some (.int .i64 f'.tag) := HRG2.out 11 _ rfl
          clear hW5 hff
          go_wp2_with ((with_reducible refine wpList_store_mid rfl 72 _ _ rfl w15.heap.size 0 #[.int .i64 f'.id.kind, .string f'.id.text, .int .i64 f'.id.n, .int .i64 f'.attr.kind, .string f'.attr.text, .int .i64 f'.attr.n, .int .i64 f'.value.kind, .string f'.value.text, .int .i64 f'.value.n, .bool f'.acc, .bool f'.goal, .int .i64 f'.tag] rfl rfl HTH.out (by kernel_rfl) (by kernel_rfl) ?_); rw [← HW5.out])
          go_roundw
          case rel => exact ⟨i + 1, by go_num, by omega, HB.out.trans ((HBB.out.trans (HBC.out.mono hz3)).mono hzr)⟩
          case measure => simp [intOf] <;> omega
        · have hie : i = a.length := by omega
          subst hie
          have g1 : decide ((a.length : Int) < (a.length : Int)) = false := by simp
          go_wp2_with fail
          refine (mkall_Elem u wr).mono ?_
          rintro e w20 ⟨rfl, hB, hbox⟩
          have H20 := Lib.hid (HW.out.quiet hB)
          have HBOX := Lib.hid hbox
          clear hB hbox
          go_wp2_with fail
          refine (H20.out.list _ GU9.out HBOX.out (by omega)).mono ?_
          rintro e w21 ⟨Ax, cx, rfl, hr, h⟩
          have H21 := Lib.hid h
          have HR21 := Lib.hid hr
          clear h hr HBOX
          go_wp2_with fail
          refine (elems_is Ax Ab cx cb' U U w21 HR21.out (H21.out.rd (by simp))).mono ?_
          rintro e w22 ⟨rfl, hB⟩
          rw [decide_eq_true rfl]
          have H22 := Lib.hid (H21.out.quiet hB)
          clear hB HR21
          go_wp2_with fail
          refine (mkall_Elem m w22).mono ?_
          rintro e w23 ⟨rfl, hB, hbox⟩
          have H23 := Lib.hid (H22.out.quiet hB)
          have HBOX := Lib.hid hbox
          clear hB hbox
          go_wp2_with fail
          refine (H23.out.list _ GM9.out HBOX.out (by omega)).mono ?_
          rintro e w24 ⟨Ay, cy, rfl, hr, h⟩
          have H24 := Lib.hid h
          have HR24 := Lib.hid hr
          clear h hr HBOX
          go_wp2_with fail
          refine (elems_is Ay Am cy cm M M w24 HR24.out (H24.out.rd (by simp))).mono ?_
          rintro e w25 ⟨rfl, hB⟩
          rw [decide_eq_true rfl]
          have H25 := Lib.hid (H24.out.quiet hB)
          clear hB HR24
          go_wp2_with fail
          refine (wakes_is _).mono ?_
          rintro e w26 ⟨rfl, hB⟩
          have H26 := Lib.hid (H25.out.quiet hB)
          clear hB
          go_wp2_with fail
          go_ret
          exact ⟨rfl, H26.out.bel⟩
end Go.Proofs.Ythhhhjllpejpgaa
