/-
  Texts put together: GPushF, GCut, RefBefore, RefHas, GDeepP, Open, LawDeep.
-/
import Derived.Test.YthogokcbbkjcdaaMg
import Derived.Test.YthogokcbbkjcdaaMf
import Derived.Test.YthogokcbbkjcdaaMe
import Derived.Test.YthogokcbbkjcdaaMa
import Derived.ProofKit
import Derived.Carry
import Derived.ChangeSame
import Derived.Deep.Slices
import Derived.Deep.Strs
import Derived.Lib.MinMax

namespace Go.Proofs.Ythogokcbbkjcdaa
open Go.RowKit Go.Shelf
attribute [local go_sem] Oper.semAt_some
set_option maxRecDepth 100000 in
set_option maxHeartbeats 16000000 in
theorem pushfull_is {D : Nat → Prop} {W : World} {sb : Nat} {T : TB} {L : List Sym} {dep : Int} {gs : List GoalC} {ks : List Value} {A : Option Addr} {c : Nat} (h : GT D W T L) (hS : Stk W sb T dep gs ks A c) (hsD : ¬ D sb) 
    (hl : dep ≤ (gs.length : Int)) (hl8 : (gs.length : Int) ≤ 100) :
    Calls Try.prog 9 #[.pointer (some ⟨sb, 0, none⟩), .int .i64 4, .string ⟨#[115, 116, 97, 116, 101]⟩, .slice none 0 0] W fun e W' => e = .returned (.int .i64 28) ∧ GT D W' T L ∧ Stk W' sb T dep gs ks A c ∧ Fr (fun j => ¬ D j) W W' := by
  obtain ⟨i0, hi0, hz0, hz1, hz2⟩ := info_parts info_Sym
  obtain ⟨j0, hj0, hy0, hy1, hy2⟩ := info_parts info_Goal
  have HT := Lib.hid h
  have HS := Lib.hid hS
  have HSD := Lib.hid hsD
  have s0 : W.cell? ⟨sb, 0, none⟩ = some (.int .i64 dep) := (hS.blk.cell 0).trans rfl
  have s1 : W.cell? ⟨sb, 1, none⟩ = some (.pointer (some ⟨T.b, 0, none⟩)) := (hS.blk.cell 1).trans rfl
  have s2 : W.cell? ⟨sb, 2, none⟩ = some (.slice A gs.length c) := (hS.blk.cell 2).trans rfl
  have hsl := hS.blk.lt
  have t1 : decide (dep ≤ (gs.length : Int)) = true := by simp; omega
  have HL := Lib.hid hl
  clear h hS hsD s0 s1 s2 hsl hl
  go_enter Try.func9, Try.ntmps9
  go_wp2_with fail
  refine (items_is 4 [] none 0 HT.out (RowRd.nil _ _ _) (AIn.none_ _) (by simp) (fun i hi => absurd hi (by simp)) (by simp) (by simp)).mono ?_
  rintro e W3 ⟨rfl, h3, hF3, hK3⟩
  have hS3 := HS.out.kb hK3
  have s0 : W3.cell? ⟨sb, 0, none⟩ = some (.int .i64 dep) := (hS3.blk.cell 0).trans rfl
  have s1 : W3.cell? ⟨sb, 1, none⟩ = some (.pointer (some ⟨T.b, 0, none⟩)) := (hS3.blk.cell 1).trans rfl
  have s2 : W3.cell? ⟨sb, 2, none⟩ = some (.slice A gs.length c) := (hS3.blk.cell 2).trans rfl
  have hsl := hS3.blk.lt
  have H3 := Lib.hid h3
  have HF3 := Lib.hid hF3
  have HS3 := Lib.hid hS3
  clear h3 hF3 hK3 hS3
  go_wp2_with fail
  go_quiet (fail)
  go_wp2_with fail
  go_ret
  have hq := Below.drewN' (Below.refl W3.heap.size W3) nq
  exact ⟨rfl, H3.out.below hq, HS3.out.below hq, HF3.out.trans (Fr.of_new hq)⟩
end Go.Proofs.Ythogokcbbkjcdaa

namespace Go.Proofs.Ythogokcbbkjcdaa
open Go.RowKit Go.Shelf
attribute [local go_sem] Oper.semAt_some
def CutTo (W : World) (sb : Nat) (T : TB) (dep : Int) (gs : List GoalC) (ks : List Value) (W' : World) : Prop := ∃ A' c', Stk W' sb T dep gs ks A' c' ∧ Fr (· = sb) W W'
set_option maxRecDepth 100000 in
set_option maxHeartbeats 8000000 in
theorem cut_is {sb : Nat} {T : TB} {dep : Int} {gs : List GoalC} {ks : List Value} {A : Option Addr} {c : Nat} {W : World} (lv : Int) (h : Stk W sb T dep gs ks A c) (h0 : 0 ≤ lv) (h9 : lv ≤ 100) (hg1 : 1 ≤ gs.length) (hl : (gs.length : Int) ≤ 1000) :
    Calls Try.prog 12 #[.pointer (some ⟨sb, 0, none⟩), .int .i64 lv] W fun e W' => e = .returned (.int .i64 (max ((gs.length : Int) - max (lv - 1) 1) 0)) ∧ CutTo W sb T dep (gs.take (max (lv - 1) 1).toNat) ks W' := by
  obtain ⟨i0, hi0, hz0, hz1, hz2⟩ := info_parts info_Goal
  obtain ⟨kp, hkp⟩ : ∃ kp : Nat, (kp : Int) = max (lv - 1) 1 := ⟨(max (lv - 1) 1).toNat, by omega⟩
  have hk1 : 1 ≤ kp := by omega
  have HS := Lib.hid h
  have s2 : W.cell? ⟨sb, 2, none⟩ = some (.slice A gs.length c) := (h.blk.cell 2).trans rfl
  have f2 := h.blk.frozen 2
  have hsl := h.blk.lt
  have hnc : gs.length ≤ c := h.rd.1
  have hcm : c ≤ maxLen := h.rd.2.1
  have v1 : IntKind.i64.wrap (lv - 1) = lv - 1 := IntWalk.i64_in _ (by omega)
  have HKP := Lib.hid hkp
  clear h
  rw [← hkp]
  have htn : ((kp : Int)).toNat = kp := by simp
  rw [htn]
  have e1 : max (lv - 1) 1 = (kp : Int) := by omega
  clear hkp htn
  by_cases lw : lv < 1
  · have t0 : decide (lv < 1) = true := by simpa using lw
    have hkk : kp = 1 := by have := HKP.out; omega
    subst hkk
    by_cases hge : gs.length ≤ 1
    · have t1 : decide ((gs.length : Int) ≤ 1) = true := by simp; omega
      go_enter Try.func12, Try.ntmps12
      go_wp2_with fail
      go_ret
      exact ⟨by rw [show max ((gs.length : Int) - ((1 : Nat) : Int)) 0 = 0 by omega]; rfl, A, c, by rw [List.take_of_length_le hge]; exact HS.out, Fr.refl _ _⟩
    · have t1 : decide ((gs.length : Int) ≤ 1) = false := by simp; omega
      go_enter Try.func12, Try.ntmps12
      have hlen : ((gs.take 1).flatMap GoalC.cells).length = 1 * 9 := by rw [flat_length GoalC.cells_length, List.length_take, Nat.min_eq_left (by omega)]
      have hnews := (HS.out.rd.prefix_ 1).news GoalC.cells_length (by omega)
      rw [List.length_take, Nat.min_eq_left (by omega : 1 ≤ gs.length)] at hnews
      have HLEN := Lib.hid hlen
      have HNEWS := Lib.hid hnews
      have vs : IntKind.i64.wrap ((gs.length : Int) - ((1 : Nat) : Int)) = (gs.length : Int) - ((1 : Nat) : Int) := IntWalk.i64_in _ (by omega)
      have b1 : (0 : Int) ≤ ((1 : Nat) : Int) := by omega
      have b2 : ((1 : Nat) : Int) ≤ (c : Int) := by omega
      have b3 : 1 ≤ c := by omega
      clear hlen hnews
      go_wp2_with (at_builtin; refine wpList_append_src W rfl (.const (.slice none 0 0)) (.tmp 32) 62 rfl 61 i0 _ 9 112 Try.underlying62 hi0 hz0 hz1 hz2 rfl (by omega) (.slice none 0 0) 0 [] rfl (owns_nil W 0 _ _) A 1 c ((gs.take 1).flatMap GoalC.cells) rfl HLEN.out HNEWS.out (fun u hu => by obtain ⟨x, _, hx⟩ := List.mem_flatMap.1 hu; exact x.one u hx) (by unfold maxLen; omega) (by omega) ?_; intro v' w4 hown hg hnil hat; rw [Nat.zero_add, List.nil_append] at hown; obtain ⟨A', c', rfl, _, _, _⟩ := own_form2 hown; have hb := (Below.refl W.heap.size W).grown hg (Nat.le_refl _) (fun k hk => by simp [Value.ownBlock] at hk); have c2 := (hb.cell (p := ⟨sb, 2, none⟩) hsl).trans s2; have z2 := (hb.frozen (p := ⟨sb, 2, none⟩) hsl).trans f2; have hsl4 := Nat.lt_of_lt_of_le hsl hb.size; have HB := Lib.hid hb; have HO := Lib.hid hown; clear hb hown hg hnil hat)
      go_ret
      have hlk : (gs.take 1).length = 1 := by rw [List.length_take, Nat.min_eq_left (by omega)]
      have hst := HS.out.stored HB.out (gs' := gs.take 1) (A' := A') (c' := c') (by rw [hlk]; exact HO.out)
      rw [hlk] at hst
      exact ⟨by rw [show max ((gs.length : Int) - ((1 : Nat) : Int)) 0 = (gs.length : Int) - ((1 : Nat) : Int) by omega]; rfl, A', c', hst.1, hst.2⟩
  · have t0 : decide (lv < 1) = false := by simpa using lw
    by_cases hge : gs.length ≤ kp
    · have t1 : decide ((gs.length : Int) ≤ (kp : Int)) = true := by simp; omega
      have t1n : decide (gs.length ≤ kp) = true := by simp; omega
      go_enter Try.func12, Try.ntmps12
      go_wp2_with fail
      go_ret
      exact ⟨by rw [show max ((gs.length : Int) - (kp : Int)) 0 = 0 by omega]; rfl, A, c, by rw [List.take_of_length_le hge]; exact HS.out, Fr.refl _ _⟩
    · have t1 : decide ((gs.length : Int) ≤ (kp : Int)) = false := by simp; omega
      have t1n : decide (gs.length ≤ kp) = false := by simp; omega
      go_enter Try.func12, Try.ntmps12
      have hlen : ((gs.take kp).flatMap GoalC.cells).length = kp * 9 := by rw [flat_length GoalC.cells_length, List.length_take, Nat.min_eq_left (by omega)]
      have hnews := (HS.out.rd.prefix_ kp).news GoalC.cells_length (by omega)
      rw [List.length_take, Nat.min_eq_left (by omega : kp ≤ gs.length)] at hnews
      have HLEN := Lib.hid hlen
      have HNEWS := Lib.hid hnews
      have vs : IntKind.i64.wrap ((gs.length : Int) - (kp : Int)) = (gs.length : Int) - (kp : Int) := IntWalk.i64_in _ (by omega)
      have b1 : (0 : Int) ≤ (kp : Int) := by omega
      have b2 : (kp : Int) ≤ (c : Int) := by omega
      have b3 : kp ≤ c := by omega
      clear hlen hnews
      go_wp2_with (at_builtin; refine wpList_append_src W rfl (.const (.slice none 0 0)) (.tmp 32) 62 rfl 61 i0 _ 9 112 Try.underlying62 hi0 hz0 hz1 hz2 rfl (by omega) (.slice none 0 0) 0 [] rfl (owns_nil W 0 _ _) A kp c ((gs.take kp).flatMap GoalC.cells) rfl HLEN.out HNEWS.out (fun u hu => by obtain ⟨x, _, hx⟩ := List.mem_flatMap.1 hu; exact x.one u hx) (by unfold maxLen; omega) (by omega) ?_; intro v' w4 hown hg hnil hat; rw [Nat.zero_add, List.nil_append] at hown; obtain ⟨A', c', rfl, _, _, _⟩ := own_form2 hown; have hb := (Below.refl W.heap.size W).grown hg (Nat.le_refl _) (fun k hk => by simp [Value.ownBlock] at hk); have c2 := (hb.cell (p := ⟨sb, 2, none⟩) hsl).trans s2; have z2 := (hb.frozen (p := ⟨sb, 2, none⟩) hsl).trans f2; have hsl4 := Nat.lt_of_lt_of_le hsl hb.size; have HB := Lib.hid hb; have HO := Lib.hid hown; clear hb hown hg hnil hat)
      go_ret
      have hlk : (gs.take kp).length = kp := by rw [List.length_take, Nat.min_eq_left (by omega)]
      have hst := HS.out.stored HB.out (gs' := gs.take kp) (A' := A') (c' := c') (by rw [hlk]; exact HO.out)
      rw [hlk] at hst
      exact ⟨by rw [show max ((gs.length : Int) - (kp : Int)) 0 = (gs.length : Int) - (kp : Int) by omega]; rfl, A', c', hst.1, hst.2⟩
end Go.Proofs.Ythogokcbbkjcdaa

namespace Go.Proofs.Ythogokcbbkjcdaa
open Go.RowKit
attribute [local go_sem] eql_sym neq_sym
end Go.Proofs.Ythogokcbbkjcdaa

namespace Go.Proofs.Ythogokcbbkjcdaa
open Go.RowKit
attribute [local go_sem] eql_sym neq_sym

theorem has_take {l : List Sym} {x : Sym} {i : Nat} (h : i < l.length) : has cmpSym (l.take (i + 1)) x = (has cmpSym (l.take i) x || decide (l[i] = x)) := by
  rw [List.take_add_one, List.getElem?_eq_getElem h]
  simp only [has, Option.toList_some, List.any_append, List.any_cons, List.any_nil, Bool.or_false]
  congr 1
  rw [Bool.eq_iff_iff]
  simp [cmpSym_eq]
set_option maxRecDepth 100000 in
set_option maxHeartbeats 2000000 in
theorem has_is (A : Option Addr) (c : Nat) (l : List Sym) (x : Sym) (w : World) (hrd : RowRd w 3 Sym.cells A c l) :
    Calls Try.prog 11 #[.slice A l.length c, .agg #[.int .i64 x.kind, .string x.text, .int .i64 x.n]] w fun e w' => e = .returned (.bool (has cmpSym l x)) ∧ Below w.heap.size w w' := by
  have HRD := Lib.hid hrd
  have hlc := hrd.cap
  clear hrd
  go_enter Try.func11, Try.ntmps11
  go_wp2_with fail
  obtain ⟨W0, hW0⟩ : ∃ W0, W0 = w.alloc (Obj.cells #[Value.int IntKind.i64 x.kind, Value.string x.text, Value.int IntKind.i64 x.n] 36) := ⟨_, rfl⟩
  have hB0 : Below w.heap.size w W0 := by rw [hW0]; exact (Below.refl _ _).alloc (Nat.le_refl _) _
  have hX0 : Blk W0 w.heap.size 36 #[.int .i64 x.kind, .string x.text, .int .i64 x.n] := by rw [hW0]; exact Blk.new _ _ _
  rw [← hW0]
  clear hW0
  have HB0 := Lib.hid hB0
  have HX0 := Lib.hid hX0
  clear hB0 hX0
  go_loopw [5] (fun s wr => ∃ i : Nat, s = .int .i64 i ∧ has cmpSym (l.take i) x = false ∧ i ≤ l.length ∧ Below W0.heap.size W0 wr) (fun s wr => l.length - (intOf s).toNat)
  case atStart => exact ⟨0, rfl, by simp [has], Nat.zero_le _, Below.refl _ _⟩
  case round =>
    obtain ⟨i, rfl, hk, hi, hB⟩ := hrel
    have HK := Lib.hid hk
    clear hk
    by_cases hlt : i < l.length
    · have hBw : Below w.heap.size w wr := HB0.out.trans (hB.mono HB0.out.size)
      obtain ⟨y, hy⟩ : ∃ y, y = l[i] := ⟨_, rfl⟩
      obtain ⟨g, off, rfl, hg, q0, q1, q2⟩ := sym_at (HRD.out.new_ hBw) hlt
      rw [← hy] at q0 q1 q2
      have hxr := HX0.out.new_ hB
      have hxl := hxr.lt
      have y0 := hxr.cell 0
      have y1 := hxr.cell 1
      have y2 := hxr.cell 2
      simp only [List.getElem?_toArray, List.getElem?_cons_zero, List.getElem?_cons_succ] at y0 y1 y2
      have HXR := Lib.hid hxr
      have HB := Lib.hid hB
      have HBw := Lib.hid hBw
      have HY := Lib.hid hy
      clear hB hBw hy hxr
      have b1 : (0 : Int) ≤ (i : Int) := by omega
      have b2 : (i : Int) < (l.length : Int) := by omega

      have hbe := eql_sym y x
      have hstep := has_take (x := x) hlt
      rw [← HY.out, HK.out, Bool.false_or] at hstep
      by_cases he : y = x
      · have t2 : decide (y = x) = true := by simpa using he
        rw [t2] at hbe hstep
        have HE := Lib.hid hstep
        clear he hstep
        go_wp2_with fail
        go_quiet (fail)
        clear q0 q1 q2 y0 y1 y2
        go_wp2_with fail
        go_ret
        have e : has cmpSym l x = true := by
          rw [has_iff]
          obtain ⟨z, hz, hz2⟩ := has_iff.1 HE.out
          exact ⟨z, List.mem_of_mem_take hz, hz2⟩
        exact ⟨by rw [e]; rfl, Below.drewN' HBw.out nq⟩
      · have t2 : decide (y = x) = false := by simpa using he
        rw [t2] at hbe hstep
        have HE := Lib.hid hstep
        clear he hstep
        go_wp2_with fail
        go_quiet (fail)
        have HB1 := Lib.hid (Below.drewN' HB.out nq)
        clear q0 q1 q2 y0 y1 y2
        go_wp2_with fail
        go_roundw
        case rel => exact ⟨i + 1, by go_num, HE.out, by omega, HB1.out⟩
        case measure => simp [intOf] <;> omega
    · have hie : i = l.length := by omega
      subst hie
      have HB := Lib.hid hB
      clear hB
      go_wp2_with fail
      go_ret
      have e := HK.out
      rw [List.take_length] at e
      exact ⟨by rw [e]; rfl, HB0.out.trans (HB.out.mono HB0.out.size)⟩
end Go.Proofs.Ythogokcbbkjcdaa

namespace Go.Proofs.Ythogokcbbkjcdaa
open Go.RowKit Go.Shelf
def sN (L : List Sym) : Sym := ⟨1, ⟨#[83]⟩, nextL (puts cmpSym L wordsN) 83⟩
def pushL (L : List Sym) : List Sym := puts cmpSym L (wordsN ++ [sN L])
theorem pushL_eq (L : List Sym) : pushL L = put cmpSym (puts cmpSym L wordsN) ⟨1, letB 83, nextL (puts cmpSym L wordsN) 83⟩ := by unfold pushL; rw [puts_snoc]; rfl
theorem gnew_bd : (puts cmpSym gnew wordsN).length ≤ 20 ∧ nextL (puts cmpSym gnew wordsN) 83 ≤ 2 := by
  have h1 : (puts cmpSym gnew wordsN).length = 16 := by kernel_rfl
  have h2 : nextL (puts cmpSym gnew wordsN) 83 = 2 := by kernel_rfl
  exact ⟨by omega, by omega⟩
theorem puts_mem : ∀ (xs : List Sym) {l : List Sym}, (∀ x ∈ xs, x ∈ l) → puts cmpSym l xs = l
  | [], _, _ => rfl
  | x :: xs, l, h => by
    have e : puts cmpSym l (x :: xs) = puts cmpSym (put cmpSym l x) xs := by simp [puts]
    rw [e, put_has (has_mem.2 (h x (by simp)))]
    exact puts_mem xs (fun y hy => h y (by simp [hy]))
theorem pushL_mem {L : List Sym} {x : Sym} : x ∈ pushL L ↔ x ∈ L ∨ x ∈ wordsN ∨ x = sN L := by
  unfold pushL
  rw [mem_puts_iff]
  simp
theorem pushL_words (L : List Sym) : puts cmpSym (pushL L) wordsN = pushL L := puts_mem wordsN (fun x hx => pushL_mem.2 (.inr (.inl hx)))
theorem pushL_len {L : List Sym} (hs : Srt cmpSym L) : (puts cmpSym (pushL L) wordsN).length = (puts cmpSym L wordsN).length + 1 := by
  rw [pushL_words, pushL_eq]
  exact length_put tc_sym (Srt.puts tc_sym wordsN hs) (fresh_not (by decide))
theorem pushL_next (L : List Sym) : nextL (puts cmpSym (pushL L) wordsN) 83 = nextL (puts cmpSym L wordsN) 83 + 1 := by
  rw [pushL_words, pushL_eq]
  have hg : greatB 83 = true := by decide
  have h6 : nextL (puts cmpSym L wordsN) 83 = maxL (puts cmpSym L wordsN) 83 + 1 := by unfold nextL; rw [if_pos hg]
  have h7 : nextL (put cmpSym (puts cmpSym L wordsN) ⟨1, letB 83, nextL (puts cmpSym L wordsN) 83⟩) 83 = maxL (put cmpSym (puts cmpSym L wordsN) ⟨1, letB 83, nextL (puts cmpSym L wordsN) 83⟩) 83 + 1 := by
    conv => lhs; unfold nextL
    rw [if_pos hg]
    rfl
  rw [h7, maxL_put, if_pos ⟨rfl, rfl⟩]
  dsimp only
  omega
theorem sN_new {L U : List Sym} (h : ∀ x ∈ U, x ∈ L) : has cmpSym U (sN L) = false := by
  rw [hasNot]
  intro hm
  have h1 : has cmpSym (puts cmpSym L wordsN) ⟨1, letB 83, nextL (puts cmpSym L wordsN) 83⟩ = false := fresh_not (by decide)
  rw [hasNot] at h1
  exact h1 ((mem_puts_iff _).2 (.inl (h _ hm)))
end Go.Proofs.Ythogokcbbkjcdaa

namespace Go.Proofs.Ythogokcbbkjcdaa
open Go.RowKit Go.ChangeShapes Go.WideShapes Go.Deep

section
variable {H : Type} {enc : TypeId × Value → H} {P : Program}
theorem post_of_below {f : Func} {s : ChangeSpec} {apart fresh handsOn again : Bool} {W W' : World} {args : Array Value} {v : Value} {ds gs : List (DataW H)} {before pa pv : List MemPlace}
    (hW : DataW.Whole enc P f.params.toList s.vars apart W args.toList ds gs before)
    (hres : ∀ (b : Nat) (sp : Nat → Bool) (hd : Bool), DataW.TrodAll enc P W' b sp hd f.resultTypes.toList (v.resultList f.resultTypes.size) (s.fn H (ds ++ gs)).results [])
    (hargs : ∀ sp : Nat → Bool, (∀ p ∈ before, sp p.block = true) → DataW.TrodAll enc P W' 0 sp true f.params.toList args.toList (s.fn H (ds ++ gs)).args pa)
    (hvars : ∀ sp : Nat → Bool, (∀ p ∈ before, sp p.block = true) → DataW.TrodVars enc P W' sp s.vars (s.fn H (ds ++ gs)).vars pv)
    (hps : before = pa ++ pv) (hb : Below W.heap.size W W')
    (hok : ∀ (j : Nat) (t : TypeId) (r : Value), f.resultTypes[j]? = some t → (v.resultList f.resultTypes.size)[j]? = some r → Value.okWide P W' .any 0 t r) :
    s.post enc P f apart fresh handsOn again W args v W' := by
  have hlt : ∀ p ∈ before, p.block < W.heap.size := fun p hp => hW.lt p hp
  have hold : ∀ p ∈ before, (fun b => decide (b < W.heap.size)) p.block = true := fun p hp => by simpa using hlt p hp
  refine ⟨ds, gs, before, [], pa, pv, hW, hres _ _ _, hargs _ hold, hvars _ hold, World.keptBut_mono (fun p hp => ⟨hp, ?_⟩) (hb.frame (· ∈ before)), fun _ => ?_⟩
  · rw [hps, List.mem_append] at hp
    exact Or.inr hp
  · obtain ⟨_, _, _, _, _, hz, hn⟩ := hW
    refine ⟨hok, _, _, ([] ++ pa) ++ pv, ⟨[] ++ pa, pv, trodAll_append (hargs _ (fun _ _ => rfl)) (hres _ _ _), hvars _ (fun _ _ => rfl), rfl, ?_, ?_⟩, ?_⟩
    · intro b off hp
      have hin : MemPlace.cell b off ∈ before := by rw [hps]; simpa using hp
      rw [hb.frozen (hlt _ hin)]
      exact hz b off hin
    · intro ha
      have := hn ha
      rw [hps] at this
      simpa using this
    · intro p hp _
      rw [hps]
      simpa using hp
theorem trodAll_stays (hl : laidOutB P = true) {W W' : World} {sp : Nat → Bool} (hb : Below W.heap.size W W') : ∀ (ts : List TypeId) (vs : List Value) (ds : List (DataW H)) (ps : List MemPlace),
    (∀ t ∈ ts, P.readableRec t = true ∧ t < P.types.size) → DataW.TrodAll enc P W 0 (fun _ => true) true ts vs ds ps → (∀ p ∈ ps, p.block < W.heap.size) → (∀ p ∈ ps, sp p.block = true) → DataW.TrodAll enc P W' 0 sp true ts vs ds ps
  | [], [], [], ps, _, h, _, _ => h
  | t :: ts, v :: vs, d :: ds, ps, ht, ⟨p, q, h1, h2, he⟩, hlt, hsp => by
    subst he
    refine ⟨p, q, WideElems.Trod_stays hl (ht t (by simp)).1 (ht t (by simp)).2 h1 (fun x hx => hb.same (hlt x (by simp [hx]))) (fun x hx => hsp x (by simp [hx])), ?_, rfl⟩
    exact trodAll_stays hl hb ts vs ds q (fun t' h' => ht t' (by simp [h'])) h2 (fun x hx => hlt x (by simp [hx])) (fun x hx => hsp x (by simp [hx]))
  | [], _ :: _, _, _, _, h, _, _ => h.elim
  | [], [], _ :: _, _, _, h, _, _ => h.elim
  | _ :: _, [], _, _, _, h, _, _ => h.elim
  | _ :: _, _ :: _, [], _, _, h, _, _ => h.elim
/-- THE ROW's LAST STEP of a law: true; all that was there is as it was. -/
theorem post_true {f : Func} {s : ChangeSpec} {apart fresh handsOn again : Bool} {W W' : World} {args : Array Value} {ds gs : List (DataW H)} {before : List MemPlace} {tb : TypeId}
    (hl : laidOutB P = true) (hv : s.vars = []) (hW : DataW.Whole enc P f.params.toList s.vars apart W args.toList ds gs before) (hr : f.resultTypes = #[tb]) (htb : P.underlying tb = some .bool)
    (hp : ∀ t ∈ f.params.toList, P.readableRec t = true ∧ t < P.types.size) (h1 : (s.fn H (ds ++ gs)).results = [.lit (.bool true)]) (h2 : (s.fn H (ds ++ gs)).args = ds) (h3 : (s.fn H (ds ++ gs)).vars = [])
    (hb : Below W.heap.size W W') : s.post enc P f apart fresh handsOn again W args (.bool true) W' := by
  have hlt : ∀ p ∈ before, p.block < W.heap.size := fun p hp => hW.lt p hp
  have hW0 := hW
  obtain ⟨p, q, hA, hV, he, _⟩ := hW
  rw [hv] at hV
  have hq : q = [] := by cases gs <;> simp [DataW.TrodVars] at hV; exact hV
  subst hq
  rw [List.append_nil] at he
  subst he
  refine post_of_below (pa := before) (pv := []) hW0 (fun b sp hd => ?_) (fun sp hsp => ?_) (fun sp hsp => ?_) (by simp) hb ?_
  · rw [hr, h1]; exact trodAll_mk1 (shut_bool htb true)
  · rw [h2]; exact trodAll_stays hl hb _ _ _ _ hp hA hlt hsp
  · rw [hv, h3]; rfl
  · exact ok_one hr rfl (okWide_bool_mk htb true)
end

/-! ### arguments opened -/
/-- Values of type e read as an α, by these cells. -/
def Reads {α : Type} (P : Program) (e : TypeId) (size : Nat) (cells : α → List Value) : Prop :=
  P.cellsOf e = size ∧ ∀ (H : Type) (enc : TypeId × Value → H) (w : World) (base : Nat) (spare : Nat → Bool) (held : Bool) (n : Nat) (cs : List Value) (x : DataW H × List MemPlace),
    DataW.trod enc P w base spare held n e cs = some x → ∃ a : α, cs = cells a
theorem list_of {α : Type} {Q : Nat → α → Prop} : ∀ (n : Nat), (∀ i, i < n → ∃ a, Q i a) → ∃ l : List α, l.length = n ∧ ∀ i, (h : i < l.length) → Q i l[i]
  | 0, _ => ⟨[], rfl, fun i h => absurd h (by simp)⟩
  | n + 1, h => by
    obtain ⟨l, hl, hq⟩ := list_of n (fun i hi => h i (by omega))
    obtain ⟨a, ha⟩ := h n (by omega)
    refine ⟨l ++ [a], by simp [hl], fun i hi => ?_⟩
    by_cases hi' : i < l.length
    · rw [List.getElem_append_left hi']; exact hq i hi'
    · have : i = n := by simp at hi; omega
      subst this
      rw [List.getElem_append_right (by omega)]
      simpa [hl] using ha
theorem open_row {H : Type} {enc : TypeId × Value → H} {P : Program} {w : World} {r : Reach} {b0 base : Nat} {spare : Nat → Bool} {held : Bool} {α : Type} {t e : TypeId} {size : Nat} {cells : α → List Value} {v : Value} {d : DataW H} {ps : List MemPlace}
    (ht : P.underlying t = some (.slice e)) (h0 : 0 < size) (hr : Reads P e size cells) (hval : Value.okWide P w r b0 t v) (h : DataW.Trod enc P w base spare held t v d ps) :
    ∃ A c, ∃ l : List α, v = .slice A l.length c ∧ RowRd w size cells A c l := by
  obtain ⟨A, len, cap, rfl⟩ := okWide_slice ht hval
  obtain ⟨fuel, hf⟩ := h
  have hcs : (Value.slice A len cap).cells.toList = [.slice A len cap] := by simp [Value.cells]
  rw [hcs] at hf
  rcases open_slice ht hf with ⟨h1, _⟩ | ⟨a, len', cap', m, n, D, Pl, h1, _, hl, hm, hmm, _, hx⟩
  · simp at h1
    obtain ⟨rfl, rfl, rfl⟩ := h1
    exact ⟨none, 0, [], rfl, RowRd.nil _ _ _⟩
  · simp at h1
    obtain ⟨rfl, rfl, rfl⟩ := h1
    have hlm : len ≤ m := by rw [hmm]; split <;> omega
    obtain ⟨l, hll, hq⟩ := list_of (α := α) (Q := fun i x => ∀ j u, (cells x)[j]? = some u → w.cell? ((a.add (i * size)).add j) = some u) len (fun i hi => by
      obtain ⟨cs', c1, c2⟩ := hx i (by omega)
      obtain ⟨x, rfl⟩ := hr.2 H enc w base spare held n cs' _ c2
      obtain ⟨_, hlen, hcell⟩ := World.cells?_some c1
      rw [hr.1] at hcell hlen
      exact ⟨x, fun j u hu => (hcell j (by rw [← hlen]; exact (List.getElem?_eq_some_iff.1 hu).1)).trans hu⟩)
    subst hll
    refine ⟨some a, cap, l, rfl, hl, hm, fun hpos => ?_⟩
    obtain ⟨cs', c1, c2⟩ := hx 0 (by omega)
    obtain ⟨_, hlen, hcell⟩ := World.cells?_some c1
    rw [hr.1] at hlen hcell
    have hspot : a.spot = none := by
      have := hcell 0 h0
      rw [List.getElem?_eq_getElem (by omega)] at this
      have e2 : (a.add (0 * size)).add 0 = a := by simp [Addr.add]
      rw [e2] at this
      exact World.cell?_spot this
    obtain ⟨b, off, spot⟩ := a
    simp only at hspot
    subst hspot
    refine ⟨b, off, rfl, ?_, fun k hk j u hu => ?_⟩
    · have := hcell 0 h0
      rw [List.getElem?_eq_getElem (by omega)] at this
      have e2 : ((⟨b, off, none⟩ : Addr).add (0 * size)).add 0 = ⟨b, off, none⟩ := by simp [Addr.add]
      rw [e2] at this
      exact World.block_lt_of_cell? w _ this
    · have := hq k hk j u hu
      rwa [add_plain, add_plain] at this
theorem reads_int {P : Program} {e : TypeId} (he : P.underlying e = some (.int .i64)) (hc : P.cellsOf e = 1) : Reads P e 1 (fun n : Int => [Value.int .i64 n]) :=
  ⟨hc, fun H enc w base spare held n cs x h => by
    obtain ⟨k, rfl, _⟩ := DataW.trod_int he h
    exact ⟨k, rfl⟩⟩
end Go.Proofs.Ythogokcbbkjcdaa

namespace Go.Proofs.Ythogokcbbkjcdaa
open Go.RowKit Go.Shelf
attribute [local go_sem] Oper.semAt_some
def intC (n : Int) : List Value := [.int .i64 n]
theorem withinN_is (n : Nat) (hn : 0 < n) (hn2 : (n : Int) ≤ 9223372036854775807) (v : Int) (w : World) : Calls Try.prog 4 #[.int .i64 v, .int .i64 (n : Int)] w fun e w' => ∃ k : Nat, e = .returned (.int .i64 k) ∧ k < n ∧ w = w' := by
  refine (within_is v n w hn2).mono ?_
  rintro e w' ⟨rfl, rfl⟩
  obtain ⟨k, hk, hk2⟩ := within_nat v hn
  exact ⟨k, by rw [hk], hk2, rfl⟩
/-- What stands between two rounds of the law. -/
def RoundD (w : World) (sb : Nat) (T : TB) (dep : Int) (i : Nat) (Au : Option Addr) (cu : Nat) (U : List Sym) (W : World) : Prop :=
  ∃ (D : Nat → Prop) (L : List Sym) (gs : List GoalC) (As : Option Addr) (cs : Nat), W.ownsRow 0 36 3 (.slice Au U.length cu) U.length (U.flatMap Sym.cells) ∧ AIn Au D ∧ AIn Au (w.heap.size ≤ ·) ∧ ¬ D sb ∧ (∀ j, j < w.heap.size → D j) ∧
    GT D W T L ∧ Stk W sb T dep gs links As cs ∧ 1 ≤ gs.length ∧ (gs.length : Int) ≤ dep ∧ gs.head?.map GoalC.state = some ⟨1, ⟨#[83]⟩, 1⟩ ∧ (∀ x ∈ U, x ∈ L) ∧ U.length ≤ i ∧ (puts cmpSym L wordsN).length ≤ 20 + i ∧ nextL (puts cmpSym L wordsN) 83 ≤ 2 + (i : Int) ∧ Below w.heap.size w W
set_option maxRecDepth 100000 in
set_option maxHeartbeats 16000000 in
theorem deep_walk (n0 : Int) (A1 : Option Addr) (c1 : Nat) (l1 : List Int) (w : World) (hr : RowRd w 1 (fun n : Int => [Value.int .i64 n]) A1 c1 l1) :
    Calls Try.prog 3 #[.int .i64 n0, .slice A1 l1.length c1] w fun e w' => e = .returned (.bool true) ∧ Below w.heap.size w w' := by
  obtain ⟨i0, hi0, hz0, hz1, hz2⟩ := info_parts info_Sym
  have HR := Lib.hid hr
  have hlc := hr.cap
  clear hr
  by_cases hbig : (100 : Int) < (l1.length : Int)
  · have t1 : decide ((100 : Int) < (l1.length : Int)) = true := by simpa using hbig
    have t1n : decide (100 < l1.length) = true := by simp; omega
    clear hbig
    go_enter Try.func3, Try.ntmps3
    go_wp2_with fail
    refine (withinN_is 8 (by decide) (by decide) n0 _).mono ?_
    rintro e w' ⟨j, rfl, hj, rfl⟩
    have v1 : IntKind.i64.wrap (1 + (j : Int)) = 1 + (j : Int) := IntWalk.i64_in _ (by omega)
    go_wp2_with fail
    refine (gt_new 1000 w (by decide) (by decide)).mono ?_
    rintro e w1 ⟨T, rfl, _, _, hb1⟩
    have HB1 := Lib.hid hb1
    clear hb1
    go_wp2_with fail
    refine (wakes19_is _).mono ?_
    rintro e w2 ⟨rfl, hb2⟩
    have HB2 := Lib.hid (HB1.out.trans (hb2.mono HB1.out.size))
    clear hb2
    go_wp2_with fail
    go_ret
    exact ⟨rfl, HB2.out⟩
  have t1 : decide ((100 : Int) < (l1.length : Int)) = false := by simpa using hbig
  have t1n : decide (100 < l1.length) = false := by simp; omega
  have HLN := Lib.hid (show l1.length ≤ 100 by omega)
  clear hbig
  go_enter Try.func3, Try.ntmps3
  go_wp2_with fail
  refine (withinN_is 8 (by decide) (by decide) n0 _).mono ?_
  rintro e w' ⟨j, rfl, hj, rfl⟩
  obtain ⟨dep, hdep⟩ : ∃ dep : Int, dep = 1 + (j : Int) := ⟨_, rfl⟩
  have hd1 : 1 ≤ dep := by omega
  have hd8 : dep ≤ 8 := by omega
  have v1 : IntKind.i64.wrap (1 + (j : Int)) = dep := by rw [hdep]; exact IntWalk.i64_in _ (by omega)
  clear hdep
  go_wp2_with fail
  refine (gt_new 1000 w (by decide) (by decide)).mono ?_
  rintro e w1 ⟨T, rfl, hroom, h1, hb1⟩
  have HROOM := Lib.hid hroom
  have H1 := Lib.hid h1
  have HB1 := Lib.hid hb1
  clear hroom h1 hb1 v1
  go_wp2_with fail
  refine (gnew_is dep H1.out hd1 hd8 (by rw [HROOM.out]; decide)).mono ?_
  rintro e w2 ⟨sb, A, c, rfl, h2, hS2, hsb, hF2, hK2⟩
  have HSB := Lib.hid (show w.heap.size ≤ sb from Nat.le_trans HB1.out.size hsb)
  have hb2 : Below w.heap.size w w2 := HB1.out.trans (hF2.below HB1.out.size (fun k hk hn => hn hk))
  have H2 := Lib.hid (show RoundD w sb T dep 0 none 0 [] w2 from ⟨(· < w.heap.size), gnew, [goal0], A, c, owns_nil _ _ _ _, AIn.none_ _, AIn.none_ _, by have := HSB.out; omega, fun _ h => h, h2, hS2, by simp, by simpa using hd1, rfl, by simp, by simp, by have := gnew_bd.1; omega, by have := gnew_bd.2; simpa using this, hb2⟩)
  clear h2 hS2 hF2 hK2 hsb hb2 t1 t1n
  go_wp2_with fail
  go_loopw [9, 10] (fun u s wr => ∃ (i : Nat) (Au : Option Addr) (cu : Nat) (U : List Sym), s = .int .i64 i ∧ i ≤ l1.length ∧ u = .slice Au U.length cu ∧ RoundD w sb T dep i Au cu U wr) (fun u s wr => l1.length - (intOf s).toNat)
  case atStart => exact ⟨0, none, 0, [], rfl, Nat.zero_le _, rfl, H2.out⟩
  case round =>
    obtain ⟨i, Au, cu, U, rfl, hi, rfl, hR⟩ := hrel
    obtain ⟨D, L, gs, As, cs, hown, hAD, hAB, hsD, hDw, hG, hS, hg1, hgd, hgh, hUL, hUi, hpl, hnx, hB⟩ := hR
    have HOWN := Lib.hid hown
    have HAD := Lib.hid hAD
    have HAB := Lib.hid hAB
    have HSD := Lib.hid hsD
    have HDW := Lib.hid hDw
    have HG := Lib.hid hG
    have HS := Lib.hid hS
    have HGH := Lib.hid hgh
    have HUL := Lib.hid hUL
    have HPL := Lib.hid hpl
    have HNX := Lib.hid hnx
    have HB := Lib.hid hB
    have hli := HLN.out
    clear hown hAD hAB hsD hDw hG hS hgh hUL hpl hnx hB
    by_cases hlt : i < l1.length
    · obtain ⟨y, hy⟩ : ∃ y, y = l1[i] := ⟨_, rfl⟩
      obtain ⟨g, off, hAA, hgl, hc⟩ := (HR.out.fr (Fr.of_new (M := fun _ => False) HB.out) (fun _ _ h => h)).at_ hlt
      subst hAA
      have q0 : wr.cell? ⟨g, off + i, none⟩ = some (.int .i64 y) := by rw [hy]; simpa using hc 0 _ rfl
      have b1 : (0 : Int) ≤ (i : Int) := by omega
      have b2 : (i : Int) < (l1.length : Int) := by omega
      clear hc hy
      go_wp2_with fail
      refine (len_is HS.out).mono ?_
      rintro e w' ⟨rfl, rfl⟩
      go_wp2_with fail
      refine (withinN_is 4 (by decide) (by decide) y _).mono ?_
      rintro e w' ⟨j4, rfl, hj4, rfl⟩
      have hgl100 : (gs.length : Int) ≤ 100 := by omega
      by_cases hp : 0 < j4
      · have t3 : decide ((0 : Int) < (j4 : Int)) = true := by simp; omega
        have t3n : decide (0 < j4) = true := by simpa using hp
        clear hp
        by_cases hfull : (gs.length : Int) < dep
        · have t5 : decide ((gs.length : Int) < dep) = true := by simpa using hfull
          go_wp2_with fail
          refine (pushN_is HG.out HS.out HSD.out hfull hgl100 (by rw [HROOM.out]; have := HPL.out; omega) (by have := HNX.out; omega)).mono ?_
          rintro e w3 ⟨rfl, hpt⟩
          unfold PushTo at hpt
          obtain ⟨hF, A3, c3, ia, ic, hg3, hS3, _⟩ := hpt
          obtain ⟨gx, hgx⟩ : ∃ gx : GoalC, gx = ⟨⟨1, ⟨#[83]⟩, nextL (puts cmpSym L wordsN) 83⟩, 4, ⟨#[115, 116, 97, 116, 101]⟩, ia, ([] : List Sym).length, ic, zsym⟩ := ⟨_, rfl⟩
          rw [← hgx] at hS3
          have hgs : gx.state = sN L := by rw [hgx]; rfl
          have HG3 := Lib.hid (show GT D w3 T (pushL L) from hg3)
          have HS3 := Lib.hid hS3
          have HB3 := Lib.hid (HB.out.trans (hF.below HB.out.size (fun k hk hn => hn (HDW.out k hk))))
          have how3 := ownsRow_fr HOWN.out hF (fun g hg hn => hn (by
            rcases Au with _ | a
            · simp [Value.ownBlock] at hg
            · have e : a.block = g := by simpa [Value.ownBlock] using hg
              exact e ▸ HAD.out a rfl))
          have HOW3 := Lib.hid how3
          have HGS := Lib.hid hgs
          clear hF hg3 hS3 how3 hgx hgs q0
          go_wp2_with fail
          have hst := states_is HS3.out (by rw [List.length_append, List.length_singleton]; omega)
          rw [show (gs ++ [gx]).length = gs.length + 1 from by simp] at hst
          refine hst.mono ?_
          clear hst
          rintro e w4 ⟨A4, c4, rfl, hr4, hA4, hb4⟩
          obtain ⟨g4, o4, rfl, hg4, z0, z1, z2⟩ := sym_at hr4 (k := gs.length) (by simp)
          rw [show ((gs ++ [gx]).map GoalC.state)[gs.length]'(by simp) = sN L from by simp [HGS.out]] at z0 z1 z2
          have b3 : (0 : Int) ≤ (gs.length : Int) := by omega
          have b4 : (gs.length : Int) < ((gs.length + 1 : Nat) : Int) := by omega
          have b5 : gs.length < gs.length + 1 := by omega
          have HB4 := Lib.hid hb4
          clear hr4 hA4 hb4
          go_wp2_with fail
          obtain ⟨V, hV⟩ : ∃ V, V = w4.alloc (.cells #[.int .i64 (sN L).kind, .string (sN L).text, .int .i64 (sN L).n] 36) := ⟨_, rfl⟩
          rw [← hV]
          have hbV : Below w3.heap.size w3 V := by rw [hV]; exact HB4.out.alloc HB4.out.size _
          have hkB : Blk V w4.heap.size 36 #[.int .i64 (sN L).kind, .string (sN L).text, .int .i64 (sN L).n] := by rw [hV]; exact Blk.new _ _ _
          obtain ⟨kx, hkx⟩ : ∃ kx, kx = w4.heap.size := ⟨_, rfl⟩
          rw [← hkx] at hkB ⊢
          have HBV := Lib.hid hbV
          have HKB := Lib.hid hkB
          clear hV hkx hbV hkB z0 z1 z2 b3 b4 b5 hg4
          refine (has_is Au cu U (sN L) V (ownsRow_rd Sym.cells_length (ownsRow_new HOW3.out HBV.out))).mono ?_
          rintro e w5 ⟨rfl, hb5⟩
          rw [sN_new HUL.out]
          have hk5 := HKB.out.new_ hb5
          have x0 : w5.cell? ⟨kx, 0, none⟩ = some (.int .i64 (sN L).kind) := (hk5.cell 0).trans rfl
          have x1 : w5.cell? ⟨kx, 1, none⟩ = some (.string (sN L).text) := (hk5.cell 1).trans rfl
          have x2 : w5.cell? ⟨kx, 2, none⟩ = some (.int .i64 (sN L).n) := (hk5.cell 2).trans rfl
          have hkl := hk5.lt
          have HB5 := Lib.hid (HBV.out.trans (hb5.mono HBV.out.size))
          have HOW5 := Lib.hid (ownsRow_new HOW3.out HB5.out)
          have hz5 := HB5.out.size
          have hz3 := HB3.out.size
          clear hk5 hb5
          go_wp2_with (at_builtin; refine wpList_append_src _ rfl (.tmp 101) (.tmp 103) 32 rfl 36 i0 _ 3 32 Try.underlying32 hi0 hz0 hz1 hz2 rfl (by omega) (.slice Au U.length cu) U.length (U.flatMap Sym.cells) rfl (ownsRow_new HOW5.out (by (repeat (first | exact Below.refl _ _ | (refine Below.drew ?_) | (refine Below.alloc ?_ (by simp <;> omega) _) | (refine Below.setCell ?_ (by simp <;> omega) _))))) _ 1 1 (Sym.cells (sN L)) rfl rfl (fun _ => ⟨_, rfl, news_alloc (by simp)⟩) (Sym.one _) (by unfold maxLen; omega) (by omega) ?_; intro v' w6 hown' hg hnil hat)
          obtain ⟨A6, c6, D6, rfl, h6, hDD6, hA6, hB6, hK6, hbe6, _, _⟩ := step_row (P := fun D W => GT D W T (pushL L)) (fun _ _ _ h hF hK => GT.grow h hF hK) (HG3.out.below HB5.out) (by (repeat (first | exact Below.refl _ _ | (refine Below.drew ?_) | (refine Below.alloc ?_ (by simp <;> omega) _) | (refine Below.setCell ?_ (by simp <;> omega) _)))) HOW5.out HAD.out HAB.out (by omega) hown' hg hat
          have HRD6 := Lib.hid (show RoundD w sb T dep (i + 1) A6 c6 (U ++ [sN L]) w6 from ⟨fun j => D6 j ∧ j ≠ sb, pushL L, gs ++ [gx], A3, c3, by rw [List.length_append, List.flatMap_append]; simpa using hown', fun a ha => ⟨hA6 a ha, fun e => by
              have hbk := (HS3.out.below HB5.out).kb hK6
              have := own_blk_ne hown' hbk.blk (by decide)
              subst ha
              exact this (by simp [Value.ownBlock, e])⟩, hB6, fun h => h.2 rfl, fun j hj => ⟨hDD6 j (HDW.out j hj), fun e => HSD.out (e ▸ HDW.out j hj)⟩, h6.weaken (fun _ h => h.1), (HS3.out.below HB5.out).kb hK6, by simp, by rw [List.length_append, List.length_singleton]; omega, by
                have := HGH.out
                cases gs with
                | nil => simp at this
                | cons g0 gt => simpa using this, fun x hx => by
                rcases List.mem_append.1 hx with hx | hx
                · exact pushL_mem.2 (.inl (HUL.out x hx))
                · rw [List.mem_singleton] at hx
                  exact pushL_mem.2 (.inr (.inr hx)), by rw [List.length_append, List.length_singleton]; omega, by rw [pushL_len (HG.out.list_).1]; have := HPL.out; omega, by rw [pushL_next]; have := HNX.out; omega, HB3.out.trans ((HB5.out.mono HB3.out.size).trans hbe6)⟩)
          clear h6 hDD6 hA6 hB6 hK6 hbe6 hown' hg hnil hat x0 x1 x2
          go_wp2_with fail
          go_roundw
          case rel => exact ⟨i + 1, A6, c6, U ++ [sN L], by go_num, by omega, by rw [List.length_append]; rfl, HRD6.out⟩
          case measure => simp [intOf] <;> omega
        · have t5 : decide ((gs.length : Int) < dep) = false := by simpa using hfull
          go_wp2_with fail
          refine (pushfull_is HG.out HS.out HSD.out (by omega) hgl100).mono ?_
          rintro e w3 ⟨rfl, hg3, hS3, hF⟩
          have how3 := ownsRow_fr HOWN.out hF (fun g hg hn => hn (by
            rcases Au with _ | a
            · simp [Value.ownBlock] at hg
            · have e : a.block = g := by simpa [Value.ownBlock] using hg
              exact e ▸ HAD.out a rfl))
          have HS3 := Lib.hid hS3
          have HRD6 := Lib.hid (show RoundD w sb T dep (i + 1) Au cu U w3 from ⟨D, L, gs, As, cs, how3, HAD.out, HAB.out, HSD.out, HDW.out, hg3, hS3, hg1, hgd, HGH.out, HUL.out, by omega, by have := HPL.out; omega, by have := HNX.out; omega, HB.out.trans (hF.below HB.out.size (fun k hk hn => hn (HDW.out k hk)))⟩)
          clear hg3 hS3 hF how3 q0
          go_wp2_with fail
          refine (len_is HS3.out).mono ?_
          rintro e w' ⟨rfl, rfl⟩
          go_wp2_with fail
          go_roundw
          case rel => exact ⟨i + 1, Au, cu, U, by go_num, by omega, rfl, HRD6.out⟩
          case measure => simp [intOf] <;> omega
      · have t3 : decide ((0 : Int) < (j4 : Int)) = false := by simp; omega
        have t3n : decide (0 < j4) = false := by simpa using hp
        clear hp
        go_wp2_with fail
        refine (withinN_is 9 (by decide) (by decide) _ _).mono ?_
        rintro e w' ⟨k, rfl, hk9, rfl⟩
        have vk : IntKind.i64.wrap ((k : Int) - 1) = (k : Int) - 1 := IntWalk.i64_in _ (by omega)
        have vn : IntKind.i64.wrap ((gs.length : Int) - max ((k : Int) - 1) 1) = (gs.length : Int) - max ((k : Int) - 1) 1 := IntWalk.i64_in _ (by omega)
        go_wp2_with fail
        refine (cut_is (k : Int) HS.out (by omega) (by omega) hg1 (by omega)).mono ?_
        rintro e w3 ⟨rfl, hcut⟩
        unfold CutTo at hcut
        obtain ⟨A3, c3, hS3, hF⟩ := hcut
        have how3 := ownsRow_fr HOWN.out hF (fun g hg hn => own_blk_ne HOWN.out HS.out.blk (by decide) (hn ▸ hg))
        have hk1 : 1 ≤ (max ((k : Int) - 1) 1).toNat := by omega
        have HRD6 := Lib.hid (show RoundD w sb T dep (i + 1) Au cu U w3 from ⟨D, L, _, A3, c3, how3, HAD.out, HAB.out, HSD.out, HDW.out, HG.out.off HS.out.blk (by decide) (by decide) (by decide) (by decide) (by decide) (by decide) hF, hS3, by rw [List.length_take]; omega, by rw [List.length_take]; omega, by
            have := HGH.out
            cases gs with
            | nil => simp at this
            | cons g0 gt =>
              obtain ⟨m, hm⟩ : ∃ m, (max ((k : Int) - 1) 1).toNat = m + 1 := ⟨(max ((k : Int) - 1) 1).toNat - 1, by omega⟩
              rw [hm, List.take_succ_cons]
              simpa using this, HUL.out, by omega, by have := HPL.out; omega, by have := HNX.out; omega, HB.out.trans (hF.below HB.out.size (fun j hj e => HSD.out (e ▸ HDW.out j hj)))⟩)
        clear hS3 hF how3 hk1 q0
        go_wp2_with fail
        go_roundw
        case rel => exact ⟨i + 1, Au, cu, U, by go_num, by omega, rfl, HRD6.out⟩
        case measure => simp [intOf] <;> omega
    · have hie : i = l1.length := by omega
      subst hie
      go_wp2_with fail
      refine (states_is HS.out (by omega)).mono ?_
      rintro e w4 ⟨A4, c4, rfl, hr4, hA4, hb4⟩
      obtain ⟨g4, o4, rfl, hg4, z0, z1, z2⟩ := sym_at hr4 (k := 0) (by rw [List.length_map]; omega)
      rw [show (gs.map GoalC.state)[0]'(by rw [List.length_map]; omega) = ⟨1, ⟨#[83]⟩, 1⟩ from by
        have := HGH.out
        cases gs with
        | nil => simp at this
        | cons g0 gt => simpa using this] at z0 z1 z2
      have z0 : w4.cell? ⟨g4, o4, none⟩ = some (.int .i64 1) := by simpa using z0
      have z1 : w4.cell? ⟨g4, o4 + 1, none⟩ = some (.string ⟨#[83]⟩) := by simpa using z1
      have z2 : w4.cell? ⟨g4, o4 + 2, none⟩ = some (.int .i64 1) := by simpa using z2
      have HS4 := Lib.hid (HS.out.below hb4)
      have HB4 := Lib.hid (HB.out.trans (hb4.mono HB.out.size))
      have tg : decide ((1 : Int) ≤ (gs.length : Int)) = true := by simp; omega
      have tgn : decide (1 ≤ gs.length) = true := by simpa using hg1
      have b3 : (0 : Int) < (gs.length : Int) := by omega
      have b4 : 0 < gs.length := by omega
      clear hr4 hA4 hb4
      go_wp2_with fail
      refine wp_region_E (fun w9 => Below w4.heap.size w4 w9) [(0, 0), (1, 0), (2, 0), (3, 2), (4, 0), (5, 0), (6, 0), (7, 0), (8, 0), (9, 0), (10, 0), (11, 0), (12, 0), (13, 1), (14, 2), (15, 0), (16, 0), (17, 0), (18, 2), (19, 0), (20, 0)] (by kernel_rfl) (by kernel_rfl) (fun KK hKK => ?_)
      simp only [beside, List.filterMap_cons, List.filterMap_nil, List.getElem?_toArray, List.getElem?_cons_zero, List.getElem?_cons_succ, Option.map_some]
      repeat (first | (refine wpX_w ?_ (Or.inl ⟨by rfl, fun w9 => ?_⟩) ?_; rotate_left 1; go_simp; with_reducible rfl; simp only [Act.put, List.setIfInBounds_toArray, List.set_cons_zero, List.set_cons_succ]) | (refine wpX_l ?_ (((Below.refl _ _).drew)) (Or.inl ⟨by rfl, fun w9 hw9 => ?_⟩) ?_; rotate_left 1; obtain ⟨hc9, hf9⟩ := bcell hw9; go_simp; with_reducible rfl; simp only [Act.put, List.setIfInBounds_toArray, List.set_cons_zero, List.set_cons_succ]) | (refine wpX_w undef (Or.inr ⟨by rfl, rfl⟩) ?_; simp only [Act.put, List.setIfInBounds_toArray, List.set_cons_zero, List.set_cons_succ]) | (refine wpX_l undef (((Below.refl _ _).drew)) (Or.inr ⟨by rfl, rfl⟩) ?_; simp only [Act.put, List.setIfInBounds_toArray, List.set_cons_zero, List.set_cons_succ]))
      refine wpX_es (fun K9 hK9 => ?_)
      go_simp
      refine (len_is (HS4.out.below ((Below.refl _ _).drew))).mono ?_
      rintro e w5 ⟨rfl, hw5⟩
      have HB5 := Lib.hid (show Below w4.heap.size w4 w5 by rw [← hw5]; exact (Below.refl _ _).drew)
      clear hw5
      refine hK9 _ _ HB5.out ?_
      clear hK9 K9
      repeat (first | (refine wpX_w ?_ (Or.inl ⟨by rfl, fun w9 => ?_⟩) ?_; rotate_left 1; go_simp; with_reducible rfl; simp only [Act.put, List.setIfInBounds_toArray, List.set_cons_zero, List.set_cons_succ]) | (refine wpX_l ?_ (HB5.out) (Or.inl ⟨by rfl, fun w9 hw9 => ?_⟩) ?_; rotate_left 1; obtain ⟨hc9, hf9⟩ := bcell hw9; go_simp; with_reducible rfl; simp only [Act.put, List.setIfInBounds_toArray, List.set_cons_zero, List.set_cons_succ]) | (refine wpX_w undef (Or.inr ⟨by rfl, rfl⟩) ?_; simp only [Act.put, List.setIfInBounds_toArray, List.set_cons_zero, List.set_cons_succ]) | (refine wpX_l undef (HB5.out) (Or.inr ⟨by rfl, rfl⟩) ?_; simp only [Act.put, List.setIfInBounds_toArray, List.set_cons_zero, List.set_cons_succ]))
      refine wpX_es (fun K9 hK9 => ?_)
      go_simp
      refine (symI_is _ _ _).mono ?_
      rintro e w6 ⟨rfl, hb6⟩
      have HB6 := Lib.hid (HB5.out.trans (hb6.mono HB5.out.size))
      clear hb6
      refine hK9 _ _ HB6.out ?_
      clear hK9 K9
      repeat (first | (refine wpX_w ?_ (Or.inl ⟨by rfl, fun w9 => ?_⟩) ?_; rotate_left 1; go_simp; with_reducible rfl; simp only [Act.put, List.setIfInBounds_toArray, List.set_cons_zero, List.set_cons_succ]) | (refine wpX_l ?_ (HB6.out) (Or.inl ⟨by rfl, fun w9 hw9 => ?_⟩) ?_; rotate_left 1; obtain ⟨hc9, hf9⟩ := bcell hw9; go_simp; with_reducible rfl; simp only [Act.put, List.setIfInBounds_toArray, List.set_cons_zero, List.set_cons_succ]) | (refine wpX_w undef (Or.inr ⟨by rfl, rfl⟩) ?_; simp only [Act.put, List.setIfInBounds_toArray, List.set_cons_zero, List.set_cons_succ]) | (refine wpX_l undef (HB6.out) (Or.inr ⟨by rfl, rfl⟩) ?_; simp only [Act.put, List.setIfInBounds_toArray, List.set_cons_zero, List.set_cons_succ]))
      refine wpX_e (by kernel_rfl) (fun K9 hK9 => ?_)
      go_simp
      refine (wakes19_is _).mono ?_
      rintro e w7 ⟨rfl, hb7⟩
      have HB7 := Lib.hid (HB6.out.trans (hb7.mono HB6.out.size))
      clear hb7
      refine hK9 _ _ ?_
      clear hK9 K9
      repeat (first | (refine wpX_w ?_ (Or.inl ⟨by rfl, fun w9 => ?_⟩) ?_; rotate_left 1; go_simp; with_reducible rfl; simp only [Act.put, List.setIfInBounds_toArray, List.set_cons_zero, List.set_cons_succ]) | (refine wpX_l ?_ (HB6.out) (Or.inl ⟨by rfl, fun w9 hw9 => ?_⟩) ?_; rotate_left 1; obtain ⟨hc9, hf9⟩ := bcell hw9; go_simp; with_reducible rfl; simp only [Act.put, List.setIfInBounds_toArray, List.set_cons_zero, List.set_cons_succ]) | (refine wpX_w undef (Or.inr ⟨by rfl, rfl⟩) ?_; simp only [Act.put, List.setIfInBounds_toArray, List.set_cons_zero, List.set_cons_succ]) | (refine wpX_l undef (HB6.out) (Or.inr ⟨by rfl, rfl⟩) ?_; simp only [Act.put, List.setIfInBounds_toArray, List.set_cons_zero, List.set_cons_succ]))
      refine wpX_nil ?_
      simp only [OnlyN_normal]
      refine hKK _ _ ?_
      clear hKK KK
      go_wp2_with fail
      go_ret
      exact ⟨rfl, HB4.out.trans (HB7.out.mono HB4.out.size)⟩
end Go.Proofs.Ythogokcbbkjcdaa
