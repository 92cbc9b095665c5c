/-
  The walk of the law's without: a list without one.
-/
import Derived.Test.YthhhhjllpejpgaaRefBefore
namespace Go.Proofs.Ythhhhjllpejpgaa
open Go.RowKit
attribute [local go_sem] eql_sym neq_sym

theorem drop_take {l : List Sym} {x : Sym} {i : Nat} (h : i < l.length) : drop cmpSym (l.take (i + 1)) x = drop cmpSym (l.take i) x ++ if l[i] = x then [] else [l[i]] := by
  rw [List.take_add_one, List.getElem?_eq_getElem h]
  simp only [drop, Option.toList_some, List.filter_append]
  congr 1
  by_cases h2 : l[i] = x
  · simp [h2, cmpSym_eq.2 rfl]
  · have : cmpSym l[i] x ≠ 0 := fun h => h2 (cmpSym_eq.1 h)
    simp [h2, this]
set_option maxRecDepth 100000 in
set_option maxHeartbeats 2000000 in
theorem without_is (A : Option Addr) (c : Nat) (l : List Sym) (x : Sym) (w : World) (hrd : RowRd w 3 Sym.cells A c l) (hl : (l.length : Int) ≤ 100000000) :
    Calls Try.prog 19 #[.slice A l.length c, .agg #[.int .i64 x.kind, .string x.text, .int .i64 x.n]] w fun e w' => ∃ A' c', e = .returned (.slice A' (drop cmpSym l x).length c') ∧ RowRd w' 3 Sym.cells A' c' (drop cmpSym l x) ∧ AIn A' (fun k => w.heap.size ≤ k ∧ k < w'.heap.size) ∧ Below w.heap.size w w' := by
  obtain ⟨i0, hi0, hz0, hz1, hz2⟩ := info_parts info_Sym
  have HRD := Lib.hid hrd
  have hlc := hrd.cap
  clear hrd
  go_enter Try.func19, Try.ntmps19
  go_wp2_with fail
  obtain ⟨W0, hW0⟩ : ∃ W0, W0 = w.alloc (Obj.cells #[Value.int IntKind.i64 x.kind, Value.string x.text, Value.int IntKind.i64 x.n] 27) := ⟨_, rfl⟩
  have hB0 : Below w.heap.size w W0 := by rw [hW0]; exact (Below.refl _ _).alloc (Nat.le_refl _) _
  have hX0 : Blk W0 w.heap.size 27 #[.int .i64 x.kind, .string x.text, .int .i64 x.n] := by rw [hW0]; exact Blk.new _ _ _
  rw [← hW0]
  clear hW0
  have HB0 := Lib.hid hB0
  have HX0 := Lib.hid hX0
  clear hB0 hX0
  go_loopw [5, 6] (fun v s wr => ∃ i k : Nat, s = .int .i64 i ∧ i ≤ l.length ∧ k = (drop cmpSym (l.take i) x).length ∧ k ≤ i ∧ wr.ownsRow W0.heap.size 27 3 v k ((drop cmpSym (l.take i) x).flatMap Sym.cells) ∧ Below W0.heap.size W0 wr) (fun v s wr => l.length - (intOf s).toNat)
  case atStart => exact ⟨0, 0, rfl, Nat.zero_le _, by simp [drop], Nat.le_refl _, by simpa [drop] using owns_nil W0 W0.heap.size _ _, Below.refl _ _⟩
  case round =>
    obtain ⟨i, k, rfl, hi, hk, hki, hown, hB⟩ := hrel
    have HK := Lib.hid hk
    have HO := Lib.hid hown
    clear hk hown
    by_cases hlt : i < l.length
    · have hBw : Below w.heap.size w wr := HB0.out.trans (hB.mono HB0.out.size)
      obtain ⟨y, hy⟩ : ∃ y, y = l[i] := ⟨_, rfl⟩
      obtain ⟨g, off, rfl, hg, q0, q1, q2⟩ := sym_at (HRD.out.new_ hBw) hlt
      rw [← hy] at q0 q1 q2
      have hxr := HX0.out.new_ hB
      have hxl := hxr.lt
      have y0 := hxr.cell 0
      have y1 := hxr.cell 1
      have y2 := hxr.cell 2
      simp only [List.getElem?_toArray, List.getElem?_cons_zero, List.getElem?_cons_succ] at y0 y1 y2
      have HXR := Lib.hid hxr
      have HB := Lib.hid hB
      have HBw := Lib.hid hBw
      have HY := Lib.hid hy
      clear hB hBw hy hxr
      have b1 : (0 : Int) ≤ (i : Int) := by omega
      have b2 : (i : Int) < (l.length : Int) := by omega

      have hbe := neq_sym y x
      have hstep := drop_take (x := x) hlt
      rw [← HY.out] at hstep
      have HWZ := Lib.hid HB.out.size
      by_cases he : y = x
      · have t2 : decide (y = x) = true := by simpa using he
        rw [t2] at hbe
        rw [if_pos he, List.append_nil] at hstep
        have HE := Lib.hid hstep
        clear he hstep
        go_wp2_with fail
        go_quiet (fail)
        have HB1 := Lib.hid (Below.drewN' HB.out nq)
        clear q0 q1 q2 y0 y1 y2
        go_wp2_with fail
        go_roundw
        case rel => exact ⟨i + 1, k, by go_num, by omega, by rw [HE.out]; exact HK.out, by omega, by rw [HE.out]; exact HO.out, HB1.out⟩
        case measure => simp [intOf] <;> omega
      · have t2 : decide (y = x) = false := by simpa using he
        rw [t2] at hbe
        rw [if_neg he] at hstep
        have HE := Lib.hid hstep
        clear he hstep
        go_wp2_with fail
        go_quiet (fail)
        go_wp2_with (at_builtin; refine wpList_append_own _ rfl _ _ 22 rfl W0.heap.size 27 i0 _ 3 32 Try.underlying22 hi0 hz0 hz1 hz2 rfl (by decide) u5 k ((drop cmpSym (l.take i) x).flatMap Sym.cells) rfl (owns_below HO.out ((Below.drewN' (Below.refl _ wr) nq).alloc (Nat.le_refl _) _)) ⟨wr.heap.size, 0, none⟩ 1 1 (Sym.cells y) rfl rfl (World.news_of_block (heap_alloc_new _ _)) (Sym.one y) (by unfold maxLen; omega) (by omega) (by have := HWZ.out; simp; omega) ?_; intro v' w4 hown' hg hnil)
        obtain ⟨A', c', rfl, hA'⟩ := owns_form hown'
        have HO4 := Lib.hid hown'
        have HB4 := Lib.hid (((Below.drewN' HB.out nq).alloc (by simpa using HB.out.size) (.cells #[.int .i64 y.kind, .string y.text, .int .i64 y.n] 27)).grown hg (by have := HB.out.size; simp; omega) (fun k hk => owns_block HO.out k hk))
        clear hown' hg hnil q0 q1 q2 y0 y1 y2
        go_wp2_with fail
        go_roundw
        case rel => exact ⟨i + 1, k + 1, by go_num, by omega, by rw [HE.out, List.length_append, ← HK.out]; rfl, by omega, by rw [HE.out, List.flatMap_append]; simpa using HO4.out, HB4.out⟩
        case measure => simp [intOf] <;> omega
    · have hie : i = l.length := by omega
      subst hie
      have HB := Lib.hid hB
      clear hB
      obtain ⟨A', c', rfl, hA'⟩ := owns_form HO.out
      have HA := Lib.hid hA'
      clear hA'
      go_wp2_with fail
      go_ret
      have e := HK.out
      have ho := HO.out
      rw [List.take_length] at e ho
      subst e
      have hf : wr.ownsRow 0 27 3 (.slice A' (drop cmpSym l x).length c') (drop cmpSym l x).length ((drop cmpSym l x).flatMap Sym.cells) := owns_base ho (Nat.zero_le _)
      refine ⟨A', c', rfl, ownsRow_rd Sym.cells_length hf, fun a ha => ⟨?_, ?_⟩, HB0.out.trans (HB.out.mono HB0.out.size)⟩
      · have := HA.out a ha; have := HB0.out.size; omega
      · subst ha
        rcases ownsRow_form hf with ⟨hv, _⟩ | ⟨g, cap, hv, _, _, hr, _⟩
        · cases hv
        · injection hv with hv; injection hv with hv; subst hv; exact hr.lt
end Go.Proofs.Ythhhhjllpejpgaa
