/-
  The iterators of an ordered set at ponder/api.Sym: from, All, From, Back: each yields the list that the set has when its loop begins.
-/
import Derived.Test.YthhhhjllpejpgaaFindSym
import Derived.Test.YthhhhjllpejpgaaIterBase
namespace Go.Proofs.Ythhhhjllpejpgaa
open Go.RowKit Go.Shelf
attribute [local go_sem] Oper.semAt_some
/-- How an element is handed to a round. -/
def encSym (x : Sym) : Array Value := #[.agg #[.int .i64 x.kind, .string x.text, .int .i64 x.n]]

set_option maxRecDepth 100000 in
set_option maxHeartbeats 2000000 in
theorem from_Sym (lo b c k : Nat) (sn : Bool) (A : Option Addr) (l : List Sym) (W : World) (hS : SymSet W b sn A c l) (hk : k ≤ l.length) (J Jx : List Sym → World → Prop)
    (h0 : J [] (W.setCell ⟨b, 1, none⟩ (.bool true))) (hY : Rounds lo encSym (l.drop k) (RowKeep A) J Jx) :
    CallsIn Fence.wide 0 Try.prog 54 #[.pointer (some ⟨b, 0, none⟩), .int .i64 k, .func (.yield lo) #[] #[]] W (Told (l.drop k) J Jx) := by
  have s0 := hS.cell0
  have s1 := hS.cell1
  have f1 := hS.blk.frozen 1
  have hne := own_blk_ne hS.row hS.blk (by decide)
  have hrd : RowRd (W.setCell ⟨b, 1, none⟩ (.bool true)) 3 Sym.cells A c l := ownsRow_rd Sym.cells_length (ownsRow_setCell_other hS.row hne _)
  have hlm : (l.length : Int) ≤ 9223372036854775807 := by have := hrd.cap; omega
  have HRD := Lib.hid hrd
  have H0 := Lib.hid h0
  have HY := Lib.hid hY
  clear hS hrd h0 hY hne
  refine callsIn_of_wp Try.func54 rfl trivial ?_
  simp only [Try.ntmps54, List.size_toArray, List.length_cons, List.length_nil, Nat.reduceAdd, Nat.reduceSub, Array.replicate_succ, Array.replicate_zero, List.push_toArray, List.append_toArray, List.nil_append, List.cons_append]
  gi_wp2
  gi_loopw [7] (fun s wr => ∃ pre post, s = .int .i64 ((k + pre.length : Nat) : Int) ∧ l.drop k = pre ++ post ∧ J pre wr ∧ RowRd wr 3 Sym.cells A c l) (fun s wr => l.length - (intOf s).toNat)
  case atStart => exact ⟨[], l.drop k, by simp, by simp, H0.out, HRD.out⟩
  case round =>
    obtain ⟨pre, post, rfl, hx, hJ, hrd⟩ := hrel
    have hlen : k + pre.length + post.length = l.length := by have := congrArg List.length hx; simp at this; omega
    have HX := Lib.hid hx
    have HJ := Lib.hid hJ
    have HR := Lib.hid hrd
    clear hx hJ hrd
    cases post with
    | nil =>
      have e1 : ((k + pre.length : Nat) : Int) = (l.length : Int) := by simp at hlen; omega
      rw [e1]
      clear hlen e1
      gi_wp2
      go_end0
      exact ⟨⟨_, rfl⟩, .inl (by have := HX.out; rw [List.append_nil] at this; rw [this]; exact HJ.out)⟩
    | cons x post =>
      obtain ⟨m, hm⟩ : ∃ m, m = k + pre.length := ⟨_, rfl⟩
      have hml : m < l.length := by simp at hlen; omega
      have hget : l[m] = x := by
        apply Option.some.inj
        rw [← List.getElem?_eq_getElem, hm, ← List.getElem?_drop, HX.out]
        simp
      obtain ⟨g, off, rfl, hgs, hcell⟩ := HR.out.at_ hml
      rw [hget] at hcell
      have q0 : wr.cell? ⟨g, off + m * 3, none⟩ = some (.int .i64 x.kind) := by simpa using hcell 0 _ rfl
      have q1 : wr.cell? ⟨g, off + m * 3 + 1, none⟩ = some (.string x.text) := by simpa using hcell 1 _ rfl
      have q2 : wr.cell? ⟨g, off + m * 3 + 2, none⟩ = some (.int .i64 x.n) := by simpa using hcell 2 _ rfl
      have b1 : (0 : Int) ≤ (m : Int) := by omega
      have b2 : (m : Int) < (l.length : Int) := by omega
      rw [← hm]
      have HM := Lib.hid hm
      clear hcell hget hlen hm
      obtain ⟨fn, tmps, assign, body, hy, hR⟩ := HY.out pre x post wr HX.out HJ.out
      dsimp only [encSym] at hy
      have HRR := Lib.hid hR
      clear hR
      gi_wp2_with fail
      refine ⟨rfl, HRR.out.mono ?_⟩
      rintro e W3 (⟨rfl, hJ3, hk3⟩ | ⟨rfl, hJx3⟩)
      · have HJ3 := Lib.hid hJ3
        have HK3 := Lib.hid hk3
        clear hJ3 hk3 hy q0 q1 q2
        gi_wp2
        go_roundw
        case rel => exact ⟨pre ++ [x], post, by rw [HM.out, List.length_append, List.length_singleton]; go_num, by rw [HX.out]; simp, HJ3.out, HK3.out.rd HR.out⟩
        case measure => simp [intOf] <;> omega
      · have HJ3 := Lib.hid hJx3
        clear hJx3 hy q0 q1 q2
        gi_wp2
        refine bodyPost_ret (results_none rfl _ _ _) rfl ?_
        exact ⟨⟨_, rfl⟩, .inr ⟨pre ++ [x], post, by rw [HX.out]; simp, HJ3.out⟩⟩
set_option maxRecDepth 100000 in
set_option maxHeartbeats 2000000 in
theorem all_Sym (kb b c : Nat) (sn : Bool) (A : Option Addr) (l : List Sym) (W : World) (hbox : W.cell? ⟨kb, 0, none⟩ = some (.pointer (some ⟨b, 0, none⟩))) (hS : SymSet W b sn A c l) :
    Iter Try.prog 53 #[.pointer (some ⟨kb, 0, none⟩)] encSym l W (SeenStart b) (RowKeep A) := by
  intro lo J Jx _ _ h0 hY
  have H0 := Lib.hid (h0 (W.setCell ⟨b, 1, none⟩ (.bool true)) ⟨W, Below.refl _ _, rfl⟩)
  have HY := Lib.hid hY
  have HS := Lib.hid hS
  clear h0 hY hS
  refine callsIn_of_wp Try.func53 rfl trivial ?_
  simp only [Try.ntmps53, List.size_toArray, List.length_cons, List.length_nil, Nat.reduceAdd, Nat.reduceSub, Array.replicate_succ, Array.replicate_zero, List.push_toArray, List.append_toArray, List.nil_append, List.cons_append]
  gi_wp2_with fail
  have hz : ((0 : Nat) : Int) = 0 := rfl
  refine ⟨trivial, rfl, ?_⟩
  refine (from_Sym lo b c 0 sn A l W HS.out (Nat.zero_le _) J Jx H0.out (by rw [List.drop_zero]; exact HY.out)).mono ?_
  rintro e W3 ⟨⟨v, rfl⟩, h⟩
  rw [List.drop_zero] at h
  have H := Lib.hid h
  clear h
  gi_wp2
  go_end0
  exact ⟨⟨_, rfl⟩, H.out⟩
end Go.Proofs.Ythhhhjllpejpgaa
