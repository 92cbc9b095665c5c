/-
  The walk of the copy of a list of elements; the append of a row onto its end.
-/
import Derived.Test.YthhhhjllpejpgaaRefPutE
import Derived.Test.YthhhhjllpejpgaaOwn
namespace Go.Proofs.Ythhhhjllpejpgaa
open Go.RowKit
theorem own_rdE {w w' : World} {v : Value} {l : List Elem} {n : Nat} (hn : n ≤ w.heap.size) (ho : w'.ownsRow 0 72 12 v l.length (l.flatMap Elem.cells)) (hv : ∀ k, v.ownBlock = some k → n ≤ k) :
    ∃ A' c', v = .slice A' l.length c' ∧ RowRd w' 12 Elem.cells A' c' l ∧ AIn A' (fun k => n ≤ k ∧ k < w'.heap.size) := by
  obtain ⟨A', c', rfl, _⟩ := own_form2 ho
  refine ⟨A', c', rfl, ownsRow_rd Elem.cells_length ho, fun a ha => ?_⟩
  subst ha
  refine ⟨hv a.block rfl, ?_⟩
  rcases ownsRow_form ho with ⟨hv, _⟩ | ⟨g, cap, hv, _, _, hr, _⟩
  · cases hv
  · injection hv with hv; injection hv with hv; subst hv; exact hr.lt
set_option maxRecDepth 100000 in
set_option maxHeartbeats 4000000 in
theorem copyE_is (A : Option Addr) (c : Nat) (l : List Elem) (w : World) (hrd : RowRd w 12 Elem.cells A c l) (hl : (l.length : Int) ≤ 1000000) :
    Calls Try.prog 47 #[.slice A l.length c] w fun e w' => ∃ v, e = .returned v ∧ w'.ownsRow 0 72 12 v l.length (l.flatMap Elem.cells) ∧ (∀ k, v.ownBlock = some k → w.heap.size ≤ k) ∧ Below w.heap.size w w' := by
  obtain ⟨i0, hi0, hz0, hz1, hz2⟩ := info_parts info_Elem
  have HRD := Lib.hid hrd
  have hlc := hrd.cap
  have hlcc := hrd.1
  clear hrd
  go_enter Try.func47, Try.ntmps47
  go_wp2_with (at_builtin; refine wpList_append_src w rfl (.const (.slice none 0 0)) (.tmp 3) 68 rfl 72 i0 _ 12 112 Try.underlying68 hi0 hz0 hz1 hz2 rfl (by omega) (.slice none 0 0) 0 [] rfl (owns_nil w 0 _ _) A l.length c (l.flatMap Elem.cells) rfl (flat_length Elem.cells_length _) (HRD.out.news Elem.cells_length (by omega)) (Elem.oneAll _) (by unfold maxLen; omega) (by omega) ?_; intro v1 w2 hown1 hg1 hnil1 hat1)
  go_ret
  rw [Nat.zero_add, List.nil_append] at hown1
  exact ⟨v1, rfl, hown1, fresh_own (B := w.heap.size) hat1 (fun k hk => by simp [Value.ownBlock] at hk) (Nat.le_refl _), (Below.refl w.heap.size w).grown hg1 (Nat.le_refl _) (fun k hk => by simp [Value.ownBlock] at hk)⟩
end Go.Proofs.Ythhhhjllpejpgaa
