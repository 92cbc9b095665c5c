/-
  Iterators over a set's list: what they keep, how they begin, what is asked of the rounds.
-/
import Derived.Test.YthhhhjllpejpgaaRows
import Derived.Test.YthhhhjllpejpgaaRange
import Derived.Test.YthhhhjllpejpgaaPlain
namespace Go.Proofs.Ythhhhjllpejpgaa
open Go.RowKit Go.Shelf

/-- The row that an iterator reads lies as it lay. -/
def RowKeep (A : Option Addr) (W W' : World) : Prop := W.heap.size ≤ W'.heap.size ∧ ∀ a, A = some a → a.block < W.heap.size → W'.heap[a.block]? = W.heap[a.block]?
theorem RowKeep.trans {A : Option Addr} {X Y Z : World} (h : RowKeep A X Y) (k : RowKeep A Y Z) : RowKeep A X Z := ⟨Nat.le_trans h.1 k.1, fun a e hl => (k.2 a e (Nat.lt_of_lt_of_le hl h.1)).trans (h.2 a e hl)⟩
theorem RowKeep.of_priv {A : Option Addr} {B : Nat} {X Y : World} (hA : AIn A (· < B)) (h : Priv B X Y) : RowKeep A X Y := ⟨h.size, fun a e hl => h.block _ hl (.inl (hA a e))⟩
theorem RowKeep.of_below {A : Option Addr} {B : Nat} {X Y : World} (hA : AIn A (· < B)) (h : Below B X Y) : RowKeep A X Y := ⟨h.size, fun a e _ => h.block _ (hA a e)⟩
theorem RowKeep.rd {α : Type} {size c : Nat} {cells : α → List Value} {A : Option Addr} {l : List α} {W W' : World} (hk : RowKeep A W W') (h : RowRd W size cells A c l) : RowRd W' size cells A c l :=
  h.keep hk.1 (fun p hp ⟨a, ha, hb⟩ => World.cell?_of_block (by rw [← hb]; exact hk.2 a ha (by rw [hb]; exact hp)))
/-- What such an iterator does ahead of the first round: it may make new memory; the set is marked as seen. -/
def SeenStart (b : Nat) (X Y : World) : Prop := ∃ X1, Below X.heap.size X X1 ∧ Y = X1.setCell ⟨b, 1, none⟩ (.bool true)
theorem SeenStart.keeps {b B : Nat} {X Y : World} (h : SeenStart b X Y) : KeepsFrom B X Y := by
  obtain ⟨X1, hb, rfl⟩ := h
  refine KeepsFrom.set_ ⟨hb.size, fun k o _ hk _ => (hb.block k (Array.getElem?_eq_some_iff.1 hk).1).trans hk⟩ _ _
theorem SeenStart.set_ {α : Type} {tSet tE size : Nat} {cells : α → List Value} {W W1 : World} {b : Nat} {sn : Bool} {A : Option Addr} {c : Nat} {l : List α} (h : SeenStart b W W1) (hS : SetAt tSet tE size cells W b sn A c l) (hne : tE ≠ tSet) : SetAt tSet tE size cells W1 b true A c l := by
  obtain ⟨X1, hb, rfl⟩ := h
  refine ⟨(hS.new_ hb).blk.set_ 1 _, ownsRow_setCell_other (hS.new_ hb).row ?_ _⟩
  exact own_blk_ne hS.row hS.blk hne
theorem SeenStart.fr {b : Nat} {W W1 : World} (h : SeenStart b W W1) : Fr (· = b) W W1 := by
  obtain ⟨X1, hb, rfl⟩ := h
  exact (Fr.of_new (M := (· = b)) hb).setCell (p := ⟨b, 1, none⟩) (.inl rfl) _
/-- What is asked of the rounds. -/
abbrev Rounds {α : Type} (lo : Nat) (encs : α → Array Value) (xs : List α) (Kp : World → World → Prop) (J Jx : List α → World → Prop) : Prop :=
  ∀ pre x post W1, xs = pre ++ x :: post → J pre W1 → YieldAt Fence.wide 0 Try.prog lo (encs x) W1 fun e W' =>
      (e = .returned (.bool true) ∧ J (pre ++ [x]) W' ∧ Kp W1 W') ∨ (e = .returned (.bool false) ∧ Jx (pre ++ [x]) W')
abbrev Told {α : Type} (xs : List α) (J Jx : List α → World → Prop) (e : Ending) (W' : World) : Prop := (∃ v, e = .returned v) ∧ (J xs W' ∨ ∃ pre post, xs = pre ++ post ∧ Jx pre W')
end Go.Proofs.Ythhhhjllpejpgaa
