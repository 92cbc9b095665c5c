/-
  Rows of elements of one cell: an element stored anew, an element read.
-/
import Derived.Test.YthhhhjllpejpgaaMem
import Derived.Deep.Cut
namespace Go.Proofs.Ythhhhjllpejpgaa
open Go.RowKit
theorem flat_set1 {α : Type} {cells : α → List Value} (hsz : ∀ x, (cells x).length = 1) (_h0 : 0 < 1) (l : List α) (k : Nat) (hk : k < l.length) (y : α) :
    setAll (l.flatMap cells) k (cells y) = (l.set k y).flatMap cells := by
  have h := flat_set hsz (by omega) l k hk y
  rwa [Nat.mul_one] at h
end Go.Proofs.Ythhhhjllpejpgaa
