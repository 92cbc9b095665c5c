/-
  NARROWER THAN 'FOR EVERY INPUT', by the rows' own cells (each row's printed sentence says how): BackWalks: loops · BackOrders: loops · BackGrounds: loops · BackMore: loops · BackNames: loops.
  DERIVED. THE GIVEN ROWS OF THIS SEAT. 5 by the template 'for every input the law returns true; each argument reads behind the call as it read before'; 0 by the template 'total and deterministic' (their statements: YtnfgilbaglfkeaaTotals.lean).
  GIVEN WITH THE SEED: the statements are not yours to turn. If you find one false, say at which input.
  Laid BY PROGRAM, IN A SANDBOX (cutbox-rows.mjs): the forced cells as the released guide's own fill.sh prints them over the translation 585b1430a08825c6… (all of the seat's roots in one cut). By AI agents, Wed Nov 11 2026. No macro, syntax, notation, axiom, sorry.
-/
import Derived.Test.YtnfgilbaglfkeaaChecked
import GoSem.Claim
import GoSem.ClaimJoined
import GoSem.ClaimMapViews
import Derived.JoinedTies
import Derived.KernelRfl
namespace Go.Proofs.Ytnfgilbaglfkeaa
/- THE CELL 'sum', in the pinned program and in every row, IS THE sha256 OF THE DUMP (.gsa) THAT YtnfgilbaglfkeaaProg.lean LOADS. Nothing in Lean hashes anything: it is a label: what it is worth is what the hold of that sum in a sandbox is worth. -/
noncomputable def Try.pinned : Pinned := { name := "ytnfgilbaglfkeaa", sum := "585b1430a08825c6fd9f7e4d556b9a8e31c290b56005a452837933cbb3d71f6a", checked := Try.checked }
namespace Rows
def none {H : Type} : Left H := { results := [], args := [] }

/-- 'ponderlaw21.BackWalks': WHATEVER THE INPUT: true; the input reads as it did. -/
def backWalksSpec : ChangeSpec := { name := "backWalks", fn := fun _ => fun
  | [d1, d2, d3] => { results := [.lit (.bool true)], args := [d1, d2, d3] }
  | _ => none }
def backWalksRow : OpenClaim := { program := "ytnfgilbaglfkeaa", sum := "585b1430a08825c6fd9f7e4d556b9a8e31c290b56005a452837933cbb3d71f6a", func := "ponder/ponderlaw21.BackWalks", spec := "backWalks", unfollowed := true, recurses := true, loops := true, apart := false }
def BackWalksSaid : Prop := backWalksRow.holds Try.pinned (OpenSpec.ofChange backWalksSpec)

/-- ITS FALSE NEIGHBOUR: 'it returns false'. Refute it at one input. -/
def backWalksWrong : ChangeSpec := { name := "backWalks", fn := fun _ => fun
  | [d1, d2, d3] => { results := [.lit (.bool false)], args := [d1, d2, d3] }
  | _ => none }
def BackWalksWrongFalsely : Prop := backWalksRow.holds Try.pinned (OpenSpec.ofChange backWalksWrong)

/-- 'ponderlaw21.BackOrders': WHATEVER THE INPUT: true; the input reads as it did. -/
def backOrdersSpec : ChangeSpec := { name := "backOrders", fn := fun _ => fun
  | [d1, d2, d3, d4] => { results := [.lit (.bool true)], args := [d1, d2, d3, d4] }
  | _ => none }
def backOrdersRow : OpenClaim := { program := "ytnfgilbaglfkeaa", sum := "585b1430a08825c6fd9f7e4d556b9a8e31c290b56005a452837933cbb3d71f6a", func := "ponder/ponderlaw21.BackOrders", spec := "backOrders", unfollowed := true, recurses := true, loops := true, apart := false }
def BackOrdersSaid : Prop := backOrdersRow.holds Try.pinned (OpenSpec.ofChange backOrdersSpec)

/-- ITS FALSE NEIGHBOUR: 'it returns false'. Refute it at one input. -/
def backOrdersWrong : ChangeSpec := { name := "backOrders", fn := fun _ => fun
  | [d1, d2, d3, d4] => { results := [.lit (.bool false)], args := [d1, d2, d3, d4] }
  | _ => none }
def BackOrdersWrongFalsely : Prop := backOrdersRow.holds Try.pinned (OpenSpec.ofChange backOrdersWrong)

/-- 'ponderlaw21.BackGrounds': WHATEVER THE INPUT: true; the input reads as it did. -/
def backGroundsSpec : ChangeSpec := { name := "backGrounds", fn := fun _ => fun
  | [d1, d2, d3] => { results := [.lit (.bool true)], args := [d1, d2, d3] }
  | _ => none }
def backGroundsRow : OpenClaim := { program := "ytnfgilbaglfkeaa", sum := "585b1430a08825c6fd9f7e4d556b9a8e31c290b56005a452837933cbb3d71f6a", func := "ponder/ponderlaw21.BackGrounds", spec := "backGrounds", unfollowed := true, recurses := true, loops := true, apart := false }
def BackGroundsSaid : Prop := backGroundsRow.holds Try.pinned (OpenSpec.ofChange backGroundsSpec)

/-- ITS FALSE NEIGHBOUR: 'it returns false'. Refute it at one input. -/
def backGroundsWrong : ChangeSpec := { name := "backGrounds", fn := fun _ => fun
  | [d1, d2, d3] => { results := [.lit (.bool false)], args := [d1, d2, d3] }
  | _ => none }
def BackGroundsWrongFalsely : Prop := backGroundsRow.holds Try.pinned (OpenSpec.ofChange backGroundsWrong)

/-- 'ponderlaw21.BackMore': WHATEVER THE INPUT: true; the input reads as it did. -/
def backMoreSpec : ChangeSpec := { name := "backMore", fn := fun _ => fun
  | [d1, d2, d3, d4] => { results := [.lit (.bool true)], args := [d1, d2, d3, d4] }
  | _ => none }
def backMoreRow : OpenClaim := { program := "ytnfgilbaglfkeaa", sum := "585b1430a08825c6fd9f7e4d556b9a8e31c290b56005a452837933cbb3d71f6a", func := "ponder/ponderlaw21.BackMore", spec := "backMore", unfollowed := true, recurses := true, loops := true, apart := false }
def BackMoreSaid : Prop := backMoreRow.holds Try.pinned (OpenSpec.ofChange backMoreSpec)

/-- ITS FALSE NEIGHBOUR: 'it returns false'. Refute it at one input. -/
def backMoreWrong : ChangeSpec := { name := "backMore", fn := fun _ => fun
  | [d1, d2, d3, d4] => { results := [.lit (.bool false)], args := [d1, d2, d3, d4] }
  | _ => none }
def BackMoreWrongFalsely : Prop := backMoreRow.holds Try.pinned (OpenSpec.ofChange backMoreWrong)

/-- 'ponderlaw21.BackNames': WHATEVER THE INPUT: true; the input reads as it did. -/
def backNamesSpec : ChangeSpec := { name := "backNames", fn := fun _ => fun
  | [d1, d2] => { results := [.lit (.bool true)], args := [d1, d2] }
  | _ => none }
def backNamesRow : OpenClaim := { program := "ytnfgilbaglfkeaa", sum := "585b1430a08825c6fd9f7e4d556b9a8e31c290b56005a452837933cbb3d71f6a", func := "ponder/ponderlaw21.BackNames", spec := "backNames", unfollowed := true, recurses := true, loops := true, apart := false }
def BackNamesSaid : Prop := backNamesRow.holds Try.pinned (OpenSpec.ofChange backNamesSpec)

/-- ITS FALSE NEIGHBOUR: 'it returns false'. Refute it at one input. -/
def backNamesWrong : ChangeSpec := { name := "backNames", fn := fun _ => fun
  | [d1, d2] => { results := [.lit (.bool false)], args := [d1, d2] }
  | _ => none }
def BackNamesWrongFalsely : Prop := backNamesRow.holds Try.pinned (OpenSpec.ofChange backNamesWrong)

/- THE SECOND FORM. 'bulk': how many values and letters a reading holds, each counted each time it is reached (what is shared counts as often as it is met; a slice's spare places count too). A statement '..UptoSaid' is the law's where the arguments, and the package variables that the reading takes, are together of bulk at most 1048576: NARROWER than '..Said'. Prove '..Said' where nothing that the law and all that it calls make is longer than what came in: it says more and counts as full. Else prove '..UptoSaid'. A law counts once. -/
mutual
def uptoBulk {H : Type} : DataW H → Nat
  | .lit (.string bytes) => bytes.length + 1
  | .lit _ => 1
  | .nil => 1
  | .ptr d => uptoBulk d + 1
  | .slice elems spare => uptoBulkAll elems + uptoBulkAll spare + 1
  | .agg parts => uptoBulkAll parts + 1
  | .iface _ d => uptoBulk d + 1
  | .map entries => uptoBulkEntries entries + 1
  | .held _ => 1
def uptoBulkAll {H : Type} : List (DataW H) → Nat
  | [] => 0
  | d :: r => uptoBulk d + uptoBulkAll r
def uptoBulkEntries {H : Type} : List (Lit × DataW H) → Nat
  | [] => 0
  | x :: r => uptoBulkEntry x + uptoBulkEntries r
def uptoBulkEntry {H : Type} : Lit × DataW H → Nat
  | (.string bytes, d) => bytes.length + uptoBulk d + 1
  | (_, d) => uptoBulk d + 1
 end
def uptoSmall : (H : Type) → List (DataW H) → Bool := fun _ ds => decide (uptoBulkAll ds ≤ 1048576)
def OpenSpec.upto (s : _root_.Go.ChangeSpec) : _root_.Go.OpenSpec := { _root_.Go.OpenSpec.ofChange s with cond := some uptoSmall }

/-- 'ponderlaw21.BackWalks', WHERE WHAT IT READS IS OF BULK AT MOST 1048576: true; the input reads as it did. -/
def backWalksUptoRow : OpenClaim := { program := "ytnfgilbaglfkeaa", sum := "585b1430a08825c6fd9f7e4d556b9a8e31c290b56005a452837933cbb3d71f6a", func := "ponder/ponderlaw21.BackWalks", spec := "backWalks", unfollowed := true, recurses := true, loops := true, apart := false, narrowed := true }
def BackWalksUptoSaid : Prop := backWalksUptoRow.holds Try.pinned (OpenSpec.upto backWalksSpec)

/-- 'ponderlaw21.BackOrders', WHERE WHAT IT READS IS OF BULK AT MOST 1048576: true; the input reads as it did. -/
def backOrdersUptoRow : OpenClaim := { program := "ytnfgilbaglfkeaa", sum := "585b1430a08825c6fd9f7e4d556b9a8e31c290b56005a452837933cbb3d71f6a", func := "ponder/ponderlaw21.BackOrders", spec := "backOrders", unfollowed := true, recurses := true, loops := true, apart := false, narrowed := true }
def BackOrdersUptoSaid : Prop := backOrdersUptoRow.holds Try.pinned (OpenSpec.upto backOrdersSpec)

/-- 'ponderlaw21.BackGrounds', WHERE WHAT IT READS IS OF BULK AT MOST 1048576: true; the input reads as it did. -/
def backGroundsUptoRow : OpenClaim := { program := "ytnfgilbaglfkeaa", sum := "585b1430a08825c6fd9f7e4d556b9a8e31c290b56005a452837933cbb3d71f6a", func := "ponder/ponderlaw21.BackGrounds", spec := "backGrounds", unfollowed := true, recurses := true, loops := true, apart := false, narrowed := true }
def BackGroundsUptoSaid : Prop := backGroundsUptoRow.holds Try.pinned (OpenSpec.upto backGroundsSpec)

/-- 'ponderlaw21.BackMore', WHERE WHAT IT READS IS OF BULK AT MOST 1048576: true; the input reads as it did. -/
def backMoreUptoRow : OpenClaim := { program := "ytnfgilbaglfkeaa", sum := "585b1430a08825c6fd9f7e4d556b9a8e31c290b56005a452837933cbb3d71f6a", func := "ponder/ponderlaw21.BackMore", spec := "backMore", unfollowed := true, recurses := true, loops := true, apart := false, narrowed := true }
def BackMoreUptoSaid : Prop := backMoreUptoRow.holds Try.pinned (OpenSpec.upto backMoreSpec)

/-- 'ponderlaw21.BackNames', WHERE WHAT IT READS IS OF BULK AT MOST 1048576: true; the input reads as it did. -/
def backNamesUptoRow : OpenClaim := { program := "ytnfgilbaglfkeaa", sum := "585b1430a08825c6fd9f7e4d556b9a8e31c290b56005a452837933cbb3d71f6a", func := "ponder/ponderlaw21.BackNames", spec := "backNames", unfollowed := true, recurses := true, loops := true, apart := false, narrowed := true }
def BackNamesUptoSaid : Prop := backNamesUptoRow.holds Try.pinned (OpenSpec.upto backNamesSpec)

end Rows
end Go.Proofs.Ytnfgilbaglfkeaa
