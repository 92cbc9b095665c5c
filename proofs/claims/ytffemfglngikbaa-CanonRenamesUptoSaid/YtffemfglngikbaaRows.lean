/-
  NARROWER THAN 'FOR EVERY INPUT', by the rows' own cells (each row's printed sentence says how): CanonVars: loops · CanonRenames: loops · CanonAgain: loops · CanonOther: loops.
  DERIVED. THE GIVEN ROWS OF THIS SEAT. 4 by the template 'for every input the law returns true; each argument reads behind the call as it read before'; 0 by the template 'total and deterministic' (their statements: YtffemfglngikbaaTotals.lean).
  GIVEN WITH THE SEED: the statements are not yours to turn. If you find one false, say at which input.
  Laid BY PROGRAM, IN A SANDBOX (cutbox-rows.mjs): the forced cells as the released guide's own fill.sh prints them over the translation c2fa61ec9b8c6cc9… (all of the seat's roots in one cut). By AI agents, Wed Nov 11 2026. No macro, syntax, notation, axiom, sorry.
-/
import Derived.Test.YtffemfglngikbaaChecked
import GoSem.Claim
import GoSem.ClaimJoined
import GoSem.ClaimMapViews
import Derived.JoinedTies
import Derived.KernelRfl
namespace Go.Proofs.Ytffemfglngikbaa
/- THE CELL 'sum', in the pinned program and in every row, IS THE sha256 OF THE DUMP (.gsa) THAT YtffemfglngikbaaProg.lean LOADS. Nothing in Lean hashes anything: it is a label: what it is worth is what the hold of that sum in a sandbox is worth. -/
noncomputable def Try.pinned : Pinned := { name := "ytffemfglngikbaa", sum := "c2fa61ec9b8c6cc9ee55c37cfbe4a7273b827ba334c9876fdcc4705b9cb59b49", checked := Try.checked }
namespace Rows
def none {H : Type} : Left H := { results := [], args := [] }

/-- 'ponderlaw23.CanonVars': WHATEVER THE INPUT: true; the input reads as it did. -/
def canonVarsSpec : ChangeSpec := { name := "canonVars", fn := fun _ => fun
  | [d1, d2] => { results := [.lit (.bool true)], args := [d1, d2] }
  | _ => none }
def canonVarsRow : OpenClaim := { program := "ytffemfglngikbaa", sum := "c2fa61ec9b8c6cc9ee55c37cfbe4a7273b827ba334c9876fdcc4705b9cb59b49", func := "ponder/ponderlaw23.CanonVars", spec := "canonVars", unfollowed := true, recurses := true, loops := true, apart := false }
def CanonVarsSaid : Prop := canonVarsRow.holds Try.pinned (OpenSpec.ofChange canonVarsSpec)

/-- ITS FALSE NEIGHBOUR: 'it returns false'. Refute it at one input. -/
def canonVarsWrong : ChangeSpec := { name := "canonVars", fn := fun _ => fun
  | [d1, d2] => { results := [.lit (.bool false)], args := [d1, d2] }
  | _ => none }
def CanonVarsWrongFalsely : Prop := canonVarsRow.holds Try.pinned (OpenSpec.ofChange canonVarsWrong)

/-- 'ponderlaw23.CanonRenames': WHATEVER THE INPUT: true; the input reads as it did. -/
def canonRenamesSpec : ChangeSpec := { name := "canonRenames", fn := fun _ => fun
  | [d1, d2, d3] => { results := [.lit (.bool true)], args := [d1, d2, d3] }
  | _ => none }
def canonRenamesRow : OpenClaim := { program := "ytffemfglngikbaa", sum := "c2fa61ec9b8c6cc9ee55c37cfbe4a7273b827ba334c9876fdcc4705b9cb59b49", func := "ponder/ponderlaw23.CanonRenames", spec := "canonRenames", unfollowed := true, recurses := true, loops := true, apart := false }
def CanonRenamesSaid : Prop := canonRenamesRow.holds Try.pinned (OpenSpec.ofChange canonRenamesSpec)

/-- ITS FALSE NEIGHBOUR: 'it returns false'. Refute it at one input. -/
def canonRenamesWrong : ChangeSpec := { name := "canonRenames", fn := fun _ => fun
  | [d1, d2, d3] => { results := [.lit (.bool false)], args := [d1, d2, d3] }
  | _ => none }
def CanonRenamesWrongFalsely : Prop := canonRenamesRow.holds Try.pinned (OpenSpec.ofChange canonRenamesWrong)

/-- 'ponderlaw23.CanonAgain': WHATEVER THE INPUT: true; the input reads as it did. -/
def canonAgainSpec : ChangeSpec := { name := "canonAgain", fn := fun _ => fun
  | [d] => { results := [.lit (.bool true)], args := [d] }
  | _ => none }
def canonAgainRow : OpenClaim := { program := "ytffemfglngikbaa", sum := "c2fa61ec9b8c6cc9ee55c37cfbe4a7273b827ba334c9876fdcc4705b9cb59b49", func := "ponder/ponderlaw23.CanonAgain", spec := "canonAgain", unfollowed := true, recurses := true, loops := true, apart := false }
def CanonAgainSaid : Prop := canonAgainRow.holds Try.pinned (OpenSpec.ofChange canonAgainSpec)

/-- ITS FALSE NEIGHBOUR: 'it returns false'. Refute it at one input. -/
def canonAgainWrong : ChangeSpec := { name := "canonAgain", fn := fun _ => fun
  | [d] => { results := [.lit (.bool false)], args := [d] }
  | _ => none }
def CanonAgainWrongFalsely : Prop := canonAgainRow.holds Try.pinned (OpenSpec.ofChange canonAgainWrong)

/-- 'ponderlaw23.CanonOther': WHATEVER THE INPUT: true; the input reads as it did. -/
def canonOtherSpec : ChangeSpec := { name := "canonOther", fn := fun _ => fun
  | [d1, d2, d3, d4] => { results := [.lit (.bool true)], args := [d1, d2, d3, d4] }
  | _ => none }
def canonOtherRow : OpenClaim := { program := "ytffemfglngikbaa", sum := "c2fa61ec9b8c6cc9ee55c37cfbe4a7273b827ba334c9876fdcc4705b9cb59b49", func := "ponder/ponderlaw23.CanonOther", spec := "canonOther", unfollowed := true, recurses := true, loops := true, apart := false }
def CanonOtherSaid : Prop := canonOtherRow.holds Try.pinned (OpenSpec.ofChange canonOtherSpec)

/-- ITS FALSE NEIGHBOUR: 'it returns false'. Refute it at one input. -/
def canonOtherWrong : ChangeSpec := { name := "canonOther", fn := fun _ => fun
  | [d1, d2, d3, d4] => { results := [.lit (.bool false)], args := [d1, d2, d3, d4] }
  | _ => none }
def CanonOtherWrongFalsely : Prop := canonOtherRow.holds Try.pinned (OpenSpec.ofChange canonOtherWrong)

/- THE SECOND FORM. 'bulk': how many values and letters a reading holds, each counted each time it is reached (what is shared counts as often as it is met; a slice's spare places count too). A statement '..UptoSaid' is the law's where the arguments, and the package variables that the reading takes, are together of bulk at most 1048576: NARROWER than '..Said'. Prove '..Said' where nothing that the law and all that it calls make is longer than what came in: it says more and counts as full. Else prove '..UptoSaid'. A law counts once. -/
mutual
def uptoBulk {H : Type} : DataW H → Nat
  | .lit (.string bytes) => bytes.length + 1
  | .lit _ => 1
  | .nil => 1
  | .ptr d => uptoBulk d + 1
  | .slice elems spare => uptoBulkAll elems + uptoBulkAll spare + 1
  | .agg parts => uptoBulkAll parts + 1
  | .iface _ d => uptoBulk d + 1
  | .map entries => uptoBulkEntries entries + 1
  | .held _ => 1
def uptoBulkAll {H : Type} : List (DataW H) → Nat
  | [] => 0
  | d :: r => uptoBulk d + uptoBulkAll r
def uptoBulkEntries {H : Type} : List (Lit × DataW H) → Nat
  | [] => 0
  | x :: r => uptoBulkEntry x + uptoBulkEntries r
def uptoBulkEntry {H : Type} : Lit × DataW H → Nat
  | (.string bytes, d) => bytes.length + uptoBulk d + 1
  | (_, d) => uptoBulk d + 1
 end
def uptoSmall : (H : Type) → List (DataW H) → Bool := fun _ ds => decide (uptoBulkAll ds ≤ 1048576)
def OpenSpec.upto (s : _root_.Go.ChangeSpec) : _root_.Go.OpenSpec := { _root_.Go.OpenSpec.ofChange s with cond := some uptoSmall }

/-- 'ponderlaw23.CanonVars', WHERE WHAT IT READS IS OF BULK AT MOST 1048576: true; the input reads as it did. -/
def canonVarsUptoRow : OpenClaim := { program := "ytffemfglngikbaa", sum := "c2fa61ec9b8c6cc9ee55c37cfbe4a7273b827ba334c9876fdcc4705b9cb59b49", func := "ponder/ponderlaw23.CanonVars", spec := "canonVars", unfollowed := true, recurses := true, loops := true, apart := false, narrowed := true }
def CanonVarsUptoSaid : Prop := canonVarsUptoRow.holds Try.pinned (OpenSpec.upto canonVarsSpec)

/-- 'ponderlaw23.CanonRenames', WHERE WHAT IT READS IS OF BULK AT MOST 1048576: true; the input reads as it did. -/
def canonRenamesUptoRow : OpenClaim := { program := "ytffemfglngikbaa", sum := "c2fa61ec9b8c6cc9ee55c37cfbe4a7273b827ba334c9876fdcc4705b9cb59b49", func := "ponder/ponderlaw23.CanonRenames", spec := "canonRenames", unfollowed := true, recurses := true, loops := true, apart := false, narrowed := true }
def CanonRenamesUptoSaid : Prop := canonRenamesUptoRow.holds Try.pinned (OpenSpec.upto canonRenamesSpec)

/-- 'ponderlaw23.CanonAgain', WHERE WHAT IT READS IS OF BULK AT MOST 1048576: true; the input reads as it did. -/
def canonAgainUptoRow : OpenClaim := { program := "ytffemfglngikbaa", sum := "c2fa61ec9b8c6cc9ee55c37cfbe4a7273b827ba334c9876fdcc4705b9cb59b49", func := "ponder/ponderlaw23.CanonAgain", spec := "canonAgain", unfollowed := true, recurses := true, loops := true, apart := false, narrowed := true }
def CanonAgainUptoSaid : Prop := canonAgainUptoRow.holds Try.pinned (OpenSpec.upto canonAgainSpec)

/-- 'ponderlaw23.CanonOther', WHERE WHAT IT READS IS OF BULK AT MOST 1048576: true; the input reads as it did. -/
def canonOtherUptoRow : OpenClaim := { program := "ytffemfglngikbaa", sum := "c2fa61ec9b8c6cc9ee55c37cfbe4a7273b827ba334c9876fdcc4705b9cb59b49", func := "ponder/ponderlaw23.CanonOther", spec := "canonOther", unfollowed := true, recurses := true, loops := true, apart := false, narrowed := true }
def CanonOtherUptoSaid : Prop := canonOtherUptoRow.holds Try.pinned (OpenSpec.upto canonOtherSpec)

end Rows
end Go.Proofs.Ytffemfglngikbaa
