/-
  NARROWER THAN 'FOR EVERY INPUT', by the rows' own cells (each row's printed sentence says how): ActDoes: loops · BackMade: loops · BackHoles: loops.
  DERIVED. THE GIVEN ROWS OF THIS SEAT. 3 by the template 'for every input the law returns true; each argument reads behind the call as it read before'; 0 by the template 'total and deterministic' (their statements: YtfidcfjcmlgkbaaGreatTotals.lean).
  GIVEN WITH THE SEED: the statements are not yours to turn. If you find one false, say at which input.
  Laid BY PROGRAM, IN A SANDBOX (cutbox-rows.mjs): the forced cells as the released guide's own fill.sh prints them over the translation fed6e8394d987e75… (all of the seat's roots in one cut). By AI agents, Wed Nov 11 2026. No macro, syntax, notation, axiom, sorry.
-/
import Derived.Test.YtfidcfjcmlgkbaaGreatChecked
import GoSem.Claim
import GoSem.ClaimJoined
import GoSem.ClaimMapViews
import Derived.JoinedTies
import Derived.KernelRfl
namespace Go.Proofs.YtfidcfjcmlgkbaaGreat
/- THE CELL 'sum', in the pinned program and in every row, IS THE sha256 OF THE DUMP (.gsa) THAT YtfidcfjcmlgkbaaGreatProg.lean LOADS. Nothing in Lean hashes anything: it is a label: what it is worth is what the hold of that sum in a sandbox is worth. -/
noncomputable def Tryz.pinned : Pinned := { name := "ytfidcfjcmlgkbaagreat", sum := "fed6e8394d987e75d2b187c60eed160cfcac8a93737f644e976dcf622f0dbff6", checked := Tryz.checked }
namespace Rows
def none {H : Type} : Left H := { results := [], args := [] }

/-- 'ponderlaw15.ActDoes': WHATEVER THE INPUT: true; the input reads as it did. -/
def actDoesSpec : ChangeSpec := { name := "actDoes", fn := fun _ => fun
  | [d1, d2, d3, d4] => { results := [.lit (.bool true)], args := [d1, d2, d3, d4] }
  | _ => none }
def actDoesRow : OpenClaim := { program := "ytfidcfjcmlgkbaagreat", sum := "fed6e8394d987e75d2b187c60eed160cfcac8a93737f644e976dcf622f0dbff6", func := "ponder/ponderlaw15.ActDoes", spec := "actDoes", unfollowed := true, recurses := true, loops := true, apart := false }
def ActDoesSaid : Prop := actDoesRow.holds Tryz.pinned (OpenSpec.ofChange actDoesSpec)

/-- ITS FALSE NEIGHBOUR: 'it returns false'. Refute it at one input. -/
def actDoesWrong : ChangeSpec := { name := "actDoes", fn := fun _ => fun
  | [d1, d2, d3, d4] => { results := [.lit (.bool false)], args := [d1, d2, d3, d4] }
  | _ => none }
def ActDoesWrongFalsely : Prop := actDoesRow.holds Tryz.pinned (OpenSpec.ofChange actDoesWrong)

/-- 'ponderlaw21.BackMade': WHATEVER THE INPUT: true; the input reads as it did. -/
def backMadeSpec : ChangeSpec := { name := "backMade", fn := fun _ => fun
  | [d1, d2, d3, d4, d5, d6, d7, d8] => { results := [.lit (.bool true)], args := [d1, d2, d3, d4, d5, d6, d7, d8] }
  | _ => none }
def backMadeRow : OpenClaim := { program := "ytfidcfjcmlgkbaagreat", sum := "fed6e8394d987e75d2b187c60eed160cfcac8a93737f644e976dcf622f0dbff6", func := "ponder/ponderlaw21.BackMade", spec := "backMade", unfollowed := true, recurses := true, loops := true, apart := false }
def BackMadeSaid : Prop := backMadeRow.holds Tryz.pinned (OpenSpec.ofChange backMadeSpec)

/-- ITS FALSE NEIGHBOUR: 'it returns false'. Refute it at one input. -/
def backMadeWrong : ChangeSpec := { name := "backMade", fn := fun _ => fun
  | [d1, d2, d3, d4, d5, d6, d7, d8] => { results := [.lit (.bool false)], args := [d1, d2, d3, d4, d5, d6, d7, d8] }
  | _ => none }
def BackMadeWrongFalsely : Prop := backMadeRow.holds Tryz.pinned (OpenSpec.ofChange backMadeWrong)

/-- 'ponderlaw21.BackHoles': WHATEVER THE INPUT: true; the input reads as it did. -/
def backHolesSpec : ChangeSpec := { name := "backHoles", fn := fun _ => fun
  | [d1, d2] => { results := [.lit (.bool true)], args := [d1, d2] }
  | _ => none }
def backHolesRow : OpenClaim := { program := "ytfidcfjcmlgkbaagreat", sum := "fed6e8394d987e75d2b187c60eed160cfcac8a93737f644e976dcf622f0dbff6", func := "ponder/ponderlaw21.BackHoles", spec := "backHoles", unfollowed := true, recurses := true, loops := true, apart := false }
def BackHolesSaid : Prop := backHolesRow.holds Tryz.pinned (OpenSpec.ofChange backHolesSpec)

/-- ITS FALSE NEIGHBOUR: 'it returns false'. Refute it at one input. -/
def backHolesWrong : ChangeSpec := { name := "backHoles", fn := fun _ => fun
  | [d1, d2] => { results := [.lit (.bool false)], args := [d1, d2] }
  | _ => none }
def BackHolesWrongFalsely : Prop := backHolesRow.holds Tryz.pinned (OpenSpec.ofChange backHolesWrong)

/- THE SECOND FORM. 'bulk': how many values and letters a reading holds, each counted each time it is reached (what is shared counts as often as it is met; a slice's spare places count too). A statement '..UptoSaid' is the law's where the arguments, and the package variables that the reading takes, are together of bulk at most 1048576: NARROWER than '..Said'. Prove '..Said' where nothing that the law and all that it calls make is longer than what came in: it says more and counts as full. Else prove '..UptoSaid'. A law counts once. -/
mutual
def uptoBulk {H : Type} : DataW H → Nat
  | .lit (.string bytes) => bytes.length + 1
  | .lit _ => 1
  | .nil => 1
  | .ptr d => uptoBulk d + 1
  | .slice elems spare => uptoBulkAll elems + uptoBulkAll spare + 1
  | .agg parts => uptoBulkAll parts + 1
  | .iface _ d => uptoBulk d + 1
  | .map entries => uptoBulkEntries entries + 1
  | .held _ => 1
def uptoBulkAll {H : Type} : List (DataW H) → Nat
  | [] => 0
  | d :: r => uptoBulk d + uptoBulkAll r
def uptoBulkEntries {H : Type} : List (Lit × DataW H) → Nat
  | [] => 0
  | x :: r => uptoBulkEntry x + uptoBulkEntries r
def uptoBulkEntry {H : Type} : Lit × DataW H → Nat
  | (.string bytes, d) => bytes.length + uptoBulk d + 1
  | (_, d) => uptoBulk d + 1
 end
def uptoSmall : (H : Type) → List (DataW H) → Bool := fun _ ds => decide (uptoBulkAll ds ≤ 1048576)
def OpenSpec.upto (s : _root_.Go.ChangeSpec) : _root_.Go.OpenSpec := { _root_.Go.OpenSpec.ofChange s with cond := some uptoSmall }

/-- 'ponderlaw15.ActDoes', WHERE WHAT IT READS IS OF BULK AT MOST 1048576: true; the input reads as it did. -/
def actDoesUptoRow : OpenClaim := { program := "ytfidcfjcmlgkbaagreat", sum := "fed6e8394d987e75d2b187c60eed160cfcac8a93737f644e976dcf622f0dbff6", func := "ponder/ponderlaw15.ActDoes", spec := "actDoes", unfollowed := true, recurses := true, loops := true, apart := false, narrowed := true }
def ActDoesUptoSaid : Prop := actDoesUptoRow.holds Tryz.pinned (OpenSpec.upto actDoesSpec)

/-- 'ponderlaw21.BackMade', WHERE WHAT IT READS IS OF BULK AT MOST 1048576: true; the input reads as it did. -/
def backMadeUptoRow : OpenClaim := { program := "ytfidcfjcmlgkbaagreat", sum := "fed6e8394d987e75d2b187c60eed160cfcac8a93737f644e976dcf622f0dbff6", func := "ponder/ponderlaw21.BackMade", spec := "backMade", unfollowed := true, recurses := true, loops := true, apart := false, narrowed := true }
def BackMadeUptoSaid : Prop := backMadeUptoRow.holds Tryz.pinned (OpenSpec.upto backMadeSpec)

/-- 'ponderlaw21.BackHoles', WHERE WHAT IT READS IS OF BULK AT MOST 1048576: true; the input reads as it did. -/
def backHolesUptoRow : OpenClaim := { program := "ytfidcfjcmlgkbaagreat", sum := "fed6e8394d987e75d2b187c60eed160cfcac8a93737f644e976dcf622f0dbff6", func := "ponder/ponderlaw21.BackHoles", spec := "backHoles", unfollowed := true, recurses := true, loops := true, apart := false, narrowed := true }
def BackHolesUptoSaid : Prop := backHolesUptoRow.holds Tryz.pinned (OpenSpec.upto backHolesSpec)

end Rows
end Go.Proofs.YtfidcfjcmlgkbaaGreat
