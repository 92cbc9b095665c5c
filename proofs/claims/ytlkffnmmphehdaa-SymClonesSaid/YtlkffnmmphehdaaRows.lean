/-
  No cell of these rows narrows 'for every input' (looked for: loops, veiled, ifaces, maps, wideKeys, modest, calm, conditions, laid).
  DERIVED. THE GIVEN ROWS OF THIS SEAT. 7 by the template 'for every input the law returns true; each argument reads behind the call as it read before'; 0 by the template 'total and deterministic' (their statements: YtlkffnmmphehdaaTotals.lean).
  GIVEN WITH THE SEED: the statements are not yours to turn. If you find one false, say at which input.
  Laid BY PROGRAM, IN A SANDBOX (cutbox-rows.mjs): the forced cells as the released guide's own fill.sh prints them over the translation eed39db5a3c5c58b… (all of the seat's roots in one cut). By AI agents, Wed Nov 11 2026. No macro, syntax, notation, axiom, sorry.
-/
import Derived.Test.YtlkffnmmphehdaaChecked
import GoSem.Claim
import GoSem.ClaimJoined
import GoSem.ClaimMapViews
import Derived.JoinedTies
import Derived.KernelRfl
namespace Go.Proofs.Ytlkffnmmphehdaa
/- THE CELL 'sum', in the pinned program and in every row, IS THE sha256 OF THE DUMP (.gsa) THAT YtlkffnmmphehdaaProg.lean LOADS. Nothing in Lean hashes anything: it is a label: what it is worth is what the hold of that sum in a sandbox is worth. -/
noncomputable def Try.pinned : Pinned := { name := "ytlkffnmmphehdaa", sum := "eed39db5a3c5c58bbb2ed66e0ba2966ce53a0aeb601e3fae42c60f0e8bf0b041", checked := Try.checked }
namespace Rows
def none {H : Type} : Left H := { results := [], args := [] }

/-- 'ponderlaw04.SymTexts': WHATEVER THE INPUT: true; the input reads as it did. -/
def symTextsSpec : ChangeSpec := { name := "symTexts", fn := fun _ => fun
  | [d] => { results := [.lit (.bool true)], args := [d] }
  | _ => none }
def symTextsRow : OpenClaim := { program := "ytlkffnmmphehdaa", sum := "eed39db5a3c5c58bbb2ed66e0ba2966ce53a0aeb601e3fae42c60f0e8bf0b041", func := "ponder/ponderlaw04.SymTexts", spec := "symTexts", unfollowed := true, recurses := true, apart := false }
def SymTextsSaid : Prop := symTextsRow.holds Try.pinned (OpenSpec.ofChange symTextsSpec)

/-- ITS FALSE NEIGHBOUR: 'it returns false'. Refute it at one input. -/
def symTextsWrong : ChangeSpec := { name := "symTexts", fn := fun _ => fun
  | [d] => { results := [.lit (.bool false)], args := [d] }
  | _ => none }
def SymTextsWrongFalsely : Prop := symTextsRow.holds Try.pinned (OpenSpec.ofChange symTextsWrong)

/-- 'ponderlaw04.SymParses': WHATEVER THE INPUT: true; the input reads as it did. -/
def symParsesSpec : ChangeSpec := { name := "symParses", fn := fun _ => fun
  | [d] => { results := [.lit (.bool true)], args := [d] }
  | _ => none }
def symParsesRow : OpenClaim := { program := "ytlkffnmmphehdaa", sum := "eed39db5a3c5c58bbb2ed66e0ba2966ce53a0aeb601e3fae42c60f0e8bf0b041", func := "ponder/ponderlaw04.SymParses", spec := "symParses", unfollowed := true, recurses := true, apart := false }
def SymParsesSaid : Prop := symParsesRow.holds Try.pinned (OpenSpec.ofChange symParsesSpec)

/-- ITS FALSE NEIGHBOUR: 'it returns false'. Refute it at one input. -/
def symParsesWrong : ChangeSpec := { name := "symParses", fn := fun _ => fun
  | [d] => { results := [.lit (.bool false)], args := [d] }
  | _ => none }
def SymParsesWrongFalsely : Prop := symParsesRow.holds Try.pinned (OpenSpec.ofChange symParsesWrong)

/-- 'ponderlaw04.SymBack': WHATEVER THE INPUT: true; the input reads as it did. -/
def symBackSpec : ChangeSpec := { name := "symBack", fn := fun _ => fun
  | [d1, d2] => { results := [.lit (.bool true)], args := [d1, d2] }
  | _ => none }
def symBackRow : OpenClaim := { program := "ytlkffnmmphehdaa", sum := "eed39db5a3c5c58bbb2ed66e0ba2966ce53a0aeb601e3fae42c60f0e8bf0b041", func := "ponder/ponderlaw04.SymBack", spec := "symBack", unfollowed := true, recurses := true, apart := false }
def SymBackSaid : Prop := symBackRow.holds Try.pinned (OpenSpec.ofChange symBackSpec)

/-- ITS FALSE NEIGHBOUR: 'it returns false'. Refute it at one input. -/
def symBackWrong : ChangeSpec := { name := "symBack", fn := fun _ => fun
  | [d1, d2] => { results := [.lit (.bool false)], args := [d1, d2] }
  | _ => none }
def SymBackWrongFalsely : Prop := symBackRow.holds Try.pinned (OpenSpec.ofChange symBackWrong)

/-- 'ponderlaw04.SymOrder': WHATEVER THE INPUT: true; the input reads as it did. -/
def symOrderSpec : ChangeSpec := { name := "symOrder", fn := fun _ => fun
  | [d1, d2, d3] => { results := [.lit (.bool true)], args := [d1, d2, d3] }
  | _ => none }
def symOrderRow : OpenClaim := { program := "ytlkffnmmphehdaa", sum := "eed39db5a3c5c58bbb2ed66e0ba2966ce53a0aeb601e3fae42c60f0e8bf0b041", func := "ponder/ponderlaw04.SymOrder", spec := "symOrder", unfollowed := true, recurses := true, apart := false }
def SymOrderSaid : Prop := symOrderRow.holds Try.pinned (OpenSpec.ofChange symOrderSpec)

/-- ITS FALSE NEIGHBOUR: 'it returns false'. Refute it at one input. -/
def symOrderWrong : ChangeSpec := { name := "symOrder", fn := fun _ => fun
  | [d1, d2, d3] => { results := [.lit (.bool false)], args := [d1, d2, d3] }
  | _ => none }
def SymOrderWrongFalsely : Prop := symOrderRow.holds Try.pinned (OpenSpec.ofChange symOrderWrong)

/-- 'ponderlaw04.SymTables': WHATEVER THE INPUT: true; the input reads as it did. -/
def symTablesSpec : ChangeSpec := { name := "symTables", fn := fun _ => fun
  | [d1, d2] => { results := [.lit (.bool true)], args := [d1, d2] }
  | _ => none }
def symTablesRow : OpenClaim := { program := "ytlkffnmmphehdaa", sum := "eed39db5a3c5c58bbb2ed66e0ba2966ce53a0aeb601e3fae42c60f0e8bf0b041", func := "ponder/ponderlaw04.SymTables", spec := "symTables", unfollowed := true, recurses := true, apart := false }
def SymTablesSaid : Prop := symTablesRow.holds Try.pinned (OpenSpec.ofChange symTablesSpec)

/-- ITS FALSE NEIGHBOUR: 'it returns false'. Refute it at one input. -/
def symTablesWrong : ChangeSpec := { name := "symTables", fn := fun _ => fun
  | [d1, d2] => { results := [.lit (.bool false)], args := [d1, d2] }
  | _ => none }
def SymTablesWrongFalsely : Prop := symTablesRow.holds Try.pinned (OpenSpec.ofChange symTablesWrong)

/-- 'ponderlaw04.SymFresh': WHATEVER THE INPUT: true; the input reads as it did. -/
def symFreshSpec : ChangeSpec := { name := "symFresh", fn := fun _ => fun
  | [d1, d2, d3] => { results := [.lit (.bool true)], args := [d1, d2, d3] }
  | _ => none }
def symFreshRow : OpenClaim := { program := "ytlkffnmmphehdaa", sum := "eed39db5a3c5c58bbb2ed66e0ba2966ce53a0aeb601e3fae42c60f0e8bf0b041", func := "ponder/ponderlaw04.SymFresh", spec := "symFresh", unfollowed := true, recurses := true, apart := false }
def SymFreshSaid : Prop := symFreshRow.holds Try.pinned (OpenSpec.ofChange symFreshSpec)

/-- ITS FALSE NEIGHBOUR: 'it returns false'. Refute it at one input. -/
def symFreshWrong : ChangeSpec := { name := "symFresh", fn := fun _ => fun
  | [d1, d2, d3] => { results := [.lit (.bool false)], args := [d1, d2, d3] }
  | _ => none }
def SymFreshWrongFalsely : Prop := symFreshRow.holds Try.pinned (OpenSpec.ofChange symFreshWrong)

/-- 'ponderlaw04.SymClones': WHATEVER THE INPUT: true; the input reads as it did. -/
def symClonesSpec : ChangeSpec := { name := "symClones", fn := fun _ => fun
  | [d1, d2] => { results := [.lit (.bool true)], args := [d1, d2] }
  | _ => none }
def symClonesRow : OpenClaim := { program := "ytlkffnmmphehdaa", sum := "eed39db5a3c5c58bbb2ed66e0ba2966ce53a0aeb601e3fae42c60f0e8bf0b041", func := "ponder/ponderlaw04.SymClones", spec := "symClones", unfollowed := true, recurses := true, apart := false }
def SymClonesSaid : Prop := symClonesRow.holds Try.pinned (OpenSpec.ofChange symClonesSpec)

/-- ITS FALSE NEIGHBOUR: 'it returns false'. Refute it at one input. -/
def symClonesWrong : ChangeSpec := { name := "symClones", fn := fun _ => fun
  | [d1, d2] => { results := [.lit (.bool false)], args := [d1, d2] }
  | _ => none }
def SymClonesWrongFalsely : Prop := symClonesRow.holds Try.pinned (OpenSpec.ofChange symClonesWrong)

/- THE SECOND FORM. 'bulk': how many values and letters a reading holds, each counted each time it is reached (what is shared counts as often as it is met; a slice's spare places count too). A statement '..UptoSaid' is the law's where the arguments, and the package variables that the reading takes, are together of bulk at most 1048576: NARROWER than '..Said'. Prove '..Said' where nothing that the law and all that it calls make is longer than what came in: it says more and counts as full. Else prove '..UptoSaid'. A law counts once. -/
mutual
def uptoBulk {H : Type} : DataW H → Nat
  | .lit (.string bytes) => bytes.length + 1
  | .lit _ => 1
  | .nil => 1
  | .ptr d => uptoBulk d + 1
  | .slice elems spare => uptoBulkAll elems + uptoBulkAll spare + 1
  | .agg parts => uptoBulkAll parts + 1
  | .iface _ d => uptoBulk d + 1
  | .map entries => uptoBulkEntries entries + 1
  | .held _ => 1
def uptoBulkAll {H : Type} : List (DataW H) → Nat
  | [] => 0
  | d :: r => uptoBulk d + uptoBulkAll r
def uptoBulkEntries {H : Type} : List (Lit × DataW H) → Nat
  | [] => 0
  | x :: r => uptoBulkEntry x + uptoBulkEntries r
def uptoBulkEntry {H : Type} : Lit × DataW H → Nat
  | (.string bytes, d) => bytes.length + uptoBulk d + 1
  | (_, d) => uptoBulk d + 1
 end
def uptoSmall : (H : Type) → List (DataW H) → Bool := fun _ ds => decide (uptoBulkAll ds ≤ 1048576)
def OpenSpec.upto (s : _root_.Go.ChangeSpec) : _root_.Go.OpenSpec := { _root_.Go.OpenSpec.ofChange s with cond := some uptoSmall }

/-- 'ponderlaw04.SymTexts', WHERE WHAT IT READS IS OF BULK AT MOST 1048576: true; the input reads as it did. -/
def symTextsUptoRow : OpenClaim := { program := "ytlkffnmmphehdaa", sum := "eed39db5a3c5c58bbb2ed66e0ba2966ce53a0aeb601e3fae42c60f0e8bf0b041", func := "ponder/ponderlaw04.SymTexts", spec := "symTexts", unfollowed := true, recurses := true, apart := false, narrowed := true }
def SymTextsUptoSaid : Prop := symTextsUptoRow.holds Try.pinned (OpenSpec.upto symTextsSpec)

/-- 'ponderlaw04.SymParses', WHERE WHAT IT READS IS OF BULK AT MOST 1048576: true; the input reads as it did. -/
def symParsesUptoRow : OpenClaim := { program := "ytlkffnmmphehdaa", sum := "eed39db5a3c5c58bbb2ed66e0ba2966ce53a0aeb601e3fae42c60f0e8bf0b041", func := "ponder/ponderlaw04.SymParses", spec := "symParses", unfollowed := true, recurses := true, apart := false, narrowed := true }
def SymParsesUptoSaid : Prop := symParsesUptoRow.holds Try.pinned (OpenSpec.upto symParsesSpec)

/-- 'ponderlaw04.SymBack', WHERE WHAT IT READS IS OF BULK AT MOST 1048576: true; the input reads as it did. -/
def symBackUptoRow : OpenClaim := { program := "ytlkffnmmphehdaa", sum := "eed39db5a3c5c58bbb2ed66e0ba2966ce53a0aeb601e3fae42c60f0e8bf0b041", func := "ponder/ponderlaw04.SymBack", spec := "symBack", unfollowed := true, recurses := true, apart := false, narrowed := true }
def SymBackUptoSaid : Prop := symBackUptoRow.holds Try.pinned (OpenSpec.upto symBackSpec)

/-- 'ponderlaw04.SymOrder', WHERE WHAT IT READS IS OF BULK AT MOST 1048576: true; the input reads as it did. -/
def symOrderUptoRow : OpenClaim := { program := "ytlkffnmmphehdaa", sum := "eed39db5a3c5c58bbb2ed66e0ba2966ce53a0aeb601e3fae42c60f0e8bf0b041", func := "ponder/ponderlaw04.SymOrder", spec := "symOrder", unfollowed := true, recurses := true, apart := false, narrowed := true }
def SymOrderUptoSaid : Prop := symOrderUptoRow.holds Try.pinned (OpenSpec.upto symOrderSpec)

/-- 'ponderlaw04.SymTables', WHERE WHAT IT READS IS OF BULK AT MOST 1048576: true; the input reads as it did. -/
def symTablesUptoRow : OpenClaim := { program := "ytlkffnmmphehdaa", sum := "eed39db5a3c5c58bbb2ed66e0ba2966ce53a0aeb601e3fae42c60f0e8bf0b041", func := "ponder/ponderlaw04.SymTables", spec := "symTables", unfollowed := true, recurses := true, apart := false, narrowed := true }
def SymTablesUptoSaid : Prop := symTablesUptoRow.holds Try.pinned (OpenSpec.upto symTablesSpec)

/-- 'ponderlaw04.SymFresh', WHERE WHAT IT READS IS OF BULK AT MOST 1048576: true; the input reads as it did. -/
def symFreshUptoRow : OpenClaim := { program := "ytlkffnmmphehdaa", sum := "eed39db5a3c5c58bbb2ed66e0ba2966ce53a0aeb601e3fae42c60f0e8bf0b041", func := "ponder/ponderlaw04.SymFresh", spec := "symFresh", unfollowed := true, recurses := true, apart := false, narrowed := true }
def SymFreshUptoSaid : Prop := symFreshUptoRow.holds Try.pinned (OpenSpec.upto symFreshSpec)

/-- 'ponderlaw04.SymClones', WHERE WHAT IT READS IS OF BULK AT MOST 1048576: true; the input reads as it did. -/
def symClonesUptoRow : OpenClaim := { program := "ytlkffnmmphehdaa", sum := "eed39db5a3c5c58bbb2ed66e0ba2966ce53a0aeb601e3fae42c60f0e8bf0b041", func := "ponder/ponderlaw04.SymClones", spec := "symClones", unfollowed := true, recurses := true, apart := false, narrowed := true }
def SymClonesUptoSaid : Prop := symClonesUptoRow.holds Try.pinned (OpenSpec.upto symClonesSpec)

end Rows
end Go.Proofs.Ytlkffnmmphehdaa
