/-
  No cell of these rows narrows 'for every input' (looked for: loops, veiled, ifaces, maps, wideKeys, modest, calm, conditions, laid).
  DERIVED. THE GIVEN ROWS OF THIS SEAT. 8 by the template 'for every input the law returns true; each argument reads behind the call as it read before'; 0 by the template 'total and deterministic' (their statements: YthhhhjllpejpgaaTotals.lean).
  GIVEN WITH THE SEED: the statements are not yours to turn. If you find one false, say at which input.
  Laid BY PROGRAM, IN A SANDBOX (cutbox-rows.mjs): the forced cells as the released guide's own fill.sh prints them over the translation 0cba5304a110c53b… (all of the seat's roots in one cut). By AI agents, Wed Nov 11 2026. No macro, syntax, notation, axiom, sorry.
-/
import Derived.Test.YthhhhjllpejpgaaChecked
import GoSem.Claim
import GoSem.ClaimJoined
import GoSem.ClaimMapViews
import Derived.JoinedTies
import Derived.KernelRfl
namespace Go.Proofs.Ythhhhjllpejpgaa
/- THE CELL 'sum', in the pinned program and in every row, IS THE sha256 OF THE DUMP (.gsa) THAT YthhhhjllpejpgaaProg.lean LOADS. Nothing in Lean hashes anything: it is a label: what it is worth is what the hold of that sum in a sandbox is worth. -/
noncomputable def Try.pinned : Pinned := { name := "ythhhhjllpejpgaa", sum := "0cba5304a110c53bc4a950de7e92974f5a550f4269b3b97f77bce3b74b0a684b", checked := Try.checked }
namespace Rows
def none {H : Type} : Left H := { results := [], args := [] }

/-- 'ponderlaw01.OrderMeanwhile': WHATEVER THE INPUT: true; the input reads as it did. -/
def orderMeanwhileSpec : ChangeSpec := { name := "orderMeanwhile", fn := fun _ => fun
  | [d1, d2] => { results := [.lit (.bool true)], args := [d1, d2] }
  | _ => none }
def orderMeanwhileRow : OpenClaim := { program := "ythhhhjllpejpgaa", sum := "0cba5304a110c53bc4a950de7e92974f5a550f4269b3b97f77bce3b74b0a684b", func := "ponder/ponderlaw01.OrderMeanwhile", spec := "orderMeanwhile", unfollowed := true, recurses := true, apart := false }
def OrderMeanwhileSaid : Prop := orderMeanwhileRow.holds Try.pinned (OpenSpec.ofChange orderMeanwhileSpec)

/-- ITS FALSE NEIGHBOUR: 'it returns false'. Refute it at one input. -/
def orderMeanwhileWrong : ChangeSpec := { name := "orderMeanwhile", fn := fun _ => fun
  | [d1, d2] => { results := [.lit (.bool false)], args := [d1, d2] }
  | _ => none }
def OrderMeanwhileWrongFalsely : Prop := orderMeanwhileRow.holds Try.pinned (OpenSpec.ofChange orderMeanwhileWrong)

/-- 'ponderlaw01.OrderNumbers': WHATEVER THE INPUT: true; the input reads as it did. -/
def orderNumbersSpec : ChangeSpec := { name := "orderNumbers", fn := fun _ => fun
  | [d] => { results := [.lit (.bool true)], args := [d] }
  | _ => none }
def orderNumbersRow : OpenClaim := { program := "ythhhhjllpejpgaa", sum := "0cba5304a110c53bc4a950de7e92974f5a550f4269b3b97f77bce3b74b0a684b", func := "ponder/ponderlaw01.OrderNumbers", spec := "orderNumbers", unfollowed := true, recurses := true, apart := false }
def OrderNumbersSaid : Prop := orderNumbersRow.holds Try.pinned (OpenSpec.ofChange orderNumbersSpec)

/-- ITS FALSE NEIGHBOUR: 'it returns false'. Refute it at one input. -/
def orderNumbersWrong : ChangeSpec := { name := "orderNumbers", fn := fun _ => fun
  | [d] => { results := [.lit (.bool false)], args := [d] }
  | _ => none }
def OrderNumbersWrongFalsely : Prop := orderNumbersRow.holds Try.pinned (OpenSpec.ofChange orderNumbersWrong)

/-- 'ponderlaw01.OrderSequences': WHATEVER THE INPUT: true; the input reads as it did. -/
def orderSequencesSpec : ChangeSpec := { name := "orderSequences", fn := fun _ => fun
  | [d1, d2, d3] => { results := [.lit (.bool true)], args := [d1, d2, d3] }
  | _ => none }
def orderSequencesRow : OpenClaim := { program := "ythhhhjllpejpgaa", sum := "0cba5304a110c53bc4a950de7e92974f5a550f4269b3b97f77bce3b74b0a684b", func := "ponder/ponderlaw01.OrderSequences", spec := "orderSequences", unfollowed := true, recurses := true, apart := false }
def OrderSequencesSaid : Prop := orderSequencesRow.holds Try.pinned (OpenSpec.ofChange orderSequencesSpec)

/-- ITS FALSE NEIGHBOUR: 'it returns false'. Refute it at one input. -/
def orderSequencesWrong : ChangeSpec := { name := "orderSequences", fn := fun _ => fun
  | [d1, d2, d3] => { results := [.lit (.bool false)], args := [d1, d2, d3] }
  | _ => none }
def OrderSequencesWrongFalsely : Prop := orderSequencesRow.holds Try.pinned (OpenSpec.ofChange orderSequencesWrong)

/-- 'ponderlaw01.OrderPlays': WHATEVER THE INPUT: true; the input reads as it did. -/
def orderPlaysSpec : ChangeSpec := { name := "orderPlays", fn := fun _ => fun
  | [d] => { results := [.lit (.bool true)], args := [d] }
  | _ => none }
def orderPlaysRow : OpenClaim := { program := "ythhhhjllpejpgaa", sum := "0cba5304a110c53bc4a950de7e92974f5a550f4269b3b97f77bce3b74b0a684b", func := "ponder/ponderlaw01.OrderPlays", spec := "orderPlays", unfollowed := true, recurses := true, apart := false }
def OrderPlaysSaid : Prop := orderPlaysRow.holds Try.pinned (OpenSpec.ofChange orderPlaysSpec)

/-- ITS FALSE NEIGHBOUR: 'it returns false'. Refute it at one input. -/
def orderPlaysWrong : ChangeSpec := { name := "orderPlays", fn := fun _ => fun
  | [d] => { results := [.lit (.bool false)], args := [d] }
  | _ => none }
def OrderPlaysWrongFalsely : Prop := orderPlaysRow.holds Try.pinned (OpenSpec.ofChange orderPlaysWrong)

/-- 'ponderlaw01.OrderClones': WHATEVER THE INPUT: true; the input reads as it did. -/
def orderClonesSpec : ChangeSpec := { name := "orderClones", fn := fun _ => fun
  | [d1, d2] => { results := [.lit (.bool true)], args := [d1, d2] }
  | _ => none }
def orderClonesRow : OpenClaim := { program := "ythhhhjllpejpgaa", sum := "0cba5304a110c53bc4a950de7e92974f5a550f4269b3b97f77bce3b74b0a684b", func := "ponder/ponderlaw01.OrderClones", spec := "orderClones", unfollowed := true, recurses := true, apart := false }
def OrderClonesSaid : Prop := orderClonesRow.holds Try.pinned (OpenSpec.ofChange orderClonesSpec)

/-- ITS FALSE NEIGHBOUR: 'it returns false'. Refute it at one input. -/
def orderClonesWrong : ChangeSpec := { name := "orderClones", fn := fun _ => fun
  | [d1, d2] => { results := [.lit (.bool false)], args := [d1, d2] }
  | _ => none }
def OrderClonesWrongFalsely : Prop := orderClonesRow.holds Try.pinned (OpenSpec.ofChange orderClonesWrong)

/-- 'ponderlaw01.OrderKept': WHATEVER THE INPUT: true; the input reads as it did. -/
def orderKeptSpec : ChangeSpec := { name := "orderKept", fn := fun _ => fun
  | [d1, d2] => { results := [.lit (.bool true)], args := [d1, d2] }
  | _ => none }
def orderKeptRow : OpenClaim := { program := "ythhhhjllpejpgaa", sum := "0cba5304a110c53bc4a950de7e92974f5a550f4269b3b97f77bce3b74b0a684b", func := "ponder/ponderlaw01.OrderKept", spec := "orderKept", unfollowed := true, recurses := true, apart := false }
def OrderKeptSaid : Prop := orderKeptRow.holds Try.pinned (OpenSpec.ofChange orderKeptSpec)

/-- ITS FALSE NEIGHBOUR: 'it returns false'. Refute it at one input. -/
def orderKeptWrong : ChangeSpec := { name := "orderKept", fn := fun _ => fun
  | [d1, d2] => { results := [.lit (.bool false)], args := [d1, d2] }
  | _ => none }
def OrderKeptWrongFalsely : Prop := orderKeptRow.holds Try.pinned (OpenSpec.ofChange orderKeptWrong)

/-- 'ponderlaw01.OrderJoins': WHATEVER THE INPUT: true; the input reads as it did. -/
def orderJoinsSpec : ChangeSpec := { name := "orderJoins", fn := fun _ => fun
  | [d1, d2] => { results := [.lit (.bool true)], args := [d1, d2] }
  | _ => none }
def orderJoinsRow : OpenClaim := { program := "ythhhhjllpejpgaa", sum := "0cba5304a110c53bc4a950de7e92974f5a550f4269b3b97f77bce3b74b0a684b", func := "ponder/ponderlaw01.OrderJoins", spec := "orderJoins", unfollowed := true, recurses := true, apart := false }
def OrderJoinsSaid : Prop := orderJoinsRow.holds Try.pinned (OpenSpec.ofChange orderJoinsSpec)

/-- ITS FALSE NEIGHBOUR: 'it returns false'. Refute it at one input. -/
def orderJoinsWrong : ChangeSpec := { name := "orderJoins", fn := fun _ => fun
  | [d1, d2] => { results := [.lit (.bool false)], args := [d1, d2] }
  | _ => none }
def OrderJoinsWrongFalsely : Prop := orderJoinsRow.holds Try.pinned (OpenSpec.ofChange orderJoinsWrong)

/-- 'ponderlaw01.OrderLaws': WHATEVER THE INPUT: true; the input reads as it did. -/
def orderLawsSpec : ChangeSpec := { name := "orderLaws", fn := fun _ => fun
  | [d1, d2, d3] => { results := [.lit (.bool true)], args := [d1, d2, d3] }
  | _ => none }
def orderLawsRow : OpenClaim := { program := "ythhhhjllpejpgaa", sum := "0cba5304a110c53bc4a950de7e92974f5a550f4269b3b97f77bce3b74b0a684b", func := "ponder/ponderlaw01.OrderLaws", spec := "orderLaws", unfollowed := true, recurses := true, apart := false }
def OrderLawsSaid : Prop := orderLawsRow.holds Try.pinned (OpenSpec.ofChange orderLawsSpec)

/-- ITS FALSE NEIGHBOUR: 'it returns false'. Refute it at one input. -/
def orderLawsWrong : ChangeSpec := { name := "orderLaws", fn := fun _ => fun
  | [d1, d2, d3] => { results := [.lit (.bool false)], args := [d1, d2, d3] }
  | _ => none }
def OrderLawsWrongFalsely : Prop := orderLawsRow.holds Try.pinned (OpenSpec.ofChange orderLawsWrong)

/- THE SECOND FORM. 'bulk': how many values and letters a reading holds, each counted each time it is reached (what is shared counts as often as it is met; a slice's spare places count too). A statement '..UptoSaid' is the law's where the arguments, and the package variables that the reading takes, are together of bulk at most 1048576: NARROWER than '..Said'. Prove '..Said' where nothing that the law and all that it calls make is longer than what came in: it says more and counts as full. Else prove '..UptoSaid'. A law counts once. -/
mutual
def uptoBulk {H : Type} : DataW H → Nat
  | .lit (.string bytes) => bytes.length + 1
  | .lit _ => 1
  | .nil => 1
  | .ptr d => uptoBulk d + 1
  | .slice elems spare => uptoBulkAll elems + uptoBulkAll spare + 1
  | .agg parts => uptoBulkAll parts + 1
  | .iface _ d => uptoBulk d + 1
  | .map entries => uptoBulkEntries entries + 1
  | .held _ => 1
def uptoBulkAll {H : Type} : List (DataW H) → Nat
  | [] => 0
  | d :: r => uptoBulk d + uptoBulkAll r
def uptoBulkEntries {H : Type} : List (Lit × DataW H) → Nat
  | [] => 0
  | x :: r => uptoBulkEntry x + uptoBulkEntries r
def uptoBulkEntry {H : Type} : Lit × DataW H → Nat
  | (.string bytes, d) => bytes.length + uptoBulk d + 1
  | (_, d) => uptoBulk d + 1
 end
def uptoSmall : (H : Type) → List (DataW H) → Bool := fun _ ds => decide (uptoBulkAll ds ≤ 1048576)
def OpenSpec.upto (s : _root_.Go.ChangeSpec) : _root_.Go.OpenSpec := { _root_.Go.OpenSpec.ofChange s with cond := some uptoSmall }

/-- 'ponderlaw01.OrderMeanwhile', WHERE WHAT IT READS IS OF BULK AT MOST 1048576: true; the input reads as it did. -/
def orderMeanwhileUptoRow : OpenClaim := { program := "ythhhhjllpejpgaa", sum := "0cba5304a110c53bc4a950de7e92974f5a550f4269b3b97f77bce3b74b0a684b", func := "ponder/ponderlaw01.OrderMeanwhile", spec := "orderMeanwhile", unfollowed := true, recurses := true, apart := false, narrowed := true }
def OrderMeanwhileUptoSaid : Prop := orderMeanwhileUptoRow.holds Try.pinned (OpenSpec.upto orderMeanwhileSpec)

/-- 'ponderlaw01.OrderNumbers', WHERE WHAT IT READS IS OF BULK AT MOST 1048576: true; the input reads as it did. -/
def orderNumbersUptoRow : OpenClaim := { program := "ythhhhjllpejpgaa", sum := "0cba5304a110c53bc4a950de7e92974f5a550f4269b3b97f77bce3b74b0a684b", func := "ponder/ponderlaw01.OrderNumbers", spec := "orderNumbers", unfollowed := true, recurses := true, apart := false, narrowed := true }
def OrderNumbersUptoSaid : Prop := orderNumbersUptoRow.holds Try.pinned (OpenSpec.upto orderNumbersSpec)

/-- 'ponderlaw01.OrderSequences', WHERE WHAT IT READS IS OF BULK AT MOST 1048576: true; the input reads as it did. -/
def orderSequencesUptoRow : OpenClaim := { program := "ythhhhjllpejpgaa", sum := "0cba5304a110c53bc4a950de7e92974f5a550f4269b3b97f77bce3b74b0a684b", func := "ponder/ponderlaw01.OrderSequences", spec := "orderSequences", unfollowed := true, recurses := true, apart := false, narrowed := true }
def OrderSequencesUptoSaid : Prop := orderSequencesUptoRow.holds Try.pinned (OpenSpec.upto orderSequencesSpec)

/-- 'ponderlaw01.OrderPlays', WHERE WHAT IT READS IS OF BULK AT MOST 1048576: true; the input reads as it did. -/
def orderPlaysUptoRow : OpenClaim := { program := "ythhhhjllpejpgaa", sum := "0cba5304a110c53bc4a950de7e92974f5a550f4269b3b97f77bce3b74b0a684b", func := "ponder/ponderlaw01.OrderPlays", spec := "orderPlays", unfollowed := true, recurses := true, apart := false, narrowed := true }
def OrderPlaysUptoSaid : Prop := orderPlaysUptoRow.holds Try.pinned (OpenSpec.upto orderPlaysSpec)

/-- 'ponderlaw01.OrderClones', WHERE WHAT IT READS IS OF BULK AT MOST 1048576: true; the input reads as it did. -/
def orderClonesUptoRow : OpenClaim := { program := "ythhhhjllpejpgaa", sum := "0cba5304a110c53bc4a950de7e92974f5a550f4269b3b97f77bce3b74b0a684b", func := "ponder/ponderlaw01.OrderClones", spec := "orderClones", unfollowed := true, recurses := true, apart := false, narrowed := true }
def OrderClonesUptoSaid : Prop := orderClonesUptoRow.holds Try.pinned (OpenSpec.upto orderClonesSpec)

/-- 'ponderlaw01.OrderKept', WHERE WHAT IT READS IS OF BULK AT MOST 1048576: true; the input reads as it did. -/
def orderKeptUptoRow : OpenClaim := { program := "ythhhhjllpejpgaa", sum := "0cba5304a110c53bc4a950de7e92974f5a550f4269b3b97f77bce3b74b0a684b", func := "ponder/ponderlaw01.OrderKept", spec := "orderKept", unfollowed := true, recurses := true, apart := false, narrowed := true }
def OrderKeptUptoSaid : Prop := orderKeptUptoRow.holds Try.pinned (OpenSpec.upto orderKeptSpec)

/-- 'ponderlaw01.OrderJoins', WHERE WHAT IT READS IS OF BULK AT MOST 1048576: true; the input reads as it did. -/
def orderJoinsUptoRow : OpenClaim := { program := "ythhhhjllpejpgaa", sum := "0cba5304a110c53bc4a950de7e92974f5a550f4269b3b97f77bce3b74b0a684b", func := "ponder/ponderlaw01.OrderJoins", spec := "orderJoins", unfollowed := true, recurses := true, apart := false, narrowed := true }
def OrderJoinsUptoSaid : Prop := orderJoinsUptoRow.holds Try.pinned (OpenSpec.upto orderJoinsSpec)

/-- 'ponderlaw01.OrderLaws', WHERE WHAT IT READS IS OF BULK AT MOST 1048576: true; the input reads as it did. -/
def orderLawsUptoRow : OpenClaim := { program := "ythhhhjllpejpgaa", sum := "0cba5304a110c53bc4a950de7e92974f5a550f4269b3b97f77bce3b74b0a684b", func := "ponder/ponderlaw01.OrderLaws", spec := "orderLaws", unfollowed := true, recurses := true, apart := false, narrowed := true }
def OrderLawsUptoSaid : Prop := orderLawsUptoRow.holds Try.pinned (OpenSpec.upto orderLawsSpec)

end Rows
end Go.Proofs.Ythhhhjllpejpgaa
