/-
  No cell of these rows narrows 'for every input' (looked for: loops, veiled, ifaces, maps, wideKeys, modest, calm, conditions, laid).
  DERIVED. THE GIVEN ROWS OF THIS SEAT. 10 by the template 'for every input the law returns true; each argument reads behind the call as it read before'; 0 by the template 'total and deterministic' (their statements: YtldndkngpdfpfaaGreatTotals.lean).
  GIVEN WITH THE SEED: the statements are not yours to turn. If you find one false, say at which input.
  Laid BY PROGRAM, IN A SANDBOX (cutbox-rows.mjs): the forced cells as the released guide's own fill.sh prints them over the translation 52de675d757b8f06… (all of the seat's roots in one cut). By AI agents, Wed Nov 11 2026. No macro, syntax, notation, axiom, sorry.
-/
import Derived.Test.YtldndkngpdfpfaaGreatChecked
import GoSem.Claim
import GoSem.ClaimJoined
import GoSem.ClaimMapViews
import Derived.JoinedTies
import Derived.KernelRfl
namespace Go.Proofs.YtldndkngpdfpfaaGreat
/- THE CELL 'sum', in the pinned program and in every row, IS THE sha256 OF THE DUMP (.gsa) THAT YtldndkngpdfpfaaGreatProg.lean LOADS. Nothing in Lean hashes anything: it is a label: what it is worth is what the hold of that sum in a sandbox is worth. -/
noncomputable def Tryz.pinned : Pinned := { name := "ytldndkngpdfpfaagreat", sum := "52de675d757b8f0650d0cc406c1107e1125dfc83dee359b310f5eedfb0d61b72", checked := Tryz.checked }
namespace Rows
def none {H : Type} : Left H := { results := [], args := [] }

/-- 'ponderlaw22.VaryNames': WHATEVER THE INPUT: true; the input reads as it did. -/
def varyNamesSpec : ChangeSpec := { name := "varyNames", fn := fun _ => fun
  | [d1, d2] => { results := [.lit (.bool true)], args := [d1, d2] }
  | _ => none }
def varyNamesRow : OpenClaim := { program := "ytldndkngpdfpfaagreat", sum := "52de675d757b8f0650d0cc406c1107e1125dfc83dee359b310f5eedfb0d61b72", func := "ponder/ponderlaw22.VaryNames", spec := "varyNames", unfollowed := true, recurses := true, apart := false }
def VaryNamesSaid : Prop := varyNamesRow.holds Tryz.pinned (OpenSpec.ofChange varyNamesSpec)

/-- ITS FALSE NEIGHBOUR: 'it returns false'. Refute it at one input. -/
def varyNamesWrong : ChangeSpec := { name := "varyNames", fn := fun _ => fun
  | [d1, d2] => { results := [.lit (.bool false)], args := [d1, d2] }
  | _ => none }
def VaryNamesWrongFalsely : Prop := varyNamesRow.holds Tryz.pinned (OpenSpec.ofChange varyNamesWrong)

/-- 'ponderlaw22.VaryFits': WHATEVER THE INPUT: true; the input reads as it did. -/
def varyFitsSpec : ChangeSpec := { name := "varyFits", fn := fun _ => fun
  | [d1, d2, d3] => { results := [.lit (.bool true)], args := [d1, d2, d3] }
  | _ => none }
def varyFitsRow : OpenClaim := { program := "ytldndkngpdfpfaagreat", sum := "52de675d757b8f0650d0cc406c1107e1125dfc83dee359b310f5eedfb0d61b72", func := "ponder/ponderlaw22.VaryFits", spec := "varyFits", unfollowed := true, recurses := true, apart := false }
def VaryFitsSaid : Prop := varyFitsRow.holds Tryz.pinned (OpenSpec.ofChange varyFitsSpec)

/-- ITS FALSE NEIGHBOUR: 'it returns false'. Refute it at one input. -/
def varyFitsWrong : ChangeSpec := { name := "varyFits", fn := fun _ => fun
  | [d1, d2, d3] => { results := [.lit (.bool false)], args := [d1, d2, d3] }
  | _ => none }
def VaryFitsWrongFalsely : Prop := varyFitsRow.holds Tryz.pinned (OpenSpec.ofChange varyFitsWrong)

/-- 'ponderlaw22.VaryRenamed': WHATEVER THE INPUT: true; the input reads as it did. -/
def varyRenamedSpec : ChangeSpec := { name := "varyRenamed", fn := fun _ => fun
  | [d1, d2, d3, d4] => { results := [.lit (.bool true)], args := [d1, d2, d3, d4] }
  | _ => none }
def varyRenamedRow : OpenClaim := { program := "ytldndkngpdfpfaagreat", sum := "52de675d757b8f0650d0cc406c1107e1125dfc83dee359b310f5eedfb0d61b72", func := "ponder/ponderlaw22.VaryRenamed", spec := "varyRenamed", unfollowed := true, recurses := true, apart := false }
def VaryRenamedSaid : Prop := varyRenamedRow.holds Tryz.pinned (OpenSpec.ofChange varyRenamedSpec)

/-- ITS FALSE NEIGHBOUR: 'it returns false'. Refute it at one input. -/
def varyRenamedWrong : ChangeSpec := { name := "varyRenamed", fn := fun _ => fun
  | [d1, d2, d3, d4] => { results := [.lit (.bool false)], args := [d1, d2, d3, d4] }
  | _ => none }
def VaryRenamedWrongFalsely : Prop := varyRenamedRow.holds Tryz.pinned (OpenSpec.ofChange varyRenamedWrong)

/-- 'ponderlaw22.VaryOlds': WHATEVER THE INPUT: true; the input reads as it did. -/
def varyOldsSpec : ChangeSpec := { name := "varyOlds", fn := fun _ => fun
  | [d1, d2, d3] => { results := [.lit (.bool true)], args := [d1, d2, d3] }
  | _ => none }
def varyOldsRow : OpenClaim := { program := "ytldndkngpdfpfaagreat", sum := "52de675d757b8f0650d0cc406c1107e1125dfc83dee359b310f5eedfb0d61b72", func := "ponder/ponderlaw22.VaryOlds", spec := "varyOlds", unfollowed := true, recurses := true, apart := false }
def VaryOldsSaid : Prop := varyOldsRow.holds Tryz.pinned (OpenSpec.ofChange varyOldsSpec)

/-- ITS FALSE NEIGHBOUR: 'it returns false'. Refute it at one input. -/
def varyOldsWrong : ChangeSpec := { name := "varyOlds", fn := fun _ => fun
  | [d1, d2, d3] => { results := [.lit (.bool false)], args := [d1, d2, d3] }
  | _ => none }
def VaryOldsWrongFalsely : Prop := varyOldsRow.holds Tryz.pinned (OpenSpec.ofChange varyOldsWrong)

/-- 'ponderlaw22.VaryNew': WHATEVER THE INPUT: true; the input reads as it did. -/
def varyNewSpec : ChangeSpec := { name := "varyNew", fn := fun _ => fun
  | [d1, d2, d3] => { results := [.lit (.bool true)], args := [d1, d2, d3] }
  | _ => none }
def varyNewRow : OpenClaim := { program := "ytldndkngpdfpfaagreat", sum := "52de675d757b8f0650d0cc406c1107e1125dfc83dee359b310f5eedfb0d61b72", func := "ponder/ponderlaw22.VaryNew", spec := "varyNew", unfollowed := true, recurses := true, apart := false }
def VaryNewSaid : Prop := varyNewRow.holds Tryz.pinned (OpenSpec.ofChange varyNewSpec)

/-- ITS FALSE NEIGHBOUR: 'it returns false'. Refute it at one input. -/
def varyNewWrong : ChangeSpec := { name := "varyNew", fn := fun _ => fun
  | [d1, d2, d3] => { results := [.lit (.bool false)], args := [d1, d2, d3] }
  | _ => none }
def VaryNewWrongFalsely : Prop := varyNewRow.holds Tryz.pinned (OpenSpec.ofChange varyNewWrong)

/-- 'ponderlaw22.VaryOrders': WHATEVER THE INPUT: true; the input reads as it did. -/
def varyOrdersSpec : ChangeSpec := { name := "varyOrders", fn := fun _ => fun
  | [d] => { results := [.lit (.bool true)], args := [d] }
  | _ => none }
def varyOrdersRow : OpenClaim := { program := "ytldndkngpdfpfaagreat", sum := "52de675d757b8f0650d0cc406c1107e1125dfc83dee359b310f5eedfb0d61b72", func := "ponder/ponderlaw22.VaryOrders", spec := "varyOrders", unfollowed := true, recurses := true, apart := false }
def VaryOrdersSaid : Prop := varyOrdersRow.holds Tryz.pinned (OpenSpec.ofChange varyOrdersSpec)

/-- ITS FALSE NEIGHBOUR: 'it returns false'. Refute it at one input. -/
def varyOrdersWrong : ChangeSpec := { name := "varyOrders", fn := fun _ => fun
  | [d] => { results := [.lit (.bool false)], args := [d] }
  | _ => none }
def VaryOrdersWrongFalsely : Prop := varyOrdersRow.holds Tryz.pinned (OpenSpec.ofChange varyOrdersWrong)

/-- 'ponderlaw22.VaryTurned': WHATEVER THE INPUT: true; the input reads as it did. -/
def varyTurnedSpec : ChangeSpec := { name := "varyTurned", fn := fun _ => fun
  | [d1, d2] => { results := [.lit (.bool true)], args := [d1, d2] }
  | _ => none }
def varyTurnedRow : OpenClaim := { program := "ytldndkngpdfpfaagreat", sum := "52de675d757b8f0650d0cc406c1107e1125dfc83dee359b310f5eedfb0d61b72", func := "ponder/ponderlaw22.VaryTurned", spec := "varyTurned", unfollowed := true, recurses := true, apart := false }
def VaryTurnedSaid : Prop := varyTurnedRow.holds Tryz.pinned (OpenSpec.ofChange varyTurnedSpec)

/-- ITS FALSE NEIGHBOUR: 'it returns false'. Refute it at one input. -/
def varyTurnedWrong : ChangeSpec := { name := "varyTurned", fn := fun _ => fun
  | [d1, d2] => { results := [.lit (.bool false)], args := [d1, d2] }
  | _ => none }
def VaryTurnedWrongFalsely : Prop := varyTurnedRow.holds Tryz.pinned (OpenSpec.ofChange varyTurnedWrong)

/-- 'ponderlaw24.LearnNames': WHATEVER THE INPUT: true; the input reads as it did. -/
def learnNamesSpec : ChangeSpec := { name := "learnNames", fn := fun _ => fun
  | [d1, d2] => { results := [.lit (.bool true)], args := [d1, d2] }
  | _ => none }
def learnNamesRow : OpenClaim := { program := "ytldndkngpdfpfaagreat", sum := "52de675d757b8f0650d0cc406c1107e1125dfc83dee359b310f5eedfb0d61b72", func := "ponder/ponderlaw24.LearnNames", spec := "learnNames", unfollowed := true, recurses := true, apart := false }
def LearnNamesSaid : Prop := learnNamesRow.holds Tryz.pinned (OpenSpec.ofChange learnNamesSpec)

/-- ITS FALSE NEIGHBOUR: 'it returns false'. Refute it at one input. -/
def learnNamesWrong : ChangeSpec := { name := "learnNames", fn := fun _ => fun
  | [d1, d2] => { results := [.lit (.bool false)], args := [d1, d2] }
  | _ => none }
def LearnNamesWrongFalsely : Prop := learnNamesRow.holds Tryz.pinned (OpenSpec.ofChange learnNamesWrong)

/-- 'ponderlaw24.LearnResults': WHATEVER THE INPUT: true; the input reads as it did. -/
def learnResultsSpec : ChangeSpec := { name := "learnResults", fn := fun _ => fun
  | [d1, d2, d3, d4] => { results := [.lit (.bool true)], args := [d1, d2, d3, d4] }
  | _ => none }
def learnResultsRow : OpenClaim := { program := "ytldndkngpdfpfaagreat", sum := "52de675d757b8f0650d0cc406c1107e1125dfc83dee359b310f5eedfb0d61b72", func := "ponder/ponderlaw24.LearnResults", spec := "learnResults", unfollowed := true, recurses := true, apart := false }
def LearnResultsSaid : Prop := learnResultsRow.holds Tryz.pinned (OpenSpec.ofChange learnResultsSpec)

/-- ITS FALSE NEIGHBOUR: 'it returns false'. Refute it at one input. -/
def learnResultsWrong : ChangeSpec := { name := "learnResults", fn := fun _ => fun
  | [d1, d2, d3, d4] => { results := [.lit (.bool false)], args := [d1, d2, d3, d4] }
  | _ => none }
def LearnResultsWrongFalsely : Prop := learnResultsRow.holds Tryz.pinned (OpenSpec.ofChange learnResultsWrong)

/-- 'ponderlaw24.LearnFirst': WHATEVER THE INPUT: true; the input reads as it did. -/
def learnFirstSpec : ChangeSpec := { name := "learnFirst", fn := fun _ => fun
  | [d1, d2, d3, d4] => { results := [.lit (.bool true)], args := [d1, d2, d3, d4] }
  | _ => none }
def learnFirstRow : OpenClaim := { program := "ytldndkngpdfpfaagreat", sum := "52de675d757b8f0650d0cc406c1107e1125dfc83dee359b310f5eedfb0d61b72", func := "ponder/ponderlaw24.LearnFirst", spec := "learnFirst", unfollowed := true, recurses := true, apart := false }
def LearnFirstSaid : Prop := learnFirstRow.holds Tryz.pinned (OpenSpec.ofChange learnFirstSpec)

/-- ITS FALSE NEIGHBOUR: 'it returns false'. Refute it at one input. -/
def learnFirstWrong : ChangeSpec := { name := "learnFirst", fn := fun _ => fun
  | [d1, d2, d3, d4] => { results := [.lit (.bool false)], args := [d1, d2, d3, d4] }
  | _ => none }
def LearnFirstWrongFalsely : Prop := learnFirstRow.holds Tryz.pinned (OpenSpec.ofChange learnFirstWrong)

/- THE SECOND FORM. 'bulk': how many values and letters a reading holds, each counted each time it is reached (what is shared counts as often as it is met; a slice's spare places count too). A statement '..UptoSaid' is the law's where the arguments, and the package variables that the reading takes, are together of bulk at most 1048576: NARROWER than '..Said'. Prove '..Said' where nothing that the law and all that it calls make is longer than what came in: it says more and counts as full. Else prove '..UptoSaid'. A law counts once. -/
mutual
def uptoBulk {H : Type} : DataW H → Nat
  | .lit (.string bytes) => bytes.length + 1
  | .lit _ => 1
  | .nil => 1
  | .ptr d => uptoBulk d + 1
  | .slice elems spare => uptoBulkAll elems + uptoBulkAll spare + 1
  | .agg parts => uptoBulkAll parts + 1
  | .iface _ d => uptoBulk d + 1
  | .map entries => uptoBulkEntries entries + 1
  | .held _ => 1
def uptoBulkAll {H : Type} : List (DataW H) → Nat
  | [] => 0
  | d :: r => uptoBulk d + uptoBulkAll r
def uptoBulkEntries {H : Type} : List (Lit × DataW H) → Nat
  | [] => 0
  | x :: r => uptoBulkEntry x + uptoBulkEntries r
def uptoBulkEntry {H : Type} : Lit × DataW H → Nat
  | (.string bytes, d) => bytes.length + uptoBulk d + 1
  | (_, d) => uptoBulk d + 1
 end
def uptoSmall : (H : Type) → List (DataW H) → Bool := fun _ ds => decide (uptoBulkAll ds ≤ 1048576)
def OpenSpec.upto (s : _root_.Go.ChangeSpec) : _root_.Go.OpenSpec := { _root_.Go.OpenSpec.ofChange s with cond := some uptoSmall }

/-- 'ponderlaw22.VaryNames', WHERE WHAT IT READS IS OF BULK AT MOST 1048576: true; the input reads as it did. -/
def varyNamesUptoRow : OpenClaim := { program := "ytldndkngpdfpfaagreat", sum := "52de675d757b8f0650d0cc406c1107e1125dfc83dee359b310f5eedfb0d61b72", func := "ponder/ponderlaw22.VaryNames", spec := "varyNames", unfollowed := true, recurses := true, apart := false, narrowed := true }
def VaryNamesUptoSaid : Prop := varyNamesUptoRow.holds Tryz.pinned (OpenSpec.upto varyNamesSpec)

/-- 'ponderlaw22.VaryFits', WHERE WHAT IT READS IS OF BULK AT MOST 1048576: true; the input reads as it did. -/
def varyFitsUptoRow : OpenClaim := { program := "ytldndkngpdfpfaagreat", sum := "52de675d757b8f0650d0cc406c1107e1125dfc83dee359b310f5eedfb0d61b72", func := "ponder/ponderlaw22.VaryFits", spec := "varyFits", unfollowed := true, recurses := true, apart := false, narrowed := true }
def VaryFitsUptoSaid : Prop := varyFitsUptoRow.holds Tryz.pinned (OpenSpec.upto varyFitsSpec)

/-- 'ponderlaw22.VaryRenamed', WHERE WHAT IT READS IS OF BULK AT MOST 1048576: true; the input reads as it did. -/
def varyRenamedUptoRow : OpenClaim := { program := "ytldndkngpdfpfaagreat", sum := "52de675d757b8f0650d0cc406c1107e1125dfc83dee359b310f5eedfb0d61b72", func := "ponder/ponderlaw22.VaryRenamed", spec := "varyRenamed", unfollowed := true, recurses := true, apart := false, narrowed := true }
def VaryRenamedUptoSaid : Prop := varyRenamedUptoRow.holds Tryz.pinned (OpenSpec.upto varyRenamedSpec)

/-- 'ponderlaw22.VaryOlds', WHERE WHAT IT READS IS OF BULK AT MOST 1048576: true; the input reads as it did. -/
def varyOldsUptoRow : OpenClaim := { program := "ytldndkngpdfpfaagreat", sum := "52de675d757b8f0650d0cc406c1107e1125dfc83dee359b310f5eedfb0d61b72", func := "ponder/ponderlaw22.VaryOlds", spec := "varyOlds", unfollowed := true, recurses := true, apart := false, narrowed := true }
def VaryOldsUptoSaid : Prop := varyOldsUptoRow.holds Tryz.pinned (OpenSpec.upto varyOldsSpec)

/-- 'ponderlaw22.VaryNew', WHERE WHAT IT READS IS OF BULK AT MOST 1048576: true; the input reads as it did. -/
def varyNewUptoRow : OpenClaim := { program := "ytldndkngpdfpfaagreat", sum := "52de675d757b8f0650d0cc406c1107e1125dfc83dee359b310f5eedfb0d61b72", func := "ponder/ponderlaw22.VaryNew", spec := "varyNew", unfollowed := true, recurses := true, apart := false, narrowed := true }
def VaryNewUptoSaid : Prop := varyNewUptoRow.holds Tryz.pinned (OpenSpec.upto varyNewSpec)

/-- 'ponderlaw22.VaryOrders', WHERE WHAT IT READS IS OF BULK AT MOST 1048576: true; the input reads as it did. -/
def varyOrdersUptoRow : OpenClaim := { program := "ytldndkngpdfpfaagreat", sum := "52de675d757b8f0650d0cc406c1107e1125dfc83dee359b310f5eedfb0d61b72", func := "ponder/ponderlaw22.VaryOrders", spec := "varyOrders", unfollowed := true, recurses := true, apart := false, narrowed := true }
def VaryOrdersUptoSaid : Prop := varyOrdersUptoRow.holds Tryz.pinned (OpenSpec.upto varyOrdersSpec)

/-- 'ponderlaw22.VaryTurned', WHERE WHAT IT READS IS OF BULK AT MOST 1048576: true; the input reads as it did. -/
def varyTurnedUptoRow : OpenClaim := { program := "ytldndkngpdfpfaagreat", sum := "52de675d757b8f0650d0cc406c1107e1125dfc83dee359b310f5eedfb0d61b72", func := "ponder/ponderlaw22.VaryTurned", spec := "varyTurned", unfollowed := true, recurses := true, apart := false, narrowed := true }
def VaryTurnedUptoSaid : Prop := varyTurnedUptoRow.holds Tryz.pinned (OpenSpec.upto varyTurnedSpec)

/-- 'ponderlaw24.LearnNames', WHERE WHAT IT READS IS OF BULK AT MOST 1048576: true; the input reads as it did. -/
def learnNamesUptoRow : OpenClaim := { program := "ytldndkngpdfpfaagreat", sum := "52de675d757b8f0650d0cc406c1107e1125dfc83dee359b310f5eedfb0d61b72", func := "ponder/ponderlaw24.LearnNames", spec := "learnNames", unfollowed := true, recurses := true, apart := false, narrowed := true }
def LearnNamesUptoSaid : Prop := learnNamesUptoRow.holds Tryz.pinned (OpenSpec.upto learnNamesSpec)

/-- 'ponderlaw24.LearnResults', WHERE WHAT IT READS IS OF BULK AT MOST 1048576: true; the input reads as it did. -/
def learnResultsUptoRow : OpenClaim := { program := "ytldndkngpdfpfaagreat", sum := "52de675d757b8f0650d0cc406c1107e1125dfc83dee359b310f5eedfb0d61b72", func := "ponder/ponderlaw24.LearnResults", spec := "learnResults", unfollowed := true, recurses := true, apart := false, narrowed := true }
def LearnResultsUptoSaid : Prop := learnResultsUptoRow.holds Tryz.pinned (OpenSpec.upto learnResultsSpec)

/-- 'ponderlaw24.LearnFirst', WHERE WHAT IT READS IS OF BULK AT MOST 1048576: true; the input reads as it did. -/
def learnFirstUptoRow : OpenClaim := { program := "ytldndkngpdfpfaagreat", sum := "52de675d757b8f0650d0cc406c1107e1125dfc83dee359b310f5eedfb0d61b72", func := "ponder/ponderlaw24.LearnFirst", spec := "learnFirst", unfollowed := true, recurses := true, apart := false, narrowed := true }
def LearnFirstUptoSaid : Prop := learnFirstUptoRow.holds Tryz.pinned (OpenSpec.upto learnFirstSpec)

end Rows
end Go.Proofs.YtldndkngpdfpfaaGreat
