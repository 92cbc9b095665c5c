/-
  NARROWER THAN 'FOR EVERY INPUT', by the rows' own cells (each row's printed sentence says how): ActNews: loops · ActDoes: loops · ActFresh: loops.
  DERIVED. THE GIVEN ROWS OF THIS SEAT. 6 by the template 'for every input the law returns true; each argument reads behind the call as it read before'; 0 by the template 'total and deterministic' (their statements: YtpndmjabjjbefaaGreatTotals.lean).
  GIVEN WITH THE SEED: the statements are not yours to turn. If you find one false, say at which input.
  Laid BY PROGRAM, IN A SANDBOX (cutbox-rows.mjs): the forced cells as the released guide's own fill.sh prints them over the translation 72152342aab0d681… (all of the seat's roots in one cut). By AI agents, Wed Nov 11 2026. No macro, syntax, notation, axiom, sorry.
-/
import Derived.Test.YtpndmjabjjbefaaGreatChecked
import GoSem.Claim
import GoSem.ClaimJoined
import GoSem.ClaimMapViews
import Derived.JoinedTies
import Derived.KernelRfl
namespace Go.Proofs.YtpndmjabjjbefaaGreat
/- THE CELL 'sum', in the pinned program and in every row, IS THE sha256 OF THE DUMP (.gsa) THAT YtpndmjabjjbefaaGreatProg.lean LOADS. Nothing in Lean hashes anything: it is a label: what it is worth is what the hold of that sum in a sandbox is worth. -/
noncomputable def Tryz.pinned : Pinned := { name := "ytpndmjabjjbefaagreat", sum := "72152342aab0d68147dba9980b275cef56dd757a83d988498073c923fa1a5a25", checked := Tryz.checked }
namespace Rows
def none {H : Type} : Left H := { results := [], args := [] }

/-- 'ponderlaw15.ActValues': WHATEVER THE INPUT: true; the input reads as it did. -/
def actValuesSpec : ChangeSpec := { name := "actValues", fn := fun _ => fun
  | [d1, d2] => { results := [.lit (.bool true)], args := [d1, d2] }
  | _ => none }
def actValuesRow : OpenClaim := { program := "ytpndmjabjjbefaagreat", sum := "72152342aab0d68147dba9980b275cef56dd757a83d988498073c923fa1a5a25", func := "ponder/ponderlaw15.ActValues", spec := "actValues", unfollowed := true, recurses := true, apart := false }
def ActValuesSaid : Prop := actValuesRow.holds Tryz.pinned (OpenSpec.ofChange actValuesSpec)

/-- ITS FALSE NEIGHBOUR: 'it returns false'. Refute it at one input. -/
def actValuesWrong : ChangeSpec := { name := "actValues", fn := fun _ => fun
  | [d1, d2] => { results := [.lit (.bool false)], args := [d1, d2] }
  | _ => none }
def ActValuesWrongFalsely : Prop := actValuesRow.holds Tryz.pinned (OpenSpec.ofChange actValuesWrong)

/-- 'ponderlaw15.ActSums': WHATEVER THE INPUT: true; the input reads as it did. -/
def actSumsSpec : ChangeSpec := { name := "actSums", fn := fun _ => fun
  | [d1, d2] => { results := [.lit (.bool true)], args := [d1, d2] }
  | _ => none }
def actSumsRow : OpenClaim := { program := "ytpndmjabjjbefaagreat", sum := "72152342aab0d68147dba9980b275cef56dd757a83d988498073c923fa1a5a25", func := "ponder/ponderlaw15.ActSums", spec := "actSums", unfollowed := true, recurses := true, apart := false }
def ActSumsSaid : Prop := actSumsRow.holds Tryz.pinned (OpenSpec.ofChange actSumsSpec)

/-- ITS FALSE NEIGHBOUR: 'it returns false'. Refute it at one input. -/
def actSumsWrong : ChangeSpec := { name := "actSums", fn := fun _ => fun
  | [d1, d2] => { results := [.lit (.bool false)], args := [d1, d2] }
  | _ => none }
def ActSumsWrongFalsely : Prop := actSumsRow.holds Tryz.pinned (OpenSpec.ofChange actSumsWrong)

/-- 'ponderlaw15.ActNews': WHATEVER THE INPUT: true; the input reads as it did. -/
def actNewsSpec : ChangeSpec := { name := "actNews", fn := fun _ => fun
  | [d1, d2, d3] => { results := [.lit (.bool true)], args := [d1, d2, d3] }
  | _ => none }
def actNewsRow : OpenClaim := { program := "ytpndmjabjjbefaagreat", sum := "72152342aab0d68147dba9980b275cef56dd757a83d988498073c923fa1a5a25", func := "ponder/ponderlaw15.ActNews", spec := "actNews", unfollowed := true, recurses := true, loops := true, apart := false }
def ActNewsSaid : Prop := actNewsRow.holds Tryz.pinned (OpenSpec.ofChange actNewsSpec)

/-- ITS FALSE NEIGHBOUR: 'it returns false'. Refute it at one input. -/
def actNewsWrong : ChangeSpec := { name := "actNews", fn := fun _ => fun
  | [d1, d2, d3] => { results := [.lit (.bool false)], args := [d1, d2, d3] }
  | _ => none }
def ActNewsWrongFalsely : Prop := actNewsRow.holds Tryz.pinned (OpenSpec.ofChange actNewsWrong)

/-- 'ponderlaw15.ActLeft': WHATEVER THE INPUT: true; the input reads as it did. -/
def actLeftSpec : ChangeSpec := { name := "actLeft", fn := fun _ => fun
  | [d1, d2] => { results := [.lit (.bool true)], args := [d1, d2] }
  | _ => none }
def actLeftRow : OpenClaim := { program := "ytpndmjabjjbefaagreat", sum := "72152342aab0d68147dba9980b275cef56dd757a83d988498073c923fa1a5a25", func := "ponder/ponderlaw15.ActLeft", spec := "actLeft", unfollowed := true, recurses := true, apart := false }
def ActLeftSaid : Prop := actLeftRow.holds Tryz.pinned (OpenSpec.ofChange actLeftSpec)

/-- ITS FALSE NEIGHBOUR: 'it returns false'. Refute it at one input. -/
def actLeftWrong : ChangeSpec := { name := "actLeft", fn := fun _ => fun
  | [d1, d2] => { results := [.lit (.bool false)], args := [d1, d2] }
  | _ => none }
def ActLeftWrongFalsely : Prop := actLeftRow.holds Tryz.pinned (OpenSpec.ofChange actLeftWrong)

/-- 'ponderlaw15.ActDoes': WHATEVER THE INPUT: true; the input reads as it did. -/
def actDoesSpec : ChangeSpec := { name := "actDoes", fn := fun _ => fun
  | [d1, d2, d3, d4] => { results := [.lit (.bool true)], args := [d1, d2, d3, d4] }
  | _ => none }
def actDoesRow : OpenClaim := { program := "ytpndmjabjjbefaagreat", sum := "72152342aab0d68147dba9980b275cef56dd757a83d988498073c923fa1a5a25", func := "ponder/ponderlaw15.ActDoes", spec := "actDoes", unfollowed := true, recurses := true, loops := true, apart := false }
def ActDoesSaid : Prop := actDoesRow.holds Tryz.pinned (OpenSpec.ofChange actDoesSpec)

/-- ITS FALSE NEIGHBOUR: 'it returns false'. Refute it at one input. -/
def actDoesWrong : ChangeSpec := { name := "actDoes", fn := fun _ => fun
  | [d1, d2, d3, d4] => { results := [.lit (.bool false)], args := [d1, d2, d3, d4] }
  | _ => none }
def ActDoesWrongFalsely : Prop := actDoesRow.holds Tryz.pinned (OpenSpec.ofChange actDoesWrong)

/-- 'ponderlaw15.ActFresh': WHATEVER THE INPUT: true; the input reads as it did. -/
def actFreshSpec : ChangeSpec := { name := "actFresh", fn := fun _ => fun
  | [d1, d2, d3] => { results := [.lit (.bool true)], args := [d1, d2, d3] }
  | _ => none }
def actFreshRow : OpenClaim := { program := "ytpndmjabjjbefaagreat", sum := "72152342aab0d68147dba9980b275cef56dd757a83d988498073c923fa1a5a25", func := "ponder/ponderlaw15.ActFresh", spec := "actFresh", unfollowed := true, recurses := true, loops := true, apart := false }
def ActFreshSaid : Prop := actFreshRow.holds Tryz.pinned (OpenSpec.ofChange actFreshSpec)

/-- ITS FALSE NEIGHBOUR: 'it returns false'. Refute it at one input. -/
def actFreshWrong : ChangeSpec := { name := "actFresh", fn := fun _ => fun
  | [d1, d2, d3] => { results := [.lit (.bool false)], args := [d1, d2, d3] }
  | _ => none }
def ActFreshWrongFalsely : Prop := actFreshRow.holds Tryz.pinned (OpenSpec.ofChange actFreshWrong)

/- THE SECOND FORM. 'bulk': how many values and letters a reading holds, each counted each time it is reached (what is shared counts as often as it is met; a slice's spare places count too). A statement '..UptoSaid' is the law's where the arguments, and the package variables that the reading takes, are together of bulk at most 1048576: NARROWER than '..Said'. Prove '..Said' where nothing that the law and all that it calls make is longer than what came in: it says more and counts as full. Else prove '..UptoSaid'. A law counts once. -/
mutual
def uptoBulk {H : Type} : DataW H → Nat
  | .lit (.string bytes) => bytes.length + 1
  | .lit _ => 1
  | .nil => 1
  | .ptr d => uptoBulk d + 1
  | .slice elems spare => uptoBulkAll elems + uptoBulkAll spare + 1
  | .agg parts => uptoBulkAll parts + 1
  | .iface _ d => uptoBulk d + 1
  | .map entries => uptoBulkEntries entries + 1
  | .held _ => 1
def uptoBulkAll {H : Type} : List (DataW H) → Nat
  | [] => 0
  | d :: r => uptoBulk d + uptoBulkAll r
def uptoBulkEntries {H : Type} : List (Lit × DataW H) → Nat
  | [] => 0
  | x :: r => uptoBulkEntry x + uptoBulkEntries r
def uptoBulkEntry {H : Type} : Lit × DataW H → Nat
  | (.string bytes, d) => bytes.length + uptoBulk d + 1
  | (_, d) => uptoBulk d + 1
 end
def uptoSmall : (H : Type) → List (DataW H) → Bool := fun _ ds => decide (uptoBulkAll ds ≤ 1048576)
def OpenSpec.upto (s : _root_.Go.ChangeSpec) : _root_.Go.OpenSpec := { _root_.Go.OpenSpec.ofChange s with cond := some uptoSmall }

/-- 'ponderlaw15.ActValues', WHERE WHAT IT READS IS OF BULK AT MOST 1048576: true; the input reads as it did. -/
def actValuesUptoRow : OpenClaim := { program := "ytpndmjabjjbefaagreat", sum := "72152342aab0d68147dba9980b275cef56dd757a83d988498073c923fa1a5a25", func := "ponder/ponderlaw15.ActValues", spec := "actValues", unfollowed := true, recurses := true, apart := false, narrowed := true }
def ActValuesUptoSaid : Prop := actValuesUptoRow.holds Tryz.pinned (OpenSpec.upto actValuesSpec)

/-- 'ponderlaw15.ActSums', WHERE WHAT IT READS IS OF BULK AT MOST 1048576: true; the input reads as it did. -/
def actSumsUptoRow : OpenClaim := { program := "ytpndmjabjjbefaagreat", sum := "72152342aab0d68147dba9980b275cef56dd757a83d988498073c923fa1a5a25", func := "ponder/ponderlaw15.ActSums", spec := "actSums", unfollowed := true, recurses := true, apart := false, narrowed := true }
def ActSumsUptoSaid : Prop := actSumsUptoRow.holds Tryz.pinned (OpenSpec.upto actSumsSpec)

/-- 'ponderlaw15.ActNews', WHERE WHAT IT READS IS OF BULK AT MOST 1048576: true; the input reads as it did. -/
def actNewsUptoRow : OpenClaim := { program := "ytpndmjabjjbefaagreat", sum := "72152342aab0d68147dba9980b275cef56dd757a83d988498073c923fa1a5a25", func := "ponder/ponderlaw15.ActNews", spec := "actNews", unfollowed := true, recurses := true, loops := true, apart := false, narrowed := true }
def ActNewsUptoSaid : Prop := actNewsUptoRow.holds Tryz.pinned (OpenSpec.upto actNewsSpec)

/-- 'ponderlaw15.ActLeft', WHERE WHAT IT READS IS OF BULK AT MOST 1048576: true; the input reads as it did. -/
def actLeftUptoRow : OpenClaim := { program := "ytpndmjabjjbefaagreat", sum := "72152342aab0d68147dba9980b275cef56dd757a83d988498073c923fa1a5a25", func := "ponder/ponderlaw15.ActLeft", spec := "actLeft", unfollowed := true, recurses := true, apart := false, narrowed := true }
def ActLeftUptoSaid : Prop := actLeftUptoRow.holds Tryz.pinned (OpenSpec.upto actLeftSpec)

/-- 'ponderlaw15.ActDoes', WHERE WHAT IT READS IS OF BULK AT MOST 1048576: true; the input reads as it did. -/
def actDoesUptoRow : OpenClaim := { program := "ytpndmjabjjbefaagreat", sum := "72152342aab0d68147dba9980b275cef56dd757a83d988498073c923fa1a5a25", func := "ponder/ponderlaw15.ActDoes", spec := "actDoes", unfollowed := true, recurses := true, loops := true, apart := false, narrowed := true }
def ActDoesUptoSaid : Prop := actDoesUptoRow.holds Tryz.pinned (OpenSpec.upto actDoesSpec)

/-- 'ponderlaw15.ActFresh', WHERE WHAT IT READS IS OF BULK AT MOST 1048576: true; the input reads as it did. -/
def actFreshUptoRow : OpenClaim := { program := "ytpndmjabjjbefaagreat", sum := "72152342aab0d68147dba9980b275cef56dd757a83d988498073c923fa1a5a25", func := "ponder/ponderlaw15.ActFresh", spec := "actFresh", unfollowed := true, recurses := true, loops := true, apart := false, narrowed := true }
def ActFreshUptoSaid : Prop := actFreshUptoRow.holds Tryz.pinned (OpenSpec.upto actFreshSpec)

end Rows
end Go.Proofs.YtpndmjabjjbefaaGreat
