/-
  NARROWER THAN 'FOR EVERY INPUT', by the rows' own cells (each row's printed sentence says how): DimensionChecks: laid · DimensionReverses: laid · DimensionFinds: laid · DimensionStandard: laid · DimensionBounds: laid · DimensionLeast: laid · DimensionCritical: laid.
  DERIVED. THE GIVEN ROWS OF THIS SEAT. 7 by the template 'for every input the law returns true; each argument reads behind the call as it read before'; 0 by the template 'total and deterministic' (their statements: YtcnldaccdojdkaaDoorTotals.lean).
  GIVEN WITH THE SEED: the statements are not yours to turn. If you find one false, say at which input.
  Laid BY PROGRAM, IN A SANDBOX (cutbox-rows.mjs): the forced cells as the released guide's own fill.sh prints them over the translation 3333c1f2925cb4ac… (all of the seat's roots in one cut). By AI agents, Wed Nov 11 2026. No macro, syntax, notation, axiom, sorry.
-/
import Derived.Test.YtcnldaccdojdkaaDoorChecked
import GoSem.Claim
import GoSem.ClaimJoined
import GoSem.ClaimMapViews
import Derived.JoinedTies
import Derived.KernelRfl
namespace Go.Proofs.YtcnldaccdojdkaaDoor
/- THE CELL 'sum', in the pinned program and in every row, IS THE sha256 OF THE DUMP (.gsa) THAT YtcnldaccdojdkaaDoorProg.lean LOADS. Nothing in Lean hashes anything: it is a label: what it is worth is what the hold of that sum in a sandbox is worth. -/
noncomputable def Tryd.pinned : Pinned := { name := "ytcnldaccdojdkaadoor", sum := "3333c1f2925cb4ac388cea27be3c6e187ed7f8bf41d9c315d86df42263f173d0", checked := Tryd.checked }
namespace Rows
def none {H : Type} : Left H := { results := [], args := [] }

/- WHAT THE LISTED PACKAGE-LEVEL VARIABLES READ AS WHEN THE CALL BEGINS. Each datum BY PROGRAM (the guide's laid-datum.mjs) off the statement by which the dump's own 'gosem.cut.vars' lays the variable. In a bare row this is a premise. The card (YtcnldaccdojdkaaDoorCards.lean) ties it to the program's text. -/
def laid_math_bits_deBruijn64tab {H : Type} : DataW H := .agg [.lit (.int .u8 0), .lit (.int .u8 1), .lit (.int .u8 56), .lit (.int .u8 2), .lit (.int .u8 57), .lit (.int .u8 49), .lit (.int .u8 28), .lit (.int .u8 3), .lit (.int .u8 61), .lit (.int .u8 58), .lit (.int .u8 42), .lit (.int .u8 50), .lit (.int .u8 38), .lit (.int .u8 29), .lit (.int .u8 17), .lit (.int .u8 4), .lit (.int .u8 62), .lit (.int .u8 47), .lit (.int .u8 59), .lit (.int .u8 36), .lit (.int .u8 45), .lit (.int .u8 43), .lit (.int .u8 51), .lit (.int .u8 22), .lit (.int .u8 53), .lit (.int .u8 39), .lit (.int .u8 33), .lit (.int .u8 30), .lit (.int .u8 24), .lit (.int .u8 18), .lit (.int .u8 12), .lit (.int .u8 5), .lit (.int .u8 63), .lit (.int .u8 55), .lit (.int .u8 48), .lit (.int .u8 27), .lit (.int .u8 60), .lit (.int .u8 41), .lit (.int .u8 37), .lit (.int .u8 16), .lit (.int .u8 46), .lit (.int .u8 35), .lit (.int .u8 44), .lit (.int .u8 21), .lit (.int .u8 52), .lit (.int .u8 32), .lit (.int .u8 23), .lit (.int .u8 11), .lit (.int .u8 54), .lit (.int .u8 26), .lit (.int .u8 40), .lit (.int .u8 15), .lit (.int .u8 34), .lit (.int .u8 20), .lit (.int .u8 31), .lit (.int .u8 10), .lit (.int .u8 25), .lit (.int .u8 14), .lit (.int .u8 19), .lit (.int .u8 9), .lit (.int .u8 13), .lit (.int .u8 8), .lit (.int .u8 7), .lit (.int .u8 6)]

/-- 'antecedelaw09.DimensionChecks': WHATEVER THE INPUT: true; the input reads as it did. -/
def dimensionChecksSpec : ChangeSpec := { name := "dimensionChecks", fn := fun _ => fun
  | [d1, d2] => { results := [.lit (.bool true)], args := [d1, d2] }
  | _ => none }
def dimensionChecksRow : OpenClaim := { program := "ytcnldaccdojdkaadoor", sum := "3333c1f2925cb4ac388cea27be3c6e187ed7f8bf41d9c315d86df42263f173d0", func := "antecede/antecedelaw09.DimensionChecks", spec := "dimensionChecks", unfollowed := true, recurses := true, named := ["math/bits.deBruijn64tab"], apart := false, laid := [("math/bits.deBruijn64tab", laid_math_bits_deBruijn64tab)] }
def DimensionChecksSaid : Prop := dimensionChecksRow.holds Tryd.pinned (OpenSpec.ofChange dimensionChecksSpec)

/-- ITS FALSE NEIGHBOUR: 'it returns false'. Refute it at one input. -/
def dimensionChecksWrong : ChangeSpec := { name := "dimensionChecks", fn := fun _ => fun
  | [d1, d2] => { results := [.lit (.bool false)], args := [d1, d2] }
  | _ => none }
def DimensionChecksWrongFalsely : Prop := dimensionChecksRow.holds Tryd.pinned (OpenSpec.ofChange dimensionChecksWrong)

/-- 'antecedelaw09.DimensionReverses': WHATEVER THE INPUT: true; the input reads as it did. -/
def dimensionReversesSpec : ChangeSpec := { name := "dimensionReverses", fn := fun _ => fun
  | [d1, d2] => { results := [.lit (.bool true)], args := [d1, d2] }
  | _ => none }
def dimensionReversesRow : OpenClaim := { program := "ytcnldaccdojdkaadoor", sum := "3333c1f2925cb4ac388cea27be3c6e187ed7f8bf41d9c315d86df42263f173d0", func := "antecede/antecedelaw09.DimensionReverses", spec := "dimensionReverses", unfollowed := true, recurses := true, named := ["math/bits.deBruijn64tab"], apart := false, laid := [("math/bits.deBruijn64tab", laid_math_bits_deBruijn64tab)] }
def DimensionReversesSaid : Prop := dimensionReversesRow.holds Tryd.pinned (OpenSpec.ofChange dimensionReversesSpec)

/-- ITS FALSE NEIGHBOUR: 'it returns false'. Refute it at one input. -/
def dimensionReversesWrong : ChangeSpec := { name := "dimensionReverses", fn := fun _ => fun
  | [d1, d2] => { results := [.lit (.bool false)], args := [d1, d2] }
  | _ => none }
def DimensionReversesWrongFalsely : Prop := dimensionReversesRow.holds Tryd.pinned (OpenSpec.ofChange dimensionReversesWrong)

/-- 'antecedelaw09.DimensionFinds': WHATEVER THE INPUT: true; the input reads as it did. -/
def dimensionFindsSpec : ChangeSpec := { name := "dimensionFinds", fn := fun _ => fun
  | [d] => { results := [.lit (.bool true)], args := [d] }
  | _ => none }
def dimensionFindsRow : OpenClaim := { program := "ytcnldaccdojdkaadoor", sum := "3333c1f2925cb4ac388cea27be3c6e187ed7f8bf41d9c315d86df42263f173d0", func := "antecede/antecedelaw09.DimensionFinds", spec := "dimensionFinds", unfollowed := true, recurses := true, named := ["math/bits.deBruijn64tab"], apart := false, laid := [("math/bits.deBruijn64tab", laid_math_bits_deBruijn64tab)] }
def DimensionFindsSaid : Prop := dimensionFindsRow.holds Tryd.pinned (OpenSpec.ofChange dimensionFindsSpec)

/-- ITS FALSE NEIGHBOUR: 'it returns false'. Refute it at one input. -/
def dimensionFindsWrong : ChangeSpec := { name := "dimensionFinds", fn := fun _ => fun
  | [d] => { results := [.lit (.bool false)], args := [d] }
  | _ => none }
def DimensionFindsWrongFalsely : Prop := dimensionFindsRow.holds Tryd.pinned (OpenSpec.ofChange dimensionFindsWrong)

/-- 'antecedelaw09.DimensionStandard': WHATEVER THE INPUT: true; the input reads as it did. -/
def dimensionStandardSpec : ChangeSpec := { name := "dimensionStandard", fn := fun _ => fun
  | [d] => { results := [.lit (.bool true)], args := [d] }
  | _ => none }
def dimensionStandardRow : OpenClaim := { program := "ytcnldaccdojdkaadoor", sum := "3333c1f2925cb4ac388cea27be3c6e187ed7f8bf41d9c315d86df42263f173d0", func := "antecede/antecedelaw09.DimensionStandard", spec := "dimensionStandard", unfollowed := true, recurses := true, named := ["math/bits.deBruijn64tab"], apart := false, laid := [("math/bits.deBruijn64tab", laid_math_bits_deBruijn64tab)] }
def DimensionStandardSaid : Prop := dimensionStandardRow.holds Tryd.pinned (OpenSpec.ofChange dimensionStandardSpec)

/-- ITS FALSE NEIGHBOUR: 'it returns false'. Refute it at one input. -/
def dimensionStandardWrong : ChangeSpec := { name := "dimensionStandard", fn := fun _ => fun
  | [d] => { results := [.lit (.bool false)], args := [d] }
  | _ => none }
def DimensionStandardWrongFalsely : Prop := dimensionStandardRow.holds Tryd.pinned (OpenSpec.ofChange dimensionStandardWrong)

/-- 'antecedelaw09.DimensionBounds': WHATEVER THE INPUT: true; the input reads as it did. -/
def dimensionBoundsSpec : ChangeSpec := { name := "dimensionBounds", fn := fun _ => fun
  | [d1, d2] => { results := [.lit (.bool true)], args := [d1, d2] }
  | _ => none }
def dimensionBoundsRow : OpenClaim := { program := "ytcnldaccdojdkaadoor", sum := "3333c1f2925cb4ac388cea27be3c6e187ed7f8bf41d9c315d86df42263f173d0", func := "antecede/antecedelaw09.DimensionBounds", spec := "dimensionBounds", unfollowed := true, recurses := true, named := ["math/bits.deBruijn64tab"], apart := false, laid := [("math/bits.deBruijn64tab", laid_math_bits_deBruijn64tab)] }
def DimensionBoundsSaid : Prop := dimensionBoundsRow.holds Tryd.pinned (OpenSpec.ofChange dimensionBoundsSpec)

/-- ITS FALSE NEIGHBOUR: 'it returns false'. Refute it at one input. -/
def dimensionBoundsWrong : ChangeSpec := { name := "dimensionBounds", fn := fun _ => fun
  | [d1, d2] => { results := [.lit (.bool false)], args := [d1, d2] }
  | _ => none }
def DimensionBoundsWrongFalsely : Prop := dimensionBoundsRow.holds Tryd.pinned (OpenSpec.ofChange dimensionBoundsWrong)

/-- 'antecedelaw09.DimensionLeast': WHATEVER THE INPUT: true; the input reads as it did. -/
def dimensionLeastSpec : ChangeSpec := { name := "dimensionLeast", fn := fun _ => fun
  | [d] => { results := [.lit (.bool true)], args := [d] }
  | _ => none }
def dimensionLeastRow : OpenClaim := { program := "ytcnldaccdojdkaadoor", sum := "3333c1f2925cb4ac388cea27be3c6e187ed7f8bf41d9c315d86df42263f173d0", func := "antecede/antecedelaw09.DimensionLeast", spec := "dimensionLeast", unfollowed := true, recurses := true, named := ["math/bits.deBruijn64tab"], apart := false, laid := [("math/bits.deBruijn64tab", laid_math_bits_deBruijn64tab)] }
def DimensionLeastSaid : Prop := dimensionLeastRow.holds Tryd.pinned (OpenSpec.ofChange dimensionLeastSpec)

/-- ITS FALSE NEIGHBOUR: 'it returns false'. Refute it at one input. -/
def dimensionLeastWrong : ChangeSpec := { name := "dimensionLeast", fn := fun _ => fun
  | [d] => { results := [.lit (.bool false)], args := [d] }
  | _ => none }
def DimensionLeastWrongFalsely : Prop := dimensionLeastRow.holds Tryd.pinned (OpenSpec.ofChange dimensionLeastWrong)

/-- 'antecedelaw09.DimensionCritical': WHATEVER THE INPUT: true; the input reads as it did. -/
def dimensionCriticalSpec : ChangeSpec := { name := "dimensionCritical", fn := fun _ => fun
  | [d1, d2] => { results := [.lit (.bool true)], args := [d1, d2] }
  | _ => none }
def dimensionCriticalRow : OpenClaim := { program := "ytcnldaccdojdkaadoor", sum := "3333c1f2925cb4ac388cea27be3c6e187ed7f8bf41d9c315d86df42263f173d0", func := "antecede/antecedelaw09.DimensionCritical", spec := "dimensionCritical", unfollowed := true, recurses := true, named := ["math/bits.deBruijn64tab"], apart := false, laid := [("math/bits.deBruijn64tab", laid_math_bits_deBruijn64tab)] }
def DimensionCriticalSaid : Prop := dimensionCriticalRow.holds Tryd.pinned (OpenSpec.ofChange dimensionCriticalSpec)

/-- ITS FALSE NEIGHBOUR: 'it returns false'. Refute it at one input. -/
def dimensionCriticalWrong : ChangeSpec := { name := "dimensionCritical", fn := fun _ => fun
  | [d1, d2] => { results := [.lit (.bool false)], args := [d1, d2] }
  | _ => none }
def DimensionCriticalWrongFalsely : Prop := dimensionCriticalRow.holds Tryd.pinned (OpenSpec.ofChange dimensionCriticalWrong)

/- THE SECOND FORM. 'bulk': how many values and letters a reading holds, each counted each time it is reached (what is shared counts as often as it is met; a slice's spare places count too). A statement '..UptoSaid' is the law's where the arguments, and the package variables that the reading takes, are together of bulk at most 1048576: NARROWER than '..Said'. Prove '..Said' where nothing that the law and all that it calls make is longer than what came in: it says more and counts as full. Else prove '..UptoSaid'. A law counts once. -/
mutual
def uptoBulk {H : Type} : DataW H → Nat
  | .lit (.string bytes) => bytes.length + 1
  | .lit _ => 1
  | .nil => 1
  | .ptr d => uptoBulk d + 1
  | .slice elems spare => uptoBulkAll elems + uptoBulkAll spare + 1
  | .agg parts => uptoBulkAll parts + 1
  | .iface _ d => uptoBulk d + 1
  | .map entries => uptoBulkEntries entries + 1
  | .held _ => 1
def uptoBulkAll {H : Type} : List (DataW H) → Nat
  | [] => 0
  | d :: r => uptoBulk d + uptoBulkAll r
def uptoBulkEntries {H : Type} : List (Lit × DataW H) → Nat
  | [] => 0
  | x :: r => uptoBulkEntry x + uptoBulkEntries r
def uptoBulkEntry {H : Type} : Lit × DataW H → Nat
  | (.string bytes, d) => bytes.length + uptoBulk d + 1
  | (_, d) => uptoBulk d + 1
 end
def uptoSmall : (H : Type) → List (DataW H) → Bool := fun _ ds => decide (uptoBulkAll ds ≤ 1048576)
def OpenSpec.upto (s : _root_.Go.ChangeSpec) : _root_.Go.OpenSpec := { _root_.Go.OpenSpec.ofChange s with cond := some uptoSmall }

/-- 'antecedelaw09.DimensionChecks', WHERE WHAT IT READS IS OF BULK AT MOST 1048576: true; the input reads as it did. -/
def dimensionChecksUptoRow : OpenClaim := { program := "ytcnldaccdojdkaadoor", sum := "3333c1f2925cb4ac388cea27be3c6e187ed7f8bf41d9c315d86df42263f173d0", func := "antecede/antecedelaw09.DimensionChecks", spec := "dimensionChecks", unfollowed := true, recurses := true, named := ["math/bits.deBruijn64tab"], apart := false, laid := [("math/bits.deBruijn64tab", laid_math_bits_deBruijn64tab)], narrowed := true }
def DimensionChecksUptoSaid : Prop := dimensionChecksUptoRow.holds Tryd.pinned (OpenSpec.upto dimensionChecksSpec)

/-- 'antecedelaw09.DimensionReverses', WHERE WHAT IT READS IS OF BULK AT MOST 1048576: true; the input reads as it did. -/
def dimensionReversesUptoRow : OpenClaim := { program := "ytcnldaccdojdkaadoor", sum := "3333c1f2925cb4ac388cea27be3c6e187ed7f8bf41d9c315d86df42263f173d0", func := "antecede/antecedelaw09.DimensionReverses", spec := "dimensionReverses", unfollowed := true, recurses := true, named := ["math/bits.deBruijn64tab"], apart := false, laid := [("math/bits.deBruijn64tab", laid_math_bits_deBruijn64tab)], narrowed := true }
def DimensionReversesUptoSaid : Prop := dimensionReversesUptoRow.holds Tryd.pinned (OpenSpec.upto dimensionReversesSpec)

/-- 'antecedelaw09.DimensionFinds', WHERE WHAT IT READS IS OF BULK AT MOST 1048576: true; the input reads as it did. -/
def dimensionFindsUptoRow : OpenClaim := { program := "ytcnldaccdojdkaadoor", sum := "3333c1f2925cb4ac388cea27be3c6e187ed7f8bf41d9c315d86df42263f173d0", func := "antecede/antecedelaw09.DimensionFinds", spec := "dimensionFinds", unfollowed := true, recurses := true, named := ["math/bits.deBruijn64tab"], apart := false, laid := [("math/bits.deBruijn64tab", laid_math_bits_deBruijn64tab)], narrowed := true }
def DimensionFindsUptoSaid : Prop := dimensionFindsUptoRow.holds Tryd.pinned (OpenSpec.upto dimensionFindsSpec)

/-- 'antecedelaw09.DimensionStandard', WHERE WHAT IT READS IS OF BULK AT MOST 1048576: true; the input reads as it did. -/
def dimensionStandardUptoRow : OpenClaim := { program := "ytcnldaccdojdkaadoor", sum := "3333c1f2925cb4ac388cea27be3c6e187ed7f8bf41d9c315d86df42263f173d0", func := "antecede/antecedelaw09.DimensionStandard", spec := "dimensionStandard", unfollowed := true, recurses := true, named := ["math/bits.deBruijn64tab"], apart := false, laid := [("math/bits.deBruijn64tab", laid_math_bits_deBruijn64tab)], narrowed := true }
def DimensionStandardUptoSaid : Prop := dimensionStandardUptoRow.holds Tryd.pinned (OpenSpec.upto dimensionStandardSpec)

/-- 'antecedelaw09.DimensionBounds', WHERE WHAT IT READS IS OF BULK AT MOST 1048576: true; the input reads as it did. -/
def dimensionBoundsUptoRow : OpenClaim := { program := "ytcnldaccdojdkaadoor", sum := "3333c1f2925cb4ac388cea27be3c6e187ed7f8bf41d9c315d86df42263f173d0", func := "antecede/antecedelaw09.DimensionBounds", spec := "dimensionBounds", unfollowed := true, recurses := true, named := ["math/bits.deBruijn64tab"], apart := false, laid := [("math/bits.deBruijn64tab", laid_math_bits_deBruijn64tab)], narrowed := true }
def DimensionBoundsUptoSaid : Prop := dimensionBoundsUptoRow.holds Tryd.pinned (OpenSpec.upto dimensionBoundsSpec)

/-- 'antecedelaw09.DimensionLeast', WHERE WHAT IT READS IS OF BULK AT MOST 1048576: true; the input reads as it did. -/
def dimensionLeastUptoRow : OpenClaim := { program := "ytcnldaccdojdkaadoor", sum := "3333c1f2925cb4ac388cea27be3c6e187ed7f8bf41d9c315d86df42263f173d0", func := "antecede/antecedelaw09.DimensionLeast", spec := "dimensionLeast", unfollowed := true, recurses := true, named := ["math/bits.deBruijn64tab"], apart := false, laid := [("math/bits.deBruijn64tab", laid_math_bits_deBruijn64tab)], narrowed := true }
def DimensionLeastUptoSaid : Prop := dimensionLeastUptoRow.holds Tryd.pinned (OpenSpec.upto dimensionLeastSpec)

/-- 'antecedelaw09.DimensionCritical', WHERE WHAT IT READS IS OF BULK AT MOST 1048576: true; the input reads as it did. -/
def dimensionCriticalUptoRow : OpenClaim := { program := "ytcnldaccdojdkaadoor", sum := "3333c1f2925cb4ac388cea27be3c6e187ed7f8bf41d9c315d86df42263f173d0", func := "antecede/antecedelaw09.DimensionCritical", spec := "dimensionCritical", unfollowed := true, recurses := true, named := ["math/bits.deBruijn64tab"], apart := false, laid := [("math/bits.deBruijn64tab", laid_math_bits_deBruijn64tab)], narrowed := true }
def DimensionCriticalUptoSaid : Prop := dimensionCriticalUptoRow.holds Tryd.pinned (OpenSpec.upto dimensionCriticalSpec)

end Rows
end Go.Proofs.YtcnldaccdojdkaaDoor
