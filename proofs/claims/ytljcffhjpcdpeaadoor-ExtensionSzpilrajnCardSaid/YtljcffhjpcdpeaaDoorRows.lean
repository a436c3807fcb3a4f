/-
  NARROWER THAN 'FOR EVERY INPUT', by the rows' own cells (each row's printed sentence says how): ExtensionCounts: laid · ExtensionNexts: laid · ExtensionChecks: laid · ExtensionFirst: laid · ExtensionRanks: laid · ExtensionMeets: laid · ExtensionSzpilrajn: laid · ExtensionAll: laid.
  DERIVED. THE GIVEN ROWS OF THIS SEAT. 8 by the template 'for every input the law returns true; each argument reads behind the call as it read before'; 0 by the template 'total and deterministic' (their statements: YtljcffhjpcdpeaaDoorTotals.lean).
  GIVEN WITH THE SEED: the statements are not yours to turn. If you find one false, say at which input.
  Laid BY PROGRAM, IN A SANDBOX (cutbox-rows.mjs): the forced cells as the released guide's own fill.sh prints them over the translation 7adad810f6f1b28e… (all of the seat's roots in one cut). By AI agents, Wed Nov 11 2026. No macro, syntax, notation, axiom, sorry.
-/
import Derived.Test.YtljcffhjpcdpeaaDoorChecked
import GoSem.Claim
import GoSem.ClaimJoined
import GoSem.ClaimMapViews
import Derived.JoinedTies
import Derived.KernelRfl
namespace Go.Proofs.YtljcffhjpcdpeaaDoor
/- THE CELL 'sum', in the pinned program and in every row, IS THE sha256 OF THE DUMP (.gsa) THAT YtljcffhjpcdpeaaDoorProg.lean LOADS. Nothing in Lean hashes anything: it is a label: what it is worth is what the hold of that sum in a sandbox is worth. -/
noncomputable def Tryd.pinned : Pinned := { name := "ytljcffhjpcdpeaadoor", sum := "7adad810f6f1b28e150bbd56dfdbec7cd9eca3ba7081773f99c20db438486798", checked := Tryd.checked }
namespace Rows
def none {H : Type} : Left H := { results := [], args := [] }

/- WHAT THE LISTED PACKAGE-LEVEL VARIABLES READ AS WHEN THE CALL BEGINS. Each datum BY PROGRAM (the guide's laid-datum.mjs) off the statement by which the dump's own 'gosem.cut.vars' lays the variable. In a bare row this is a premise. The card (YtljcffhjpcdpeaaDoorCards.lean) ties it to the program's text. -/
def laid_math_bits_deBruijn64tab {H : Type} : DataW H := .agg [.lit (.int .u8 0), .lit (.int .u8 1), .lit (.int .u8 56), .lit (.int .u8 2), .lit (.int .u8 57), .lit (.int .u8 49), .lit (.int .u8 28), .lit (.int .u8 3), .lit (.int .u8 61), .lit (.int .u8 58), .lit (.int .u8 42), .lit (.int .u8 50), .lit (.int .u8 38), .lit (.int .u8 29), .lit (.int .u8 17), .lit (.int .u8 4), .lit (.int .u8 62), .lit (.int .u8 47), .lit (.int .u8 59), .lit (.int .u8 36), .lit (.int .u8 45), .lit (.int .u8 43), .lit (.int .u8 51), .lit (.int .u8 22), .lit (.int .u8 53), .lit (.int .u8 39), .lit (.int .u8 33), .lit (.int .u8 30), .lit (.int .u8 24), .lit (.int .u8 18), .lit (.int .u8 12), .lit (.int .u8 5), .lit (.int .u8 63), .lit (.int .u8 55), .lit (.int .u8 48), .lit (.int .u8 27), .lit (.int .u8 60), .lit (.int .u8 41), .lit (.int .u8 37), .lit (.int .u8 16), .lit (.int .u8 46), .lit (.int .u8 35), .lit (.int .u8 44), .lit (.int .u8 21), .lit (.int .u8 52), .lit (.int .u8 32), .lit (.int .u8 23), .lit (.int .u8 11), .lit (.int .u8 54), .lit (.int .u8 26), .lit (.int .u8 40), .lit (.int .u8 15), .lit (.int .u8 34), .lit (.int .u8 20), .lit (.int .u8 31), .lit (.int .u8 10), .lit (.int .u8 25), .lit (.int .u8 14), .lit (.int .u8 19), .lit (.int .u8 9), .lit (.int .u8 13), .lit (.int .u8 8), .lit (.int .u8 7), .lit (.int .u8 6)]

/-- 'antecedelaw08.ExtensionCounts': WHATEVER THE INPUT: true; the input reads as it did. -/
def extensionCountsSpec : ChangeSpec := { name := "extensionCounts", fn := fun _ => fun
  | [d] => { results := [.lit (.bool true)], args := [d] }
  | _ => none }
def extensionCountsRow : OpenClaim := { program := "ytljcffhjpcdpeaadoor", sum := "7adad810f6f1b28e150bbd56dfdbec7cd9eca3ba7081773f99c20db438486798", func := "antecede/antecedelaw08.ExtensionCounts", spec := "extensionCounts", unfollowed := true, recurses := true, named := ["math/bits.deBruijn64tab"], apart := false, laid := [("math/bits.deBruijn64tab", laid_math_bits_deBruijn64tab)] }
def ExtensionCountsSaid : Prop := extensionCountsRow.holds Tryd.pinned (OpenSpec.ofChange extensionCountsSpec)

/-- ITS FALSE NEIGHBOUR: 'it returns false'. Refute it at one input. -/
def extensionCountsWrong : ChangeSpec := { name := "extensionCounts", fn := fun _ => fun
  | [d] => { results := [.lit (.bool false)], args := [d] }
  | _ => none }
def ExtensionCountsWrongFalsely : Prop := extensionCountsRow.holds Tryd.pinned (OpenSpec.ofChange extensionCountsWrong)

/-- 'antecedelaw08.ExtensionNexts': WHATEVER THE INPUT: true; the input reads as it did. -/
def extensionNextsSpec : ChangeSpec := { name := "extensionNexts", fn := fun _ => fun
  | [d1, d2] => { results := [.lit (.bool true)], args := [d1, d2] }
  | _ => none }
def extensionNextsRow : OpenClaim := { program := "ytljcffhjpcdpeaadoor", sum := "7adad810f6f1b28e150bbd56dfdbec7cd9eca3ba7081773f99c20db438486798", func := "antecede/antecedelaw08.ExtensionNexts", spec := "extensionNexts", unfollowed := true, recurses := true, named := ["math/bits.deBruijn64tab"], apart := false, laid := [("math/bits.deBruijn64tab", laid_math_bits_deBruijn64tab)] }
def ExtensionNextsSaid : Prop := extensionNextsRow.holds Tryd.pinned (OpenSpec.ofChange extensionNextsSpec)

/-- ITS FALSE NEIGHBOUR: 'it returns false'. Refute it at one input. -/
def extensionNextsWrong : ChangeSpec := { name := "extensionNexts", fn := fun _ => fun
  | [d1, d2] => { results := [.lit (.bool false)], args := [d1, d2] }
  | _ => none }
def ExtensionNextsWrongFalsely : Prop := extensionNextsRow.holds Tryd.pinned (OpenSpec.ofChange extensionNextsWrong)

/-- 'antecedelaw08.ExtensionChecks': WHATEVER THE INPUT: true; the input reads as it did. -/
def extensionChecksSpec : ChangeSpec := { name := "extensionChecks", fn := fun _ => fun
  | [d1, d2] => { results := [.lit (.bool true)], args := [d1, d2] }
  | _ => none }
def extensionChecksRow : OpenClaim := { program := "ytljcffhjpcdpeaadoor", sum := "7adad810f6f1b28e150bbd56dfdbec7cd9eca3ba7081773f99c20db438486798", func := "antecede/antecedelaw08.ExtensionChecks", spec := "extensionChecks", unfollowed := true, recurses := true, named := ["math/bits.deBruijn64tab"], apart := false, laid := [("math/bits.deBruijn64tab", laid_math_bits_deBruijn64tab)] }
def ExtensionChecksSaid : Prop := extensionChecksRow.holds Tryd.pinned (OpenSpec.ofChange extensionChecksSpec)

/-- ITS FALSE NEIGHBOUR: 'it returns false'. Refute it at one input. -/
def extensionChecksWrong : ChangeSpec := { name := "extensionChecks", fn := fun _ => fun
  | [d1, d2] => { results := [.lit (.bool false)], args := [d1, d2] }
  | _ => none }
def ExtensionChecksWrongFalsely : Prop := extensionChecksRow.holds Tryd.pinned (OpenSpec.ofChange extensionChecksWrong)

/-- 'antecedelaw08.ExtensionFirst': WHATEVER THE INPUT: true; the input reads as it did. -/
def extensionFirstSpec : ChangeSpec := { name := "extensionFirst", fn := fun _ => fun
  | [d1, d2, d3] => { results := [.lit (.bool true)], args := [d1, d2, d3] }
  | _ => none }
def extensionFirstRow : OpenClaim := { program := "ytljcffhjpcdpeaadoor", sum := "7adad810f6f1b28e150bbd56dfdbec7cd9eca3ba7081773f99c20db438486798", func := "antecede/antecedelaw08.ExtensionFirst", spec := "extensionFirst", unfollowed := true, recurses := true, named := ["math/bits.deBruijn64tab"], apart := false, laid := [("math/bits.deBruijn64tab", laid_math_bits_deBruijn64tab)] }
def ExtensionFirstSaid : Prop := extensionFirstRow.holds Tryd.pinned (OpenSpec.ofChange extensionFirstSpec)

/-- ITS FALSE NEIGHBOUR: 'it returns false'. Refute it at one input. -/
def extensionFirstWrong : ChangeSpec := { name := "extensionFirst", fn := fun _ => fun
  | [d1, d2, d3] => { results := [.lit (.bool false)], args := [d1, d2, d3] }
  | _ => none }
def ExtensionFirstWrongFalsely : Prop := extensionFirstRow.holds Tryd.pinned (OpenSpec.ofChange extensionFirstWrong)

/-- 'antecedelaw08.ExtensionRanks': WHATEVER THE INPUT: true; the input reads as it did. -/
def extensionRanksSpec : ChangeSpec := { name := "extensionRanks", fn := fun _ => fun
  | [d1, d2, d3] => { results := [.lit (.bool true)], args := [d1, d2, d3] }
  | _ => none }
def extensionRanksRow : OpenClaim := { program := "ytljcffhjpcdpeaadoor", sum := "7adad810f6f1b28e150bbd56dfdbec7cd9eca3ba7081773f99c20db438486798", func := "antecede/antecedelaw08.ExtensionRanks", spec := "extensionRanks", unfollowed := true, recurses := true, named := ["math/bits.deBruijn64tab"], apart := false, laid := [("math/bits.deBruijn64tab", laid_math_bits_deBruijn64tab)] }
def ExtensionRanksSaid : Prop := extensionRanksRow.holds Tryd.pinned (OpenSpec.ofChange extensionRanksSpec)

/-- ITS FALSE NEIGHBOUR: 'it returns false'. Refute it at one input. -/
def extensionRanksWrong : ChangeSpec := { name := "extensionRanks", fn := fun _ => fun
  | [d1, d2, d3] => { results := [.lit (.bool false)], args := [d1, d2, d3] }
  | _ => none }
def ExtensionRanksWrongFalsely : Prop := extensionRanksRow.holds Tryd.pinned (OpenSpec.ofChange extensionRanksWrong)

/-- 'antecedelaw08.ExtensionMeets': WHATEVER THE INPUT: true; the input reads as it did. -/
def extensionMeetsSpec : ChangeSpec := { name := "extensionMeets", fn := fun _ => fun
  | [d1, d2] => { results := [.lit (.bool true)], args := [d1, d2] }
  | _ => none }
def extensionMeetsRow : OpenClaim := { program := "ytljcffhjpcdpeaadoor", sum := "7adad810f6f1b28e150bbd56dfdbec7cd9eca3ba7081773f99c20db438486798", func := "antecede/antecedelaw08.ExtensionMeets", spec := "extensionMeets", unfollowed := true, recurses := true, named := ["math/bits.deBruijn64tab"], apart := false, laid := [("math/bits.deBruijn64tab", laid_math_bits_deBruijn64tab)] }
def ExtensionMeetsSaid : Prop := extensionMeetsRow.holds Tryd.pinned (OpenSpec.ofChange extensionMeetsSpec)

/-- ITS FALSE NEIGHBOUR: 'it returns false'. Refute it at one input. -/
def extensionMeetsWrong : ChangeSpec := { name := "extensionMeets", fn := fun _ => fun
  | [d1, d2] => { results := [.lit (.bool false)], args := [d1, d2] }
  | _ => none }
def ExtensionMeetsWrongFalsely : Prop := extensionMeetsRow.holds Tryd.pinned (OpenSpec.ofChange extensionMeetsWrong)

/-- 'antecedelaw08.ExtensionSzpilrajn': WHATEVER THE INPUT: true; the input reads as it did. -/
def extensionSzpilrajnSpec : ChangeSpec := { name := "extensionSzpilrajn", fn := fun _ => fun
  | [d] => { results := [.lit (.bool true)], args := [d] }
  | _ => none }
def extensionSzpilrajnRow : OpenClaim := { program := "ytljcffhjpcdpeaadoor", sum := "7adad810f6f1b28e150bbd56dfdbec7cd9eca3ba7081773f99c20db438486798", func := "antecede/antecedelaw08.ExtensionSzpilrajn", spec := "extensionSzpilrajn", unfollowed := true, recurses := true, named := ["math/bits.deBruijn64tab"], apart := false, laid := [("math/bits.deBruijn64tab", laid_math_bits_deBruijn64tab)] }
def ExtensionSzpilrajnSaid : Prop := extensionSzpilrajnRow.holds Tryd.pinned (OpenSpec.ofChange extensionSzpilrajnSpec)

/-- ITS FALSE NEIGHBOUR: 'it returns false'. Refute it at one input. -/
def extensionSzpilrajnWrong : ChangeSpec := { name := "extensionSzpilrajn", fn := fun _ => fun
  | [d] => { results := [.lit (.bool false)], args := [d] }
  | _ => none }
def ExtensionSzpilrajnWrongFalsely : Prop := extensionSzpilrajnRow.holds Tryd.pinned (OpenSpec.ofChange extensionSzpilrajnWrong)

/-- 'antecedelaw08.ExtensionAll': WHATEVER THE INPUT: true; the input reads as it did. -/
def extensionAllSpec : ChangeSpec := { name := "extensionAll", fn := fun _ => fun
  | [d] => { results := [.lit (.bool true)], args := [d] }
  | _ => none }
def extensionAllRow : OpenClaim := { program := "ytljcffhjpcdpeaadoor", sum := "7adad810f6f1b28e150bbd56dfdbec7cd9eca3ba7081773f99c20db438486798", func := "antecede/antecedelaw08.ExtensionAll", spec := "extensionAll", unfollowed := true, recurses := true, named := ["math/bits.deBruijn64tab"], apart := false, laid := [("math/bits.deBruijn64tab", laid_math_bits_deBruijn64tab)] }
def ExtensionAllSaid : Prop := extensionAllRow.holds Tryd.pinned (OpenSpec.ofChange extensionAllSpec)

/-- ITS FALSE NEIGHBOUR: 'it returns false'. Refute it at one input. -/
def extensionAllWrong : ChangeSpec := { name := "extensionAll", fn := fun _ => fun
  | [d] => { results := [.lit (.bool false)], args := [d] }
  | _ => none }
def ExtensionAllWrongFalsely : Prop := extensionAllRow.holds Tryd.pinned (OpenSpec.ofChange extensionAllWrong)

/- THE SECOND FORM. 'bulk': how many values and letters a reading holds, each counted each time it is reached (what is shared counts as often as it is met; a slice's spare places count too). A statement '..UptoSaid' is the law's where the arguments, and the package variables that the reading takes, are together of bulk at most 1048576: NARROWER than '..Said'. Prove '..Said' where nothing that the law and all that it calls make is longer than what came in: it says more and counts as full. Else prove '..UptoSaid'. A law counts once. -/
mutual
def uptoBulk {H : Type} : DataW H → Nat
  | .lit (.string bytes) => bytes.length + 1
  | .lit _ => 1
  | .nil => 1
  | .ptr d => uptoBulk d + 1
  | .slice elems spare => uptoBulkAll elems + uptoBulkAll spare + 1
  | .agg parts => uptoBulkAll parts + 1
  | .iface _ d => uptoBulk d + 1
  | .map entries => uptoBulkEntries entries + 1
  | .held _ => 1
def uptoBulkAll {H : Type} : List (DataW H) → Nat
  | [] => 0
  | d :: r => uptoBulk d + uptoBulkAll r
def uptoBulkEntries {H : Type} : List (Lit × DataW H) → Nat
  | [] => 0
  | x :: r => uptoBulkEntry x + uptoBulkEntries r
def uptoBulkEntry {H : Type} : Lit × DataW H → Nat
  | (.string bytes, d) => bytes.length + uptoBulk d + 1
  | (_, d) => uptoBulk d + 1
 end
def uptoSmall : (H : Type) → List (DataW H) → Bool := fun _ ds => decide (uptoBulkAll ds ≤ 1048576)
def OpenSpec.upto (s : _root_.Go.ChangeSpec) : _root_.Go.OpenSpec := { _root_.Go.OpenSpec.ofChange s with cond := some uptoSmall }

/-- 'antecedelaw08.ExtensionCounts', WHERE WHAT IT READS IS OF BULK AT MOST 1048576: true; the input reads as it did. -/
def extensionCountsUptoRow : OpenClaim := { program := "ytljcffhjpcdpeaadoor", sum := "7adad810f6f1b28e150bbd56dfdbec7cd9eca3ba7081773f99c20db438486798", func := "antecede/antecedelaw08.ExtensionCounts", spec := "extensionCounts", unfollowed := true, recurses := true, named := ["math/bits.deBruijn64tab"], apart := false, laid := [("math/bits.deBruijn64tab", laid_math_bits_deBruijn64tab)], narrowed := true }
def ExtensionCountsUptoSaid : Prop := extensionCountsUptoRow.holds Tryd.pinned (OpenSpec.upto extensionCountsSpec)

/-- 'antecedelaw08.ExtensionNexts', WHERE WHAT IT READS IS OF BULK AT MOST 1048576: true; the input reads as it did. -/
def extensionNextsUptoRow : OpenClaim := { program := "ytljcffhjpcdpeaadoor", sum := "7adad810f6f1b28e150bbd56dfdbec7cd9eca3ba7081773f99c20db438486798", func := "antecede/antecedelaw08.ExtensionNexts", spec := "extensionNexts", unfollowed := true, recurses := true, named := ["math/bits.deBruijn64tab"], apart := false, laid := [("math/bits.deBruijn64tab", laid_math_bits_deBruijn64tab)], narrowed := true }
def ExtensionNextsUptoSaid : Prop := extensionNextsUptoRow.holds Tryd.pinned (OpenSpec.upto extensionNextsSpec)

/-- 'antecedelaw08.ExtensionChecks', WHERE WHAT IT READS IS OF BULK AT MOST 1048576: true; the input reads as it did. -/
def extensionChecksUptoRow : OpenClaim := { program := "ytljcffhjpcdpeaadoor", sum := "7adad810f6f1b28e150bbd56dfdbec7cd9eca3ba7081773f99c20db438486798", func := "antecede/antecedelaw08.ExtensionChecks", spec := "extensionChecks", unfollowed := true, recurses := true, named := ["math/bits.deBruijn64tab"], apart := false, laid := [("math/bits.deBruijn64tab", laid_math_bits_deBruijn64tab)], narrowed := true }
def ExtensionChecksUptoSaid : Prop := extensionChecksUptoRow.holds Tryd.pinned (OpenSpec.upto extensionChecksSpec)

/-- 'antecedelaw08.ExtensionFirst', WHERE WHAT IT READS IS OF BULK AT MOST 1048576: true; the input reads as it did. -/
def extensionFirstUptoRow : OpenClaim := { program := "ytljcffhjpcdpeaadoor", sum := "7adad810f6f1b28e150bbd56dfdbec7cd9eca3ba7081773f99c20db438486798", func := "antecede/antecedelaw08.ExtensionFirst", spec := "extensionFirst", unfollowed := true, recurses := true, named := ["math/bits.deBruijn64tab"], apart := false, laid := [("math/bits.deBruijn64tab", laid_math_bits_deBruijn64tab)], narrowed := true }
def ExtensionFirstUptoSaid : Prop := extensionFirstUptoRow.holds Tryd.pinned (OpenSpec.upto extensionFirstSpec)

/-- 'antecedelaw08.ExtensionRanks', WHERE WHAT IT READS IS OF BULK AT MOST 1048576: true; the input reads as it did. -/
def extensionRanksUptoRow : OpenClaim := { program := "ytljcffhjpcdpeaadoor", sum := "7adad810f6f1b28e150bbd56dfdbec7cd9eca3ba7081773f99c20db438486798", func := "antecede/antecedelaw08.ExtensionRanks", spec := "extensionRanks", unfollowed := true, recurses := true, named := ["math/bits.deBruijn64tab"], apart := false, laid := [("math/bits.deBruijn64tab", laid_math_bits_deBruijn64tab)], narrowed := true }
def ExtensionRanksUptoSaid : Prop := extensionRanksUptoRow.holds Tryd.pinned (OpenSpec.upto extensionRanksSpec)

/-- 'antecedelaw08.ExtensionMeets', WHERE WHAT IT READS IS OF BULK AT MOST 1048576: true; the input reads as it did. -/
def extensionMeetsUptoRow : OpenClaim := { program := "ytljcffhjpcdpeaadoor", sum := "7adad810f6f1b28e150bbd56dfdbec7cd9eca3ba7081773f99c20db438486798", func := "antecede/antecedelaw08.ExtensionMeets", spec := "extensionMeets", unfollowed := true, recurses := true, named := ["math/bits.deBruijn64tab"], apart := false, laid := [("math/bits.deBruijn64tab", laid_math_bits_deBruijn64tab)], narrowed := true }
def ExtensionMeetsUptoSaid : Prop := extensionMeetsUptoRow.holds Tryd.pinned (OpenSpec.upto extensionMeetsSpec)

/-- 'antecedelaw08.ExtensionSzpilrajn', WHERE WHAT IT READS IS OF BULK AT MOST 1048576: true; the input reads as it did. -/
def extensionSzpilrajnUptoRow : OpenClaim := { program := "ytljcffhjpcdpeaadoor", sum := "7adad810f6f1b28e150bbd56dfdbec7cd9eca3ba7081773f99c20db438486798", func := "antecede/antecedelaw08.ExtensionSzpilrajn", spec := "extensionSzpilrajn", unfollowed := true, recurses := true, named := ["math/bits.deBruijn64tab"], apart := false, laid := [("math/bits.deBruijn64tab", laid_math_bits_deBruijn64tab)], narrowed := true }
def ExtensionSzpilrajnUptoSaid : Prop := extensionSzpilrajnUptoRow.holds Tryd.pinned (OpenSpec.upto extensionSzpilrajnSpec)

/-- 'antecedelaw08.ExtensionAll', WHERE WHAT IT READS IS OF BULK AT MOST 1048576: true; the input reads as it did. -/
def extensionAllUptoRow : OpenClaim := { program := "ytljcffhjpcdpeaadoor", sum := "7adad810f6f1b28e150bbd56dfdbec7cd9eca3ba7081773f99c20db438486798", func := "antecede/antecedelaw08.ExtensionAll", spec := "extensionAll", unfollowed := true, recurses := true, named := ["math/bits.deBruijn64tab"], apart := false, laid := [("math/bits.deBruijn64tab", laid_math_bits_deBruijn64tab)], narrowed := true }
def ExtensionAllUptoSaid : Prop := extensionAllUptoRow.holds Tryd.pinned (OpenSpec.upto extensionAllSpec)

end Rows
end Go.Proofs.YtljcffhjpcdpeaaDoor
