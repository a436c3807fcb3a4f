/-
  No cell of these rows narrows 'for every input' (looked for: loops, veiled, ifaces, maps, wideKeys, modest, calm, conditions, laid).
  DERIVED. THE GIVEN ROWS OF THIS SEAT. 7 by the template 'for every input the law returns true; each argument reads behind the call as it read before'; 0 by the template 'total and deterministic' (their statements: YtjccpgehkjmacaaTotals.lean).
  GIVEN WITH THE SEED: the statements are not yours to turn. If you find one false, say at which input.
  Laid BY PROGRAM, IN A SANDBOX (cutbox-rows.mjs): the forced cells as the released guide's own fill.sh prints them over the translation 7ca34bbd8b10c988… (all of the seat's roots in one cut). By AI agents, Wed Nov 11 2026. No macro, syntax, notation, axiom, sorry.
-/
import Derived.Test.YtjccpgehkjmacaaChecked
import GoSem.Claim
import GoSem.ClaimJoined
import GoSem.ClaimMapViews
import Derived.JoinedTies
import Derived.KernelRfl
namespace Go.Proofs.Ytjccpgehkjmacaa
/- THE CELL 'sum', in the pinned program and in every row, IS THE sha256 OF THE DUMP (.gsa) THAT YtjccpgehkjmacaaProg.lean LOADS. Nothing in Lean hashes anything: it is a label: what it is worth is what the hold of that sum in a sandbox is worth. -/
noncomputable def Try.pinned : Pinned := { name := "ytjccpgehkjmacaa", sum := "7ca34bbd8b10c9887ec10f24237ec0993daec72c03bb7ece7b21507e549d378f", checked := Try.checked }
namespace Rows
def none {H : Type} : Left H := { results := [], args := [] }

/-- 'antecedelaw04.FlowMaximum': WHATEVER THE INPUT: true; the input reads as it did. -/
def flowMaximumSpec : ChangeSpec := { name := "flowMaximum", fn := fun _ => fun
  | [d1, d2, d3] => { results := [.lit (.bool true)], args := [d1, d2, d3] }
  | _ => none }
def flowMaximumRow : OpenClaim := { program := "ytjccpgehkjmacaa", sum := "7ca34bbd8b10c9887ec10f24237ec0993daec72c03bb7ece7b21507e549d378f", func := "antecede/antecedelaw04.FlowMaximum", spec := "flowMaximum", apart := false }
def FlowMaximumSaid : Prop := flowMaximumRow.holds Try.pinned (OpenSpec.ofChange flowMaximumSpec)

/-- ITS FALSE NEIGHBOUR: 'it returns false'. Refute it at one input. -/
def flowMaximumWrong : ChangeSpec := { name := "flowMaximum", fn := fun _ => fun
  | [d1, d2, d3] => { results := [.lit (.bool false)], args := [d1, d2, d3] }
  | _ => none }
def FlowMaximumWrongFalsely : Prop := flowMaximumRow.holds Try.pinned (OpenSpec.ofChange flowMaximumWrong)

/-- 'antecedelaw04.FlowCuts': WHATEVER THE INPUT: true; the input reads as it did. -/
def flowCutsSpec : ChangeSpec := { name := "flowCuts", fn := fun _ => fun
  | [d1, d2, d3] => { results := [.lit (.bool true)], args := [d1, d2, d3] }
  | _ => none }
def flowCutsRow : OpenClaim := { program := "ytjccpgehkjmacaa", sum := "7ca34bbd8b10c9887ec10f24237ec0993daec72c03bb7ece7b21507e549d378f", func := "antecede/antecedelaw04.FlowCuts", spec := "flowCuts", apart := false }
def FlowCutsSaid : Prop := flowCutsRow.holds Try.pinned (OpenSpec.ofChange flowCutsSpec)

/-- ITS FALSE NEIGHBOUR: 'it returns false'. Refute it at one input. -/
def flowCutsWrong : ChangeSpec := { name := "flowCuts", fn := fun _ => fun
  | [d1, d2, d3] => { results := [.lit (.bool false)], args := [d1, d2, d3] }
  | _ => none }
def FlowCutsWrongFalsely : Prop := flowCutsRow.holds Try.pinned (OpenSpec.ofChange flowCutsWrong)

/-- 'antecedelaw04.FlowClosures': WHATEVER THE INPUT: true; the input reads as it did. -/
def flowClosuresSpec : ChangeSpec := { name := "flowClosures", fn := fun _ => fun
  | [d1, d2] => { results := [.lit (.bool true)], args := [d1, d2] }
  | _ => none }
def flowClosuresRow : OpenClaim := { program := "ytjccpgehkjmacaa", sum := "7ca34bbd8b10c9887ec10f24237ec0993daec72c03bb7ece7b21507e549d378f", func := "antecede/antecedelaw04.FlowClosures", spec := "flowClosures", unfollowed := true, recurses := true, apart := false }
def FlowClosuresSaid : Prop := flowClosuresRow.holds Try.pinned (OpenSpec.ofChange flowClosuresSpec)

/-- ITS FALSE NEIGHBOUR: 'it returns false'. Refute it at one input. -/
def flowClosuresWrong : ChangeSpec := { name := "flowClosures", fn := fun _ => fun
  | [d1, d2] => { results := [.lit (.bool false)], args := [d1, d2] }
  | _ => none }
def FlowClosuresWrongFalsely : Prop := flowClosuresRow.holds Try.pinned (OpenSpec.ofChange flowClosuresWrong)

/-- 'antecedelaw04.FlowBest': WHATEVER THE INPUT: true; the input reads as it did. -/
def flowBestSpec : ChangeSpec := { name := "flowBest", fn := fun _ => fun
  | [d1, d2] => { results := [.lit (.bool true)], args := [d1, d2] }
  | _ => none }
def flowBestRow : OpenClaim := { program := "ytjccpgehkjmacaa", sum := "7ca34bbd8b10c9887ec10f24237ec0993daec72c03bb7ece7b21507e549d378f", func := "antecede/antecedelaw04.FlowBest", spec := "flowBest", unfollowed := true, recurses := true, apart := false }
def FlowBestSaid : Prop := flowBestRow.holds Try.pinned (OpenSpec.ofChange flowBestSpec)

/-- ITS FALSE NEIGHBOUR: 'it returns false'. Refute it at one input. -/
def flowBestWrong : ChangeSpec := { name := "flowBest", fn := fun _ => fun
  | [d1, d2] => { results := [.lit (.bool false)], args := [d1, d2] }
  | _ => none }
def FlowBestWrongFalsely : Prop := flowBestRow.holds Try.pinned (OpenSpec.ofChange flowBestWrong)

/-- 'antecedelaw04.FlowChecks': WHATEVER THE INPUT: true; the input reads as it did. -/
def flowChecksSpec : ChangeSpec := { name := "flowChecks", fn := fun _ => fun
  | [d1, d2, d3, d4, d5] => { results := [.lit (.bool true)], args := [d1, d2, d3, d4, d5] }
  | _ => none }
def flowChecksRow : OpenClaim := { program := "ytjccpgehkjmacaa", sum := "7ca34bbd8b10c9887ec10f24237ec0993daec72c03bb7ece7b21507e549d378f", func := "antecede/antecedelaw04.FlowChecks", spec := "flowChecks", apart := false }
def FlowChecksSaid : Prop := flowChecksRow.holds Try.pinned (OpenSpec.ofChange flowChecksSpec)

/-- ITS FALSE NEIGHBOUR: 'it returns false'. Refute it at one input. -/
def flowChecksWrong : ChangeSpec := { name := "flowChecks", fn := fun _ => fun
  | [d1, d2, d3, d4, d5] => { results := [.lit (.bool false)], args := [d1, d2, d3, d4, d5] }
  | _ => none }
def FlowChecksWrongFalsely : Prop := flowChecksRow.holds Try.pinned (OpenSpec.ofChange flowChecksWrong)

/-- 'antecedelaw04.FlowDuality': WHATEVER THE INPUT: true; the input reads as it did. -/
def flowDualitySpec : ChangeSpec := { name := "flowDuality", fn := fun _ => fun
  | [d1, d2, d3] => { results := [.lit (.bool true)], args := [d1, d2, d3] }
  | _ => none }
def flowDualityRow : OpenClaim := { program := "ytjccpgehkjmacaa", sum := "7ca34bbd8b10c9887ec10f24237ec0993daec72c03bb7ece7b21507e549d378f", func := "antecede/antecedelaw04.FlowDuality", spec := "flowDuality", apart := false }
def FlowDualitySaid : Prop := flowDualityRow.holds Try.pinned (OpenSpec.ofChange flowDualitySpec)

/-- ITS FALSE NEIGHBOUR: 'it returns false'. Refute it at one input. -/
def flowDualityWrong : ChangeSpec := { name := "flowDuality", fn := fun _ => fun
  | [d1, d2, d3] => { results := [.lit (.bool false)], args := [d1, d2, d3] }
  | _ => none }
def FlowDualityWrongFalsely : Prop := flowDualityRow.holds Try.pinned (OpenSpec.ofChange flowDualityWrong)

/-- 'antecedelaw04.FlowPaths': WHATEVER THE INPUT: true; the input reads as it did. -/
def flowPathsSpec : ChangeSpec := { name := "flowPaths", fn := fun _ => fun
  | [d1, d2, d3, d4] => { results := [.lit (.bool true)], args := [d1, d2, d3, d4] }
  | _ => none }
def flowPathsRow : OpenClaim := { program := "ytjccpgehkjmacaa", sum := "7ca34bbd8b10c9887ec10f24237ec0993daec72c03bb7ece7b21507e549d378f", func := "antecede/antecedelaw04.FlowPaths", spec := "flowPaths", unfollowed := true, recurses := true, apart := false }
def FlowPathsSaid : Prop := flowPathsRow.holds Try.pinned (OpenSpec.ofChange flowPathsSpec)

/-- ITS FALSE NEIGHBOUR: 'it returns false'. Refute it at one input. -/
def flowPathsWrong : ChangeSpec := { name := "flowPaths", fn := fun _ => fun
  | [d1, d2, d3, d4] => { results := [.lit (.bool false)], args := [d1, d2, d3, d4] }
  | _ => none }
def FlowPathsWrongFalsely : Prop := flowPathsRow.holds Try.pinned (OpenSpec.ofChange flowPathsWrong)

/- THE SECOND FORM. 'bulk': how many values and letters a reading holds, each counted each time it is reached (what is shared counts as often as it is met; a slice's spare places count too). A statement '..UptoSaid' is the law's where the arguments, and the package variables that the reading takes, are together of bulk at most 1048576: NARROWER than '..Said'. Prove '..Said' where nothing that the law and all that it calls make is longer than what came in: it says more and counts as full. Else prove '..UptoSaid'. A law counts once. -/
mutual
def uptoBulk {H : Type} : DataW H → Nat
  | .lit (.string bytes) => bytes.length + 1
  | .lit _ => 1
  | .nil => 1
  | .ptr d => uptoBulk d + 1
  | .slice elems spare => uptoBulkAll elems + uptoBulkAll spare + 1
  | .agg parts => uptoBulkAll parts + 1
  | .iface _ d => uptoBulk d + 1
  | .map entries => uptoBulkEntries entries + 1
  | .held _ => 1
def uptoBulkAll {H : Type} : List (DataW H) → Nat
  | [] => 0
  | d :: r => uptoBulk d + uptoBulkAll r
def uptoBulkEntries {H : Type} : List (Lit × DataW H) → Nat
  | [] => 0
  | x :: r => uptoBulkEntry x + uptoBulkEntries r
def uptoBulkEntry {H : Type} : Lit × DataW H → Nat
  | (.string bytes, d) => bytes.length + uptoBulk d + 1
  | (_, d) => uptoBulk d + 1
 end
def uptoSmall : (H : Type) → List (DataW H) → Bool := fun _ ds => decide (uptoBulkAll ds ≤ 1048576)
def OpenSpec.upto (s : _root_.Go.ChangeSpec) : _root_.Go.OpenSpec := { _root_.Go.OpenSpec.ofChange s with cond := some uptoSmall }

/-- 'antecedelaw04.FlowMaximum', WHERE WHAT IT READS IS OF BULK AT MOST 1048576: true; the input reads as it did. -/
def flowMaximumUptoRow : OpenClaim := { program := "ytjccpgehkjmacaa", sum := "7ca34bbd8b10c9887ec10f24237ec0993daec72c03bb7ece7b21507e549d378f", func := "antecede/antecedelaw04.FlowMaximum", spec := "flowMaximum", apart := false, narrowed := true }
def FlowMaximumUptoSaid : Prop := flowMaximumUptoRow.holds Try.pinned (OpenSpec.upto flowMaximumSpec)

/-- 'antecedelaw04.FlowCuts', WHERE WHAT IT READS IS OF BULK AT MOST 1048576: true; the input reads as it did. -/
def flowCutsUptoRow : OpenClaim := { program := "ytjccpgehkjmacaa", sum := "7ca34bbd8b10c9887ec10f24237ec0993daec72c03bb7ece7b21507e549d378f", func := "antecede/antecedelaw04.FlowCuts", spec := "flowCuts", apart := false, narrowed := true }
def FlowCutsUptoSaid : Prop := flowCutsUptoRow.holds Try.pinned (OpenSpec.upto flowCutsSpec)

/-- 'antecedelaw04.FlowClosures', WHERE WHAT IT READS IS OF BULK AT MOST 1048576: true; the input reads as it did. -/
def flowClosuresUptoRow : OpenClaim := { program := "ytjccpgehkjmacaa", sum := "7ca34bbd8b10c9887ec10f24237ec0993daec72c03bb7ece7b21507e549d378f", func := "antecede/antecedelaw04.FlowClosures", spec := "flowClosures", unfollowed := true, recurses := true, apart := false, narrowed := true }
def FlowClosuresUptoSaid : Prop := flowClosuresUptoRow.holds Try.pinned (OpenSpec.upto flowClosuresSpec)

/-- 'antecedelaw04.FlowBest', WHERE WHAT IT READS IS OF BULK AT MOST 1048576: true; the input reads as it did. -/
def flowBestUptoRow : OpenClaim := { program := "ytjccpgehkjmacaa", sum := "7ca34bbd8b10c9887ec10f24237ec0993daec72c03bb7ece7b21507e549d378f", func := "antecede/antecedelaw04.FlowBest", spec := "flowBest", unfollowed := true, recurses := true, apart := false, narrowed := true }
def FlowBestUptoSaid : Prop := flowBestUptoRow.holds Try.pinned (OpenSpec.upto flowBestSpec)

/-- 'antecedelaw04.FlowChecks', WHERE WHAT IT READS IS OF BULK AT MOST 1048576: true; the input reads as it did. -/
def flowChecksUptoRow : OpenClaim := { program := "ytjccpgehkjmacaa", sum := "7ca34bbd8b10c9887ec10f24237ec0993daec72c03bb7ece7b21507e549d378f", func := "antecede/antecedelaw04.FlowChecks", spec := "flowChecks", apart := false, narrowed := true }
def FlowChecksUptoSaid : Prop := flowChecksUptoRow.holds Try.pinned (OpenSpec.upto flowChecksSpec)

/-- 'antecedelaw04.FlowDuality', WHERE WHAT IT READS IS OF BULK AT MOST 1048576: true; the input reads as it did. -/
def flowDualityUptoRow : OpenClaim := { program := "ytjccpgehkjmacaa", sum := "7ca34bbd8b10c9887ec10f24237ec0993daec72c03bb7ece7b21507e549d378f", func := "antecede/antecedelaw04.FlowDuality", spec := "flowDuality", apart := false, narrowed := true }
def FlowDualityUptoSaid : Prop := flowDualityUptoRow.holds Try.pinned (OpenSpec.upto flowDualitySpec)

/-- 'antecedelaw04.FlowPaths', WHERE WHAT IT READS IS OF BULK AT MOST 1048576: true; the input reads as it did. -/
def flowPathsUptoRow : OpenClaim := { program := "ytjccpgehkjmacaa", sum := "7ca34bbd8b10c9887ec10f24237ec0993daec72c03bb7ece7b21507e549d378f", func := "antecede/antecedelaw04.FlowPaths", spec := "flowPaths", unfollowed := true, recurses := true, apart := false, narrowed := true }
def FlowPathsUptoSaid : Prop := flowPathsUptoRow.holds Try.pinned (OpenSpec.upto flowPathsSpec)

end Rows
end Go.Proofs.Ytjccpgehkjmacaa
