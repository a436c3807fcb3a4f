/-
  No cell of these rows narrows 'for every input' (looked for: loops, veiled, ifaces, maps, wideKeys, modest, calm, conditions, laid).
  DERIVED. THE GIVEN ROWS OF THIS SEAT. 6 by the template 'for every input the law returns true; each argument reads behind the call as it read before'; 0 by the template 'total and deterministic' (their statements: YtadfdoalifmkhaaTotals.lean).
  GIVEN WITH THE SEED: the statements are not yours to turn. If you find one false, say at which input.
  Laid BY PROGRAM, IN A SANDBOX (cutbox-rows.mjs): the forced cells as the released guide's own fill.sh prints them over the translation 47921dae007c2fdd… (all of the seat's roots in one cut). By AI agents, Wed Nov 11 2026. No macro, syntax, notation, axiom, sorry.
-/
import Derived.Test.YtadfdoalifmkhaaChecked
import GoSem.Claim
import GoSem.ClaimJoined
import GoSem.ClaimMapViews
import Derived.JoinedTies
import Derived.KernelRfl
namespace Go.Proofs.Ytadfdoalifmkhaa
/- THE CELL 'sum', in the pinned program and in every row, IS THE sha256 OF THE DUMP (.gsa) THAT YtadfdoalifmkhaaProg.lean LOADS. Nothing in Lean hashes anything: it is a label: what it is worth is what the hold of that sum in a sandbox is worth. -/
noncomputable def Try.pinned : Pinned := { name := "ytadfdoalifmkhaa", sum := "47921dae007c2fdd6eed231ed1266216d686efb62cc2e341be9d16ab88de8402", checked := Try.checked }
namespace Rows
def none {H : Type} : Left H := { results := [], args := [] }

/-- 'antecedelaw05.MatchingMax': WHATEVER THE INPUT: true; the input reads as it did. -/
def matchingMaxSpec : ChangeSpec := { name := "matchingMax", fn := fun _ => fun
  | [d1, d2, d3] => { results := [.lit (.bool true)], args := [d1, d2, d3] }
  | _ => none }
def matchingMaxRow : OpenClaim := { program := "ytadfdoalifmkhaa", sum := "47921dae007c2fdd6eed231ed1266216d686efb62cc2e341be9d16ab88de8402", func := "antecede/antecedelaw05.MatchingMax", spec := "matchingMax", unfollowed := true, recurses := true, plainKeys := false, apart := false }
def MatchingMaxSaid : Prop := matchingMaxRow.holds Try.pinned (OpenSpec.ofChange matchingMaxSpec)

/-- ITS FALSE NEIGHBOUR: 'it returns false'. Refute it at one input. -/
def matchingMaxWrong : ChangeSpec := { name := "matchingMax", fn := fun _ => fun
  | [d1, d2, d3] => { results := [.lit (.bool false)], args := [d1, d2, d3] }
  | _ => none }
def MatchingMaxWrongFalsely : Prop := matchingMaxRow.holds Try.pinned (OpenSpec.ofChange matchingMaxWrong)

/-- 'antecedelaw05.MatchingHall': WHATEVER THE INPUT: true; the input reads as it did. -/
def matchingHallSpec : ChangeSpec := { name := "matchingHall", fn := fun _ => fun
  | [d1, d2, d3] => { results := [.lit (.bool true)], args := [d1, d2, d3] }
  | _ => none }
def matchingHallRow : OpenClaim := { program := "ytadfdoalifmkhaa", sum := "47921dae007c2fdd6eed231ed1266216d686efb62cc2e341be9d16ab88de8402", func := "antecede/antecedelaw05.MatchingHall", spec := "matchingHall", unfollowed := true, recurses := true, plainKeys := false, apart := false }
def MatchingHallSaid : Prop := matchingHallRow.holds Try.pinned (OpenSpec.ofChange matchingHallSpec)

/-- ITS FALSE NEIGHBOUR: 'it returns false'. Refute it at one input. -/
def matchingHallWrong : ChangeSpec := { name := "matchingHall", fn := fun _ => fun
  | [d1, d2, d3] => { results := [.lit (.bool false)], args := [d1, d2, d3] }
  | _ => none }
def MatchingHallWrongFalsely : Prop := matchingHallRow.holds Try.pinned (OpenSpec.ofChange matchingHallWrong)

/-- 'antecedelaw05.MatchingChecks': WHATEVER THE INPUT: true; the input reads as it did. -/
def matchingChecksSpec : ChangeSpec := { name := "matchingChecks", fn := fun _ => fun
  | [d1, d2, d3, d4, d5, d6] => { results := [.lit (.bool true)], args := [d1, d2, d3, d4, d5, d6] }
  | _ => none }
def matchingChecksRow : OpenClaim := { program := "ytadfdoalifmkhaa", sum := "47921dae007c2fdd6eed231ed1266216d686efb62cc2e341be9d16ab88de8402", func := "antecede/antecedelaw05.MatchingChecks", spec := "matchingChecks", unfollowed := true, recurses := true, plainKeys := false, apart := false }
def MatchingChecksSaid : Prop := matchingChecksRow.holds Try.pinned (OpenSpec.ofChange matchingChecksSpec)

/-- ITS FALSE NEIGHBOUR: 'it returns false'. Refute it at one input. -/
def matchingChecksWrong : ChangeSpec := { name := "matchingChecks", fn := fun _ => fun
  | [d1, d2, d3, d4, d5, d6] => { results := [.lit (.bool false)], args := [d1, d2, d3, d4, d5, d6] }
  | _ => none }
def MatchingChecksWrongFalsely : Prop := matchingChecksRow.holds Try.pinned (OpenSpec.ofChange matchingChecksWrong)

/-- 'antecedelaw05.MatchingKoenig': WHATEVER THE INPUT: true; the input reads as it did. -/
def matchingKoenigSpec : ChangeSpec := { name := "matchingKoenig", fn := fun _ => fun
  | [d1, d2, d3, d4, d5, d6] => { results := [.lit (.bool true)], args := [d1, d2, d3, d4, d5, d6] }
  | _ => none }
def matchingKoenigRow : OpenClaim := { program := "ytadfdoalifmkhaa", sum := "47921dae007c2fdd6eed231ed1266216d686efb62cc2e341be9d16ab88de8402", func := "antecede/antecedelaw05.MatchingKoenig", spec := "matchingKoenig", unfollowed := true, recurses := true, plainKeys := false, apart := false }
def MatchingKoenigSaid : Prop := matchingKoenigRow.holds Try.pinned (OpenSpec.ofChange matchingKoenigSpec)

/-- ITS FALSE NEIGHBOUR: 'it returns false'. Refute it at one input. -/
def matchingKoenigWrong : ChangeSpec := { name := "matchingKoenig", fn := fun _ => fun
  | [d1, d2, d3, d4, d5, d6] => { results := [.lit (.bool false)], args := [d1, d2, d3, d4, d5, d6] }
  | _ => none }
def MatchingKoenigWrongFalsely : Prop := matchingKoenigRow.holds Try.pinned (OpenSpec.ofChange matchingKoenigWrong)

/-- 'antecedelaw05.MatchingAugments': WHATEVER THE INPUT: true; the input reads as it did. -/
def matchingAugmentsSpec : ChangeSpec := { name := "matchingAugments", fn := fun _ => fun
  | [d1, d2, d3, d4] => { results := [.lit (.bool true)], args := [d1, d2, d3, d4] }
  | _ => none }
def matchingAugmentsRow : OpenClaim := { program := "ytadfdoalifmkhaa", sum := "47921dae007c2fdd6eed231ed1266216d686efb62cc2e341be9d16ab88de8402", func := "antecede/antecedelaw05.MatchingAugments", spec := "matchingAugments", unfollowed := true, recurses := true, plainKeys := false, apart := false }
def MatchingAugmentsSaid : Prop := matchingAugmentsRow.holds Try.pinned (OpenSpec.ofChange matchingAugmentsSpec)

/-- ITS FALSE NEIGHBOUR: 'it returns false'. Refute it at one input. -/
def matchingAugmentsWrong : ChangeSpec := { name := "matchingAugments", fn := fun _ => fun
  | [d1, d2, d3, d4] => { results := [.lit (.bool false)], args := [d1, d2, d3, d4] }
  | _ => none }
def MatchingAugmentsWrongFalsely : Prop := matchingAugmentsRow.holds Try.pinned (OpenSpec.ofChange matchingAugmentsWrong)

/-- 'antecedelaw05.MatchingBerge': WHATEVER THE INPUT: true; the input reads as it did. -/
def matchingBergeSpec : ChangeSpec := { name := "matchingBerge", fn := fun _ => fun
  | [d1, d2, d3, d4] => { results := [.lit (.bool true)], args := [d1, d2, d3, d4] }
  | _ => none }
def matchingBergeRow : OpenClaim := { program := "ytadfdoalifmkhaa", sum := "47921dae007c2fdd6eed231ed1266216d686efb62cc2e341be9d16ab88de8402", func := "antecede/antecedelaw05.MatchingBerge", spec := "matchingBerge", unfollowed := true, recurses := true, plainKeys := false, apart := false }
def MatchingBergeSaid : Prop := matchingBergeRow.holds Try.pinned (OpenSpec.ofChange matchingBergeSpec)

/-- ITS FALSE NEIGHBOUR: 'it returns false'. Refute it at one input. -/
def matchingBergeWrong : ChangeSpec := { name := "matchingBerge", fn := fun _ => fun
  | [d1, d2, d3, d4] => { results := [.lit (.bool false)], args := [d1, d2, d3, d4] }
  | _ => none }
def MatchingBergeWrongFalsely : Prop := matchingBergeRow.holds Try.pinned (OpenSpec.ofChange matchingBergeWrong)

/- THE SECOND FORM. 'bulk': how many values and letters a reading holds, each counted each time it is reached (what is shared counts as often as it is met; a slice's spare places count too). A statement '..UptoSaid' is the law's where the arguments, and the package variables that the reading takes, are together of bulk at most 1048576: NARROWER than '..Said'. Prove '..Said' where nothing that the law and all that it calls make is longer than what came in: it says more and counts as full. Else prove '..UptoSaid'. A law counts once. -/
mutual
def uptoBulk {H : Type} : DataW H → Nat
  | .lit (.string bytes) => bytes.length + 1
  | .lit _ => 1
  | .nil => 1
  | .ptr d => uptoBulk d + 1
  | .slice elems spare => uptoBulkAll elems + uptoBulkAll spare + 1
  | .agg parts => uptoBulkAll parts + 1
  | .iface _ d => uptoBulk d + 1
  | .map entries => uptoBulkEntries entries + 1
  | .held _ => 1
def uptoBulkAll {H : Type} : List (DataW H) → Nat
  | [] => 0
  | d :: r => uptoBulk d + uptoBulkAll r
def uptoBulkEntries {H : Type} : List (Lit × DataW H) → Nat
  | [] => 0
  | x :: r => uptoBulkEntry x + uptoBulkEntries r
def uptoBulkEntry {H : Type} : Lit × DataW H → Nat
  | (.string bytes, d) => bytes.length + uptoBulk d + 1
  | (_, d) => uptoBulk d + 1
 end
def uptoSmall : (H : Type) → List (DataW H) → Bool := fun _ ds => decide (uptoBulkAll ds ≤ 1048576)
def OpenSpec.upto (s : _root_.Go.ChangeSpec) : _root_.Go.OpenSpec := { _root_.Go.OpenSpec.ofChange s with cond := some uptoSmall }

/-- 'antecedelaw05.MatchingMax', WHERE WHAT IT READS IS OF BULK AT MOST 1048576: true; the input reads as it did. -/
def matchingMaxUptoRow : OpenClaim := { program := "ytadfdoalifmkhaa", sum := "47921dae007c2fdd6eed231ed1266216d686efb62cc2e341be9d16ab88de8402", func := "antecede/antecedelaw05.MatchingMax", spec := "matchingMax", unfollowed := true, recurses := true, plainKeys := false, apart := false, narrowed := true }
def MatchingMaxUptoSaid : Prop := matchingMaxUptoRow.holds Try.pinned (OpenSpec.upto matchingMaxSpec)

/-- 'antecedelaw05.MatchingHall', WHERE WHAT IT READS IS OF BULK AT MOST 1048576: true; the input reads as it did. -/
def matchingHallUptoRow : OpenClaim := { program := "ytadfdoalifmkhaa", sum := "47921dae007c2fdd6eed231ed1266216d686efb62cc2e341be9d16ab88de8402", func := "antecede/antecedelaw05.MatchingHall", spec := "matchingHall", unfollowed := true, recurses := true, plainKeys := false, apart := false, narrowed := true }
def MatchingHallUptoSaid : Prop := matchingHallUptoRow.holds Try.pinned (OpenSpec.upto matchingHallSpec)

/-- 'antecedelaw05.MatchingChecks', WHERE WHAT IT READS IS OF BULK AT MOST 1048576: true; the input reads as it did. -/
def matchingChecksUptoRow : OpenClaim := { program := "ytadfdoalifmkhaa", sum := "47921dae007c2fdd6eed231ed1266216d686efb62cc2e341be9d16ab88de8402", func := "antecede/antecedelaw05.MatchingChecks", spec := "matchingChecks", unfollowed := true, recurses := true, plainKeys := false, apart := false, narrowed := true }
def MatchingChecksUptoSaid : Prop := matchingChecksUptoRow.holds Try.pinned (OpenSpec.upto matchingChecksSpec)

/-- 'antecedelaw05.MatchingKoenig', WHERE WHAT IT READS IS OF BULK AT MOST 1048576: true; the input reads as it did. -/
def matchingKoenigUptoRow : OpenClaim := { program := "ytadfdoalifmkhaa", sum := "47921dae007c2fdd6eed231ed1266216d686efb62cc2e341be9d16ab88de8402", func := "antecede/antecedelaw05.MatchingKoenig", spec := "matchingKoenig", unfollowed := true, recurses := true, plainKeys := false, apart := false, narrowed := true }
def MatchingKoenigUptoSaid : Prop := matchingKoenigUptoRow.holds Try.pinned (OpenSpec.upto matchingKoenigSpec)

/-- 'antecedelaw05.MatchingAugments', WHERE WHAT IT READS IS OF BULK AT MOST 1048576: true; the input reads as it did. -/
def matchingAugmentsUptoRow : OpenClaim := { program := "ytadfdoalifmkhaa", sum := "47921dae007c2fdd6eed231ed1266216d686efb62cc2e341be9d16ab88de8402", func := "antecede/antecedelaw05.MatchingAugments", spec := "matchingAugments", unfollowed := true, recurses := true, plainKeys := false, apart := false, narrowed := true }
def MatchingAugmentsUptoSaid : Prop := matchingAugmentsUptoRow.holds Try.pinned (OpenSpec.upto matchingAugmentsSpec)

/-- 'antecedelaw05.MatchingBerge', WHERE WHAT IT READS IS OF BULK AT MOST 1048576: true; the input reads as it did. -/
def matchingBergeUptoRow : OpenClaim := { program := "ytadfdoalifmkhaa", sum := "47921dae007c2fdd6eed231ed1266216d686efb62cc2e341be9d16ab88de8402", func := "antecede/antecedelaw05.MatchingBerge", spec := "matchingBerge", unfollowed := true, recurses := true, plainKeys := false, apart := false, narrowed := true }
def MatchingBergeUptoSaid : Prop := matchingBergeUptoRow.holds Try.pinned (OpenSpec.upto matchingBergeSpec)

end Rows
end Go.Proofs.Ytadfdoalifmkhaa
