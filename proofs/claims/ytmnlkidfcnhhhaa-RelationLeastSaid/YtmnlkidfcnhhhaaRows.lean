/-
  No cell of these rows narrows 'for every input' (looked for: loops, veiled, ifaces, maps, wideKeys, modest, calm, conditions, laid).
  DERIVED. THE GIVEN ROWS OF THIS SEAT. 6 by the template 'for every input the law returns true; each argument reads behind the call as it read before'; 0 by the template 'total and deterministic' (their statements: YtmnlkidfcnhhhaaTotals.lean).
  GIVEN WITH THE SEED: the statements are not yours to turn. If you find one false, say at which input.
  Laid BY PROGRAM, IN A SANDBOX (cutbox-rows.mjs): the forced cells as the released guide's own fill.sh prints them over the translation 46d74308b7102274… (all of the seat's roots in one cut). By AI agents, Wed Nov 11 2026. No macro, syntax, notation, axiom, sorry.
-/
import Derived.Test.YtmnlkidfcnhhhaaChecked
import GoSem.Claim
import GoSem.ClaimJoined
import GoSem.ClaimMapViews
import Derived.JoinedTies
import Derived.KernelRfl
namespace Go.Proofs.Ytmnlkidfcnhhhaa
/- THE CELL 'sum', in the pinned program and in every row, IS THE sha256 OF THE DUMP (.gsa) THAT YtmnlkidfcnhhhaaProg.lean LOADS. Nothing in Lean hashes anything: it is a label: what it is worth is what the hold of that sum in a sandbox is worth. -/
noncomputable def Try.pinned : Pinned := { name := "ytmnlkidfcnhhhaa", sum := "46d74308b7102274e8d8b0a7805b720355bc37019416143b04542fac52c2df37", checked := Try.checked }
namespace Rows
def none {H : Type} : Left H := { results := [], args := [] }

/-- 'antecedelaw03.RelationPairs': WHATEVER THE INPUT: true; the input reads as it did. -/
def relationPairsSpec : ChangeSpec := { name := "relationPairs", fn := fun _ => fun
  | [d1, d2, d3] => { results := [.lit (.bool true)], args := [d1, d2, d3] }
  | _ => none }
def relationPairsRow : OpenClaim := { program := "ytmnlkidfcnhhhaa", sum := "46d74308b7102274e8d8b0a7805b720355bc37019416143b04542fac52c2df37", func := "antecede/antecedelaw03.RelationPairs", spec := "relationPairs", unfollowed := true, recurses := true, apart := false }
def RelationPairsSaid : Prop := relationPairsRow.holds Try.pinned (OpenSpec.ofChange relationPairsSpec)

/-- ITS FALSE NEIGHBOUR: 'it returns false'. Refute it at one input. -/
def relationPairsWrong : ChangeSpec := { name := "relationPairs", fn := fun _ => fun
  | [d1, d2, d3] => { results := [.lit (.bool false)], args := [d1, d2, d3] }
  | _ => none }
def RelationPairsWrongFalsely : Prop := relationPairsRow.holds Try.pinned (OpenSpec.ofChange relationPairsWrong)

/-- 'antecedelaw03.RelationAlgebra': WHATEVER THE INPUT: true; the input reads as it did. -/
def relationAlgebraSpec : ChangeSpec := { name := "relationAlgebra", fn := fun _ => fun
  | [d1, d2, d3] => { results := [.lit (.bool true)], args := [d1, d2, d3] }
  | _ => none }
def relationAlgebraRow : OpenClaim := { program := "ytmnlkidfcnhhhaa", sum := "46d74308b7102274e8d8b0a7805b720355bc37019416143b04542fac52c2df37", func := "antecede/antecedelaw03.RelationAlgebra", spec := "relationAlgebra", unfollowed := true, recurses := true, apart := false }
def RelationAlgebraSaid : Prop := relationAlgebraRow.holds Try.pinned (OpenSpec.ofChange relationAlgebraSpec)

/-- ITS FALSE NEIGHBOUR: 'it returns false'. Refute it at one input. -/
def relationAlgebraWrong : ChangeSpec := { name := "relationAlgebra", fn := fun _ => fun
  | [d1, d2, d3] => { results := [.lit (.bool false)], args := [d1, d2, d3] }
  | _ => none }
def RelationAlgebraWrongFalsely : Prop := relationAlgebraRow.holds Try.pinned (OpenSpec.ofChange relationAlgebraWrong)

/-- 'antecedelaw03.RelationClosures': WHATEVER THE INPUT: true; the input reads as it did. -/
def relationClosuresSpec : ChangeSpec := { name := "relationClosures", fn := fun _ => fun
  | [d1, d2] => { results := [.lit (.bool true)], args := [d1, d2] }
  | _ => none }
def relationClosuresRow : OpenClaim := { program := "ytmnlkidfcnhhhaa", sum := "46d74308b7102274e8d8b0a7805b720355bc37019416143b04542fac52c2df37", func := "antecede/antecedelaw03.RelationClosures", spec := "relationClosures", unfollowed := true, recurses := true, apart := false }
def RelationClosuresSaid : Prop := relationClosuresRow.holds Try.pinned (OpenSpec.ofChange relationClosuresSpec)

/-- ITS FALSE NEIGHBOUR: 'it returns false'. Refute it at one input. -/
def relationClosuresWrong : ChangeSpec := { name := "relationClosures", fn := fun _ => fun
  | [d1, d2] => { results := [.lit (.bool false)], args := [d1, d2] }
  | _ => none }
def RelationClosuresWrongFalsely : Prop := relationClosuresRow.holds Try.pinned (OpenSpec.ofChange relationClosuresWrong)

/-- 'antecedelaw03.RelationOrders': WHATEVER THE INPUT: true; the input reads as it did. -/
def relationOrdersSpec : ChangeSpec := { name := "relationOrders", fn := fun _ => fun
  | [d] => { results := [.lit (.bool true)], args := [d] }
  | _ => none }
def relationOrdersRow : OpenClaim := { program := "ytmnlkidfcnhhhaa", sum := "46d74308b7102274e8d8b0a7805b720355bc37019416143b04542fac52c2df37", func := "antecede/antecedelaw03.RelationOrders", spec := "relationOrders", unfollowed := true, recurses := true, apart := false }
def RelationOrdersSaid : Prop := relationOrdersRow.holds Try.pinned (OpenSpec.ofChange relationOrdersSpec)

/-- ITS FALSE NEIGHBOUR: 'it returns false'. Refute it at one input. -/
def relationOrdersWrong : ChangeSpec := { name := "relationOrders", fn := fun _ => fun
  | [d] => { results := [.lit (.bool false)], args := [d] }
  | _ => none }
def RelationOrdersWrongFalsely : Prop := relationOrdersRow.holds Try.pinned (OpenSpec.ofChange relationOrdersWrong)

/-- 'antecedelaw03.RelationLeast': WHATEVER THE INPUT: true; the input reads as it did. -/
def relationLeastSpec : ChangeSpec := { name := "relationLeast", fn := fun _ => fun
  | [d1, d2] => { results := [.lit (.bool true)], args := [d1, d2] }
  | _ => none }
def relationLeastRow : OpenClaim := { program := "ytmnlkidfcnhhhaa", sum := "46d74308b7102274e8d8b0a7805b720355bc37019416143b04542fac52c2df37", func := "antecede/antecedelaw03.RelationLeast", spec := "relationLeast", unfollowed := true, recurses := true, apart := false }
def RelationLeastSaid : Prop := relationLeastRow.holds Try.pinned (OpenSpec.ofChange relationLeastSpec)

/-- ITS FALSE NEIGHBOUR: 'it returns false'. Refute it at one input. -/
def relationLeastWrong : ChangeSpec := { name := "relationLeast", fn := fun _ => fun
  | [d1, d2] => { results := [.lit (.bool false)], args := [d1, d2] }
  | _ => none }
def RelationLeastWrongFalsely : Prop := relationLeastRow.holds Try.pinned (OpenSpec.ofChange relationLeastWrong)

/-- 'antecedelaw03.RelationEither': WHATEVER THE INPUT: true; the input reads as it did. -/
def relationEitherSpec : ChangeSpec := { name := "relationEither", fn := fun _ => fun
  | [d] => { results := [.lit (.bool true)], args := [d] }
  | _ => none }
def relationEitherRow : OpenClaim := { program := "ytmnlkidfcnhhhaa", sum := "46d74308b7102274e8d8b0a7805b720355bc37019416143b04542fac52c2df37", func := "antecede/antecedelaw03.RelationEither", spec := "relationEither", unfollowed := true, recurses := true, apart := false }
def RelationEitherSaid : Prop := relationEitherRow.holds Try.pinned (OpenSpec.ofChange relationEitherSpec)

/-- ITS FALSE NEIGHBOUR: 'it returns false'. Refute it at one input. -/
def relationEitherWrong : ChangeSpec := { name := "relationEither", fn := fun _ => fun
  | [d] => { results := [.lit (.bool false)], args := [d] }
  | _ => none }
def RelationEitherWrongFalsely : Prop := relationEitherRow.holds Try.pinned (OpenSpec.ofChange relationEitherWrong)

/- THE SECOND FORM. 'bulk': how many values and letters a reading holds, each counted each time it is reached (what is shared counts as often as it is met; a slice's spare places count too). A statement '..UptoSaid' is the law's where the arguments, and the package variables that the reading takes, are together of bulk at most 1048576: NARROWER than '..Said'. Prove '..Said' where nothing that the law and all that it calls make is longer than what came in: it says more and counts as full. Else prove '..UptoSaid'. A law counts once. -/
mutual
def uptoBulk {H : Type} : DataW H → Nat
  | .lit (.string bytes) => bytes.length + 1
  | .lit _ => 1
  | .nil => 1
  | .ptr d => uptoBulk d + 1
  | .slice elems spare => uptoBulkAll elems + uptoBulkAll spare + 1
  | .agg parts => uptoBulkAll parts + 1
  | .iface _ d => uptoBulk d + 1
  | .map entries => uptoBulkEntries entries + 1
  | .held _ => 1
def uptoBulkAll {H : Type} : List (DataW H) → Nat
  | [] => 0
  | d :: r => uptoBulk d + uptoBulkAll r
def uptoBulkEntries {H : Type} : List (Lit × DataW H) → Nat
  | [] => 0
  | x :: r => uptoBulkEntry x + uptoBulkEntries r
def uptoBulkEntry {H : Type} : Lit × DataW H → Nat
  | (.string bytes, d) => bytes.length + uptoBulk d + 1
  | (_, d) => uptoBulk d + 1
 end
def uptoSmall : (H : Type) → List (DataW H) → Bool := fun _ ds => decide (uptoBulkAll ds ≤ 1048576)
def OpenSpec.upto (s : _root_.Go.ChangeSpec) : _root_.Go.OpenSpec := { _root_.Go.OpenSpec.ofChange s with cond := some uptoSmall }

/-- 'antecedelaw03.RelationPairs', WHERE WHAT IT READS IS OF BULK AT MOST 1048576: true; the input reads as it did. -/
def relationPairsUptoRow : OpenClaim := { program := "ytmnlkidfcnhhhaa", sum := "46d74308b7102274e8d8b0a7805b720355bc37019416143b04542fac52c2df37", func := "antecede/antecedelaw03.RelationPairs", spec := "relationPairs", unfollowed := true, recurses := true, apart := false, narrowed := true }
def RelationPairsUptoSaid : Prop := relationPairsUptoRow.holds Try.pinned (OpenSpec.upto relationPairsSpec)

/-- 'antecedelaw03.RelationAlgebra', WHERE WHAT IT READS IS OF BULK AT MOST 1048576: true; the input reads as it did. -/
def relationAlgebraUptoRow : OpenClaim := { program := "ytmnlkidfcnhhhaa", sum := "46d74308b7102274e8d8b0a7805b720355bc37019416143b04542fac52c2df37", func := "antecede/antecedelaw03.RelationAlgebra", spec := "relationAlgebra", unfollowed := true, recurses := true, apart := false, narrowed := true }
def RelationAlgebraUptoSaid : Prop := relationAlgebraUptoRow.holds Try.pinned (OpenSpec.upto relationAlgebraSpec)

/-- 'antecedelaw03.RelationClosures', WHERE WHAT IT READS IS OF BULK AT MOST 1048576: true; the input reads as it did. -/
def relationClosuresUptoRow : OpenClaim := { program := "ytmnlkidfcnhhhaa", sum := "46d74308b7102274e8d8b0a7805b720355bc37019416143b04542fac52c2df37", func := "antecede/antecedelaw03.RelationClosures", spec := "relationClosures", unfollowed := true, recurses := true, apart := false, narrowed := true }
def RelationClosuresUptoSaid : Prop := relationClosuresUptoRow.holds Try.pinned (OpenSpec.upto relationClosuresSpec)

/-- 'antecedelaw03.RelationOrders', WHERE WHAT IT READS IS OF BULK AT MOST 1048576: true; the input reads as it did. -/
def relationOrdersUptoRow : OpenClaim := { program := "ytmnlkidfcnhhhaa", sum := "46d74308b7102274e8d8b0a7805b720355bc37019416143b04542fac52c2df37", func := "antecede/antecedelaw03.RelationOrders", spec := "relationOrders", unfollowed := true, recurses := true, apart := false, narrowed := true }
def RelationOrdersUptoSaid : Prop := relationOrdersUptoRow.holds Try.pinned (OpenSpec.upto relationOrdersSpec)

/-- 'antecedelaw03.RelationLeast', WHERE WHAT IT READS IS OF BULK AT MOST 1048576: true; the input reads as it did. -/
def relationLeastUptoRow : OpenClaim := { program := "ytmnlkidfcnhhhaa", sum := "46d74308b7102274e8d8b0a7805b720355bc37019416143b04542fac52c2df37", func := "antecede/antecedelaw03.RelationLeast", spec := "relationLeast", unfollowed := true, recurses := true, apart := false, narrowed := true }
def RelationLeastUptoSaid : Prop := relationLeastUptoRow.holds Try.pinned (OpenSpec.upto relationLeastSpec)

/-- 'antecedelaw03.RelationEither', WHERE WHAT IT READS IS OF BULK AT MOST 1048576: true; the input reads as it did. -/
def relationEitherUptoRow : OpenClaim := { program := "ytmnlkidfcnhhhaa", sum := "46d74308b7102274e8d8b0a7805b720355bc37019416143b04542fac52c2df37", func := "antecede/antecedelaw03.RelationEither", spec := "relationEither", unfollowed := true, recurses := true, apart := false, narrowed := true }
def RelationEitherUptoSaid : Prop := relationEitherUptoRow.holds Try.pinned (OpenSpec.upto relationEitherSpec)

end Rows
end Go.Proofs.Ytmnlkidfcnhhhaa
