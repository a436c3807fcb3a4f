/-
  NARROWER THAN 'FOR EVERY INPUT', by the rows' own cells (each row's printed sentence says how): PosetCovers: laid · PosetClosed: laid · PosetForms: laid · PosetBack: laid · PosetLevels: laid · PosetEnds: laid · PosetCloses: laid · PosetParts: laid.
  DERIVED. THE GIVEN ROWS OF THIS SEAT. 8 by the template 'for every input the law returns true; each argument reads behind the call as it read before'; 0 by the template 'total and deterministic' (their statements: YtplgcbhaolapmaaDoorTotals.lean).
  GIVEN WITH THE SEED: the statements are not yours to turn. If you find one false, say at which input.
  Laid BY PROGRAM, IN A SANDBOX (cutbox-rows.mjs): the forced cells as the released guide's own fill.sh prints them over the translation 97d11bf81f9a8fc5… (all of the seat's roots in one cut). By AI agents, Wed Nov 11 2026. No macro, syntax, notation, axiom, sorry.
-/
import Derived.Test.YtplgcbhaolapmaaDoorChecked
import GoSem.Claim
import GoSem.ClaimJoined
import GoSem.ClaimMapViews
import Derived.JoinedTies
import Derived.KernelRfl
namespace Go.Proofs.YtplgcbhaolapmaaDoor
/- THE CELL 'sum', in the pinned program and in every row, IS THE sha256 OF THE DUMP (.gsa) THAT YtplgcbhaolapmaaDoorProg.lean LOADS. Nothing in Lean hashes anything: it is a label: what it is worth is what the hold of that sum in a sandbox is worth. -/
noncomputable def Tryd.pinned : Pinned := { name := "ytplgcbhaolapmaadoor", sum := "97d11bf81f9a8fc5afcd1c745e4139c83d0ae982650bccc8428ac6fa25d2aef1", checked := Tryd.checked }
namespace Rows
def none {H : Type} : Left H := { results := [], args := [] }

/- WHAT THE LISTED PACKAGE-LEVEL VARIABLES READ AS WHEN THE CALL BEGINS. Each datum BY PROGRAM (the guide's laid-datum.mjs) off the statement by which the dump's own 'gosem.cut.vars' lays the variable. In a bare row this is a premise. The card (YtplgcbhaolapmaaDoorCards.lean) ties it to the program's text. -/
def laid_math_bits_deBruijn64tab {H : Type} : DataW H := .agg [.lit (.int .u8 0), .lit (.int .u8 1), .lit (.int .u8 56), .lit (.int .u8 2), .lit (.int .u8 57), .lit (.int .u8 49), .lit (.int .u8 28), .lit (.int .u8 3), .lit (.int .u8 61), .lit (.int .u8 58), .lit (.int .u8 42), .lit (.int .u8 50), .lit (.int .u8 38), .lit (.int .u8 29), .lit (.int .u8 17), .lit (.int .u8 4), .lit (.int .u8 62), .lit (.int .u8 47), .lit (.int .u8 59), .lit (.int .u8 36), .lit (.int .u8 45), .lit (.int .u8 43), .lit (.int .u8 51), .lit (.int .u8 22), .lit (.int .u8 53), .lit (.int .u8 39), .lit (.int .u8 33), .lit (.int .u8 30), .lit (.int .u8 24), .lit (.int .u8 18), .lit (.int .u8 12), .lit (.int .u8 5), .lit (.int .u8 63), .lit (.int .u8 55), .lit (.int .u8 48), .lit (.int .u8 27), .lit (.int .u8 60), .lit (.int .u8 41), .lit (.int .u8 37), .lit (.int .u8 16), .lit (.int .u8 46), .lit (.int .u8 35), .lit (.int .u8 44), .lit (.int .u8 21), .lit (.int .u8 52), .lit (.int .u8 32), .lit (.int .u8 23), .lit (.int .u8 11), .lit (.int .u8 54), .lit (.int .u8 26), .lit (.int .u8 40), .lit (.int .u8 15), .lit (.int .u8 34), .lit (.int .u8 20), .lit (.int .u8 31), .lit (.int .u8 10), .lit (.int .u8 25), .lit (.int .u8 14), .lit (.int .u8 19), .lit (.int .u8 9), .lit (.int .u8 13), .lit (.int .u8 8), .lit (.int .u8 7), .lit (.int .u8 6)]

/-- 'antecedelaw06.PosetCovers': WHATEVER THE INPUT: true; the input reads as it did. -/
def posetCoversSpec : ChangeSpec := { name := "posetCovers", fn := fun _ => fun
  | [d1, d2, d3] => { results := [.lit (.bool true)], args := [d1, d2, d3] }
  | _ => none }
def posetCoversRow : OpenClaim := { program := "ytplgcbhaolapmaadoor", sum := "97d11bf81f9a8fc5afcd1c745e4139c83d0ae982650bccc8428ac6fa25d2aef1", func := "antecede/antecedelaw06.PosetCovers", spec := "posetCovers", unfollowed := true, recurses := true, named := ["math/bits.deBruijn64tab"], apart := false, laid := [("math/bits.deBruijn64tab", laid_math_bits_deBruijn64tab)] }
def PosetCoversSaid : Prop := posetCoversRow.holds Tryd.pinned (OpenSpec.ofChange posetCoversSpec)

/-- ITS FALSE NEIGHBOUR: 'it returns false'. Refute it at one input. -/
def posetCoversWrong : ChangeSpec := { name := "posetCovers", fn := fun _ => fun
  | [d1, d2, d3] => { results := [.lit (.bool false)], args := [d1, d2, d3] }
  | _ => none }
def PosetCoversWrongFalsely : Prop := posetCoversRow.holds Tryd.pinned (OpenSpec.ofChange posetCoversWrong)

/-- 'antecedelaw06.PosetClosed': WHATEVER THE INPUT: true; the input reads as it did. -/
def posetClosedSpec : ChangeSpec := { name := "posetClosed", fn := fun _ => fun
  | [d1, d2] => { results := [.lit (.bool true)], args := [d1, d2] }
  | _ => none }
def posetClosedRow : OpenClaim := { program := "ytplgcbhaolapmaadoor", sum := "97d11bf81f9a8fc5afcd1c745e4139c83d0ae982650bccc8428ac6fa25d2aef1", func := "antecede/antecedelaw06.PosetClosed", spec := "posetClosed", unfollowed := true, recurses := true, named := ["math/bits.deBruijn64tab"], apart := false, laid := [("math/bits.deBruijn64tab", laid_math_bits_deBruijn64tab)] }
def PosetClosedSaid : Prop := posetClosedRow.holds Tryd.pinned (OpenSpec.ofChange posetClosedSpec)

/-- ITS FALSE NEIGHBOUR: 'it returns false'. Refute it at one input. -/
def posetClosedWrong : ChangeSpec := { name := "posetClosed", fn := fun _ => fun
  | [d1, d2] => { results := [.lit (.bool false)], args := [d1, d2] }
  | _ => none }
def PosetClosedWrongFalsely : Prop := posetClosedRow.holds Tryd.pinned (OpenSpec.ofChange posetClosedWrong)

/-- 'antecedelaw06.PosetForms': WHATEVER THE INPUT: true; the input reads as it did. -/
def posetFormsSpec : ChangeSpec := { name := "posetForms", fn := fun _ => fun
  | [d] => { results := [.lit (.bool true)], args := [d] }
  | _ => none }
def posetFormsRow : OpenClaim := { program := "ytplgcbhaolapmaadoor", sum := "97d11bf81f9a8fc5afcd1c745e4139c83d0ae982650bccc8428ac6fa25d2aef1", func := "antecede/antecedelaw06.PosetForms", spec := "posetForms", unfollowed := true, recurses := true, named := ["math/bits.deBruijn64tab"], apart := false, laid := [("math/bits.deBruijn64tab", laid_math_bits_deBruijn64tab)] }
def PosetFormsSaid : Prop := posetFormsRow.holds Tryd.pinned (OpenSpec.ofChange posetFormsSpec)

/-- ITS FALSE NEIGHBOUR: 'it returns false'. Refute it at one input. -/
def posetFormsWrong : ChangeSpec := { name := "posetForms", fn := fun _ => fun
  | [d] => { results := [.lit (.bool false)], args := [d] }
  | _ => none }
def PosetFormsWrongFalsely : Prop := posetFormsRow.holds Tryd.pinned (OpenSpec.ofChange posetFormsWrong)

/-- 'antecedelaw06.PosetBack': WHATEVER THE INPUT: true; the input reads as it did. -/
def posetBackSpec : ChangeSpec := { name := "posetBack", fn := fun _ => fun
  | [d1, d2] => { results := [.lit (.bool true)], args := [d1, d2] }
  | _ => none }
def posetBackRow : OpenClaim := { program := "ytplgcbhaolapmaadoor", sum := "97d11bf81f9a8fc5afcd1c745e4139c83d0ae982650bccc8428ac6fa25d2aef1", func := "antecede/antecedelaw06.PosetBack", spec := "posetBack", unfollowed := true, recurses := true, named := ["math/bits.deBruijn64tab"], apart := false, laid := [("math/bits.deBruijn64tab", laid_math_bits_deBruijn64tab)] }
def PosetBackSaid : Prop := posetBackRow.holds Tryd.pinned (OpenSpec.ofChange posetBackSpec)

/-- ITS FALSE NEIGHBOUR: 'it returns false'. Refute it at one input. -/
def posetBackWrong : ChangeSpec := { name := "posetBack", fn := fun _ => fun
  | [d1, d2] => { results := [.lit (.bool false)], args := [d1, d2] }
  | _ => none }
def PosetBackWrongFalsely : Prop := posetBackRow.holds Tryd.pinned (OpenSpec.ofChange posetBackWrong)

/-- 'antecedelaw06.PosetLevels': WHATEVER THE INPUT: true; the input reads as it did. -/
def posetLevelsSpec : ChangeSpec := { name := "posetLevels", fn := fun _ => fun
  | [d] => { results := [.lit (.bool true)], args := [d] }
  | _ => none }
def posetLevelsRow : OpenClaim := { program := "ytplgcbhaolapmaadoor", sum := "97d11bf81f9a8fc5afcd1c745e4139c83d0ae982650bccc8428ac6fa25d2aef1", func := "antecede/antecedelaw06.PosetLevels", spec := "posetLevels", unfollowed := true, recurses := true, named := ["math/bits.deBruijn64tab"], apart := false, laid := [("math/bits.deBruijn64tab", laid_math_bits_deBruijn64tab)] }
def PosetLevelsSaid : Prop := posetLevelsRow.holds Tryd.pinned (OpenSpec.ofChange posetLevelsSpec)

/-- ITS FALSE NEIGHBOUR: 'it returns false'. Refute it at one input. -/
def posetLevelsWrong : ChangeSpec := { name := "posetLevels", fn := fun _ => fun
  | [d] => { results := [.lit (.bool false)], args := [d] }
  | _ => none }
def PosetLevelsWrongFalsely : Prop := posetLevelsRow.holds Tryd.pinned (OpenSpec.ofChange posetLevelsWrong)

/-- 'antecedelaw06.PosetEnds': WHATEVER THE INPUT: true; the input reads as it did. -/
def posetEndsSpec : ChangeSpec := { name := "posetEnds", fn := fun _ => fun
  | [d] => { results := [.lit (.bool true)], args := [d] }
  | _ => none }
def posetEndsRow : OpenClaim := { program := "ytplgcbhaolapmaadoor", sum := "97d11bf81f9a8fc5afcd1c745e4139c83d0ae982650bccc8428ac6fa25d2aef1", func := "antecede/antecedelaw06.PosetEnds", spec := "posetEnds", unfollowed := true, recurses := true, named := ["math/bits.deBruijn64tab"], apart := false, laid := [("math/bits.deBruijn64tab", laid_math_bits_deBruijn64tab)] }
def PosetEndsSaid : Prop := posetEndsRow.holds Tryd.pinned (OpenSpec.ofChange posetEndsSpec)

/-- ITS FALSE NEIGHBOUR: 'it returns false'. Refute it at one input. -/
def posetEndsWrong : ChangeSpec := { name := "posetEnds", fn := fun _ => fun
  | [d] => { results := [.lit (.bool false)], args := [d] }
  | _ => none }
def PosetEndsWrongFalsely : Prop := posetEndsRow.holds Tryd.pinned (OpenSpec.ofChange posetEndsWrong)

/-- 'antecedelaw06.PosetCloses': WHATEVER THE INPUT: true; the input reads as it did. -/
def posetClosesSpec : ChangeSpec := { name := "posetCloses", fn := fun _ => fun
  | [d1, d2] => { results := [.lit (.bool true)], args := [d1, d2] }
  | _ => none }
def posetClosesRow : OpenClaim := { program := "ytplgcbhaolapmaadoor", sum := "97d11bf81f9a8fc5afcd1c745e4139c83d0ae982650bccc8428ac6fa25d2aef1", func := "antecede/antecedelaw06.PosetCloses", spec := "posetCloses", unfollowed := true, recurses := true, named := ["math/bits.deBruijn64tab"], apart := false, laid := [("math/bits.deBruijn64tab", laid_math_bits_deBruijn64tab)] }
def PosetClosesSaid : Prop := posetClosesRow.holds Tryd.pinned (OpenSpec.ofChange posetClosesSpec)

/-- ITS FALSE NEIGHBOUR: 'it returns false'. Refute it at one input. -/
def posetClosesWrong : ChangeSpec := { name := "posetCloses", fn := fun _ => fun
  | [d1, d2] => { results := [.lit (.bool false)], args := [d1, d2] }
  | _ => none }
def PosetClosesWrongFalsely : Prop := posetClosesRow.holds Tryd.pinned (OpenSpec.ofChange posetClosesWrong)

/-- 'antecedelaw06.PosetParts': WHATEVER THE INPUT: true; the input reads as it did. -/
def posetPartsSpec : ChangeSpec := { name := "posetParts", fn := fun _ => fun
  | [d1, d2] => { results := [.lit (.bool true)], args := [d1, d2] }
  | _ => none }
def posetPartsRow : OpenClaim := { program := "ytplgcbhaolapmaadoor", sum := "97d11bf81f9a8fc5afcd1c745e4139c83d0ae982650bccc8428ac6fa25d2aef1", func := "antecede/antecedelaw06.PosetParts", spec := "posetParts", unfollowed := true, recurses := true, named := ["math/bits.deBruijn64tab"], apart := false, laid := [("math/bits.deBruijn64tab", laid_math_bits_deBruijn64tab)] }
def PosetPartsSaid : Prop := posetPartsRow.holds Tryd.pinned (OpenSpec.ofChange posetPartsSpec)

/-- ITS FALSE NEIGHBOUR: 'it returns false'. Refute it at one input. -/
def posetPartsWrong : ChangeSpec := { name := "posetParts", fn := fun _ => fun
  | [d1, d2] => { results := [.lit (.bool false)], args := [d1, d2] }
  | _ => none }
def PosetPartsWrongFalsely : Prop := posetPartsRow.holds Tryd.pinned (OpenSpec.ofChange posetPartsWrong)

/- THE SECOND FORM. 'bulk': how many values and letters a reading holds, each counted each time it is reached (what is shared counts as often as it is met; a slice's spare places count too). A statement '..UptoSaid' is the law's where the arguments, and the package variables that the reading takes, are together of bulk at most 1048576: NARROWER than '..Said'. Prove '..Said' where nothing that the law and all that it calls make is longer than what came in: it says more and counts as full. Else prove '..UptoSaid'. A law counts once. -/
mutual
def uptoBulk {H : Type} : DataW H → Nat
  | .lit (.string bytes) => bytes.length + 1
  | .lit _ => 1
  | .nil => 1
  | .ptr d => uptoBulk d + 1
  | .slice elems spare => uptoBulkAll elems + uptoBulkAll spare + 1
  | .agg parts => uptoBulkAll parts + 1
  | .iface _ d => uptoBulk d + 1
  | .map entries => uptoBulkEntries entries + 1
  | .held _ => 1
def uptoBulkAll {H : Type} : List (DataW H) → Nat
  | [] => 0
  | d :: r => uptoBulk d + uptoBulkAll r
def uptoBulkEntries {H : Type} : List (Lit × DataW H) → Nat
  | [] => 0
  | x :: r => uptoBulkEntry x + uptoBulkEntries r
def uptoBulkEntry {H : Type} : Lit × DataW H → Nat
  | (.string bytes, d) => bytes.length + uptoBulk d + 1
  | (_, d) => uptoBulk d + 1
 end
def uptoSmall : (H : Type) → List (DataW H) → Bool := fun _ ds => decide (uptoBulkAll ds ≤ 1048576)
def OpenSpec.upto (s : _root_.Go.ChangeSpec) : _root_.Go.OpenSpec := { _root_.Go.OpenSpec.ofChange s with cond := some uptoSmall }

/-- 'antecedelaw06.PosetCovers', WHERE WHAT IT READS IS OF BULK AT MOST 1048576: true; the input reads as it did. -/
def posetCoversUptoRow : OpenClaim := { program := "ytplgcbhaolapmaadoor", sum := "97d11bf81f9a8fc5afcd1c745e4139c83d0ae982650bccc8428ac6fa25d2aef1", func := "antecede/antecedelaw06.PosetCovers", spec := "posetCovers", unfollowed := true, recurses := true, named := ["math/bits.deBruijn64tab"], apart := false, laid := [("math/bits.deBruijn64tab", laid_math_bits_deBruijn64tab)], narrowed := true }
def PosetCoversUptoSaid : Prop := posetCoversUptoRow.holds Tryd.pinned (OpenSpec.upto posetCoversSpec)

/-- 'antecedelaw06.PosetClosed', WHERE WHAT IT READS IS OF BULK AT MOST 1048576: true; the input reads as it did. -/
def posetClosedUptoRow : OpenClaim := { program := "ytplgcbhaolapmaadoor", sum := "97d11bf81f9a8fc5afcd1c745e4139c83d0ae982650bccc8428ac6fa25d2aef1", func := "antecede/antecedelaw06.PosetClosed", spec := "posetClosed", unfollowed := true, recurses := true, named := ["math/bits.deBruijn64tab"], apart := false, laid := [("math/bits.deBruijn64tab", laid_math_bits_deBruijn64tab)], narrowed := true }
def PosetClosedUptoSaid : Prop := posetClosedUptoRow.holds Tryd.pinned (OpenSpec.upto posetClosedSpec)

/-- 'antecedelaw06.PosetForms', WHERE WHAT IT READS IS OF BULK AT MOST 1048576: true; the input reads as it did. -/
def posetFormsUptoRow : OpenClaim := { program := "ytplgcbhaolapmaadoor", sum := "97d11bf81f9a8fc5afcd1c745e4139c83d0ae982650bccc8428ac6fa25d2aef1", func := "antecede/antecedelaw06.PosetForms", spec := "posetForms", unfollowed := true, recurses := true, named := ["math/bits.deBruijn64tab"], apart := false, laid := [("math/bits.deBruijn64tab", laid_math_bits_deBruijn64tab)], narrowed := true }
def PosetFormsUptoSaid : Prop := posetFormsUptoRow.holds Tryd.pinned (OpenSpec.upto posetFormsSpec)

/-- 'antecedelaw06.PosetBack', WHERE WHAT IT READS IS OF BULK AT MOST 1048576: true; the input reads as it did. -/
def posetBackUptoRow : OpenClaim := { program := "ytplgcbhaolapmaadoor", sum := "97d11bf81f9a8fc5afcd1c745e4139c83d0ae982650bccc8428ac6fa25d2aef1", func := "antecede/antecedelaw06.PosetBack", spec := "posetBack", unfollowed := true, recurses := true, named := ["math/bits.deBruijn64tab"], apart := false, laid := [("math/bits.deBruijn64tab", laid_math_bits_deBruijn64tab)], narrowed := true }
def PosetBackUptoSaid : Prop := posetBackUptoRow.holds Tryd.pinned (OpenSpec.upto posetBackSpec)

/-- 'antecedelaw06.PosetLevels', WHERE WHAT IT READS IS OF BULK AT MOST 1048576: true; the input reads as it did. -/
def posetLevelsUptoRow : OpenClaim := { program := "ytplgcbhaolapmaadoor", sum := "97d11bf81f9a8fc5afcd1c745e4139c83d0ae982650bccc8428ac6fa25d2aef1", func := "antecede/antecedelaw06.PosetLevels", spec := "posetLevels", unfollowed := true, recurses := true, named := ["math/bits.deBruijn64tab"], apart := false, laid := [("math/bits.deBruijn64tab", laid_math_bits_deBruijn64tab)], narrowed := true }
def PosetLevelsUptoSaid : Prop := posetLevelsUptoRow.holds Tryd.pinned (OpenSpec.upto posetLevelsSpec)

/-- 'antecedelaw06.PosetEnds', WHERE WHAT IT READS IS OF BULK AT MOST 1048576: true; the input reads as it did. -/
def posetEndsUptoRow : OpenClaim := { program := "ytplgcbhaolapmaadoor", sum := "97d11bf81f9a8fc5afcd1c745e4139c83d0ae982650bccc8428ac6fa25d2aef1", func := "antecede/antecedelaw06.PosetEnds", spec := "posetEnds", unfollowed := true, recurses := true, named := ["math/bits.deBruijn64tab"], apart := false, laid := [("math/bits.deBruijn64tab", laid_math_bits_deBruijn64tab)], narrowed := true }
def PosetEndsUptoSaid : Prop := posetEndsUptoRow.holds Tryd.pinned (OpenSpec.upto posetEndsSpec)

/-- 'antecedelaw06.PosetCloses', WHERE WHAT IT READS IS OF BULK AT MOST 1048576: true; the input reads as it did. -/
def posetClosesUptoRow : OpenClaim := { program := "ytplgcbhaolapmaadoor", sum := "97d11bf81f9a8fc5afcd1c745e4139c83d0ae982650bccc8428ac6fa25d2aef1", func := "antecede/antecedelaw06.PosetCloses", spec := "posetCloses", unfollowed := true, recurses := true, named := ["math/bits.deBruijn64tab"], apart := false, laid := [("math/bits.deBruijn64tab", laid_math_bits_deBruijn64tab)], narrowed := true }
def PosetClosesUptoSaid : Prop := posetClosesUptoRow.holds Tryd.pinned (OpenSpec.upto posetClosesSpec)

/-- 'antecedelaw06.PosetParts', WHERE WHAT IT READS IS OF BULK AT MOST 1048576: true; the input reads as it did. -/
def posetPartsUptoRow : OpenClaim := { program := "ytplgcbhaolapmaadoor", sum := "97d11bf81f9a8fc5afcd1c745e4139c83d0ae982650bccc8428ac6fa25d2aef1", func := "antecede/antecedelaw06.PosetParts", spec := "posetParts", unfollowed := true, recurses := true, named := ["math/bits.deBruijn64tab"], apart := false, laid := [("math/bits.deBruijn64tab", laid_math_bits_deBruijn64tab)], narrowed := true }
def PosetPartsUptoSaid : Prop := posetPartsUptoRow.holds Tryd.pinned (OpenSpec.upto posetPartsSpec)

end Rows
end Go.Proofs.YtplgcbhaolapmaaDoor
