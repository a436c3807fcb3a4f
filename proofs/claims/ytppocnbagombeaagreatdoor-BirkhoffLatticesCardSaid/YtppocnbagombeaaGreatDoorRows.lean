/-
  NARROWER THAN 'FOR EVERY INPUT', by the rows' own cells (each row's printed sentence says how): BirkhoffOrders: laid · BirkhoffMaps: laid · BirkhoffLattices: laid · BirkhoffLists: laid · BirkhoffJoins: laid · BirkhoffLaws: laid.
  DERIVED. THE GIVEN ROWS OF THIS SEAT. 6 by the template 'for every input the law returns true; each argument reads behind the call as it read before'; 0 by the template 'total and deterministic' (their statements: YtppocnbagombeaaGreatDoorTotals.lean).
  GIVEN WITH THE SEED: the statements are not yours to turn. If you find one false, say at which input.
  Laid BY PROGRAM, IN A SANDBOX (cutbox-rows.mjs): the forced cells as the released guide's own fill.sh prints them over the translation 7dba5bfa5081a644… (all of the seat's roots in one cut). By AI agents, Wed Nov 11 2026. No macro, syntax, notation, axiom, sorry.
-/
import Derived.Test.YtppocnbagombeaaGreatDoorChecked
import GoSem.Claim
import GoSem.ClaimJoined
import GoSem.ClaimMapViews
import Derived.JoinedTies
import Derived.KernelRfl
namespace Go.Proofs.YtppocnbagombeaaGreatDoor
/- THE CELL 'sum', in the pinned program and in every row, IS THE sha256 OF THE DUMP (.gsa) THAT YtppocnbagombeaaGreatDoorProg.lean LOADS. Nothing in Lean hashes anything: it is a label: what it is worth is what the hold of that sum in a sandbox is worth. -/
noncomputable def Tryz.pinned : Pinned := { name := "ytppocnbagombeaagreatdoor", sum := "7dba5bfa5081a644d7de18d3bd999fb3c9f2caf4f5dc46b1e6104ed41645c1c9", checked := Tryz.checked }
namespace Rows
def none {H : Type} : Left H := { results := [], args := [] }

/- WHAT THE LISTED PACKAGE-LEVEL VARIABLES READ AS WHEN THE CALL BEGINS. Each datum BY PROGRAM (the guide's laid-datum.mjs) off the statement by which the dump's own 'gosem.cut.vars' lays the variable. In a bare row this is a premise. The card (YtppocnbagombeaaGreatDoorCards.lean) ties it to the program's text. -/
def laid_math_bits_deBruijn32tab {H : Type} : DataW H := .agg [.lit (.int .u8 0), .lit (.int .u8 1), .lit (.int .u8 28), .lit (.int .u8 2), .lit (.int .u8 29), .lit (.int .u8 14), .lit (.int .u8 24), .lit (.int .u8 3), .lit (.int .u8 30), .lit (.int .u8 22), .lit (.int .u8 20), .lit (.int .u8 15), .lit (.int .u8 25), .lit (.int .u8 17), .lit (.int .u8 4), .lit (.int .u8 8), .lit (.int .u8 31), .lit (.int .u8 27), .lit (.int .u8 13), .lit (.int .u8 23), .lit (.int .u8 21), .lit (.int .u8 19), .lit (.int .u8 16), .lit (.int .u8 7), .lit (.int .u8 26), .lit (.int .u8 12), .lit (.int .u8 18), .lit (.int .u8 6), .lit (.int .u8 11), .lit (.int .u8 5), .lit (.int .u8 10), .lit (.int .u8 9)]
def laid_math_bits_deBruijn64tab {H : Type} : DataW H := .agg [.lit (.int .u8 0), .lit (.int .u8 1), .lit (.int .u8 56), .lit (.int .u8 2), .lit (.int .u8 57), .lit (.int .u8 49), .lit (.int .u8 28), .lit (.int .u8 3), .lit (.int .u8 61), .lit (.int .u8 58), .lit (.int .u8 42), .lit (.int .u8 50), .lit (.int .u8 38), .lit (.int .u8 29), .lit (.int .u8 17), .lit (.int .u8 4), .lit (.int .u8 62), .lit (.int .u8 47), .lit (.int .u8 59), .lit (.int .u8 36), .lit (.int .u8 45), .lit (.int .u8 43), .lit (.int .u8 51), .lit (.int .u8 22), .lit (.int .u8 53), .lit (.int .u8 39), .lit (.int .u8 33), .lit (.int .u8 30), .lit (.int .u8 24), .lit (.int .u8 18), .lit (.int .u8 12), .lit (.int .u8 5), .lit (.int .u8 63), .lit (.int .u8 55), .lit (.int .u8 48), .lit (.int .u8 27), .lit (.int .u8 60), .lit (.int .u8 41), .lit (.int .u8 37), .lit (.int .u8 16), .lit (.int .u8 46), .lit (.int .u8 35), .lit (.int .u8 44), .lit (.int .u8 21), .lit (.int .u8 52), .lit (.int .u8 32), .lit (.int .u8 23), .lit (.int .u8 11), .lit (.int .u8 54), .lit (.int .u8 26), .lit (.int .u8 40), .lit (.int .u8 15), .lit (.int .u8 34), .lit (.int .u8 20), .lit (.int .u8 31), .lit (.int .u8 10), .lit (.int .u8 25), .lit (.int .u8 14), .lit (.int .u8 19), .lit (.int .u8 9), .lit (.int .u8 13), .lit (.int .u8 8), .lit (.int .u8 7), .lit (.int .u8 6)]
def laid_internal_strconv_uint64pow10 {H : Type} : DataW H := .agg [.lit (.int .u64 1), .lit (.int .u64 10), .lit (.int .u64 100), .lit (.int .u64 1000), .lit (.int .u64 10000), .lit (.int .u64 100000), .lit (.int .u64 1000000), .lit (.int .u64 10000000), .lit (.int .u64 100000000), .lit (.int .u64 1000000000), .lit (.int .u64 10000000000), .lit (.int .u64 100000000000), .lit (.int .u64 1000000000000), .lit (.int .u64 10000000000000), .lit (.int .u64 100000000000000), .lit (.int .u64 1000000000000000), .lit (.int .u64 10000000000000000), .lit (.int .u64 100000000000000000), .lit (.int .u64 1000000000000000000), .lit (.int .u64 10000000000000000000)]

/-- 'antecedelaw11.BirkhoffOrders': WHATEVER THE INPUT: true; the input reads as it did. -/
def birkhoffOrdersSpec : ChangeSpec := { name := "birkhoffOrders", fn := fun _ => fun
  | [d1, d2, d3] => { results := [.lit (.bool true)], args := [d1, d2, d3] }
  | _ => none }
def birkhoffOrdersRow : OpenClaim := { program := "ytppocnbagombeaagreatdoor", sum := "7dba5bfa5081a644d7de18d3bd999fb3c9f2caf4f5dc46b1e6104ed41645c1c9", func := "antecede/antecedelaw11.BirkhoffOrders", spec := "birkhoffOrders", inPlace := ["internal/abi.NoEscape"], unfollowed := true, recurses := true, named := ["math/bits.deBruijn64tab", "internal/strconv.uint64pow10", "math/bits.deBruijn32tab"], apart := false, laid := [("math/bits.deBruijn32tab", laid_math_bits_deBruijn32tab), ("math/bits.deBruijn64tab", laid_math_bits_deBruijn64tab), ("internal/strconv.uint64pow10", laid_internal_strconv_uint64pow10)] }
def BirkhoffOrdersSaid : Prop := birkhoffOrdersRow.holds Tryz.pinned (OpenSpec.ofChange birkhoffOrdersSpec)

/-- ITS FALSE NEIGHBOUR: 'it returns false'. Refute it at one input. -/
def birkhoffOrdersWrong : ChangeSpec := { name := "birkhoffOrders", fn := fun _ => fun
  | [d1, d2, d3] => { results := [.lit (.bool false)], args := [d1, d2, d3] }
  | _ => none }
def BirkhoffOrdersWrongFalsely : Prop := birkhoffOrdersRow.holds Tryz.pinned (OpenSpec.ofChange birkhoffOrdersWrong)

/-- 'antecedelaw11.BirkhoffMaps': WHATEVER THE INPUT: true; the input reads as it did. -/
def birkhoffMapsSpec : ChangeSpec := { name := "birkhoffMaps", fn := fun _ => fun
  | [d1, d2] => { results := [.lit (.bool true)], args := [d1, d2] }
  | _ => none }
def birkhoffMapsRow : OpenClaim := { program := "ytppocnbagombeaagreatdoor", sum := "7dba5bfa5081a644d7de18d3bd999fb3c9f2caf4f5dc46b1e6104ed41645c1c9", func := "antecede/antecedelaw11.BirkhoffMaps", spec := "birkhoffMaps", inPlace := ["internal/abi.NoEscape"], unfollowed := true, recurses := true, named := ["math/bits.deBruijn64tab", "internal/strconv.uint64pow10", "math/bits.deBruijn32tab"], apart := false, laid := [("math/bits.deBruijn32tab", laid_math_bits_deBruijn32tab), ("math/bits.deBruijn64tab", laid_math_bits_deBruijn64tab), ("internal/strconv.uint64pow10", laid_internal_strconv_uint64pow10)] }
def BirkhoffMapsSaid : Prop := birkhoffMapsRow.holds Tryz.pinned (OpenSpec.ofChange birkhoffMapsSpec)

/-- ITS FALSE NEIGHBOUR: 'it returns false'. Refute it at one input. -/
def birkhoffMapsWrong : ChangeSpec := { name := "birkhoffMaps", fn := fun _ => fun
  | [d1, d2] => { results := [.lit (.bool false)], args := [d1, d2] }
  | _ => none }
def BirkhoffMapsWrongFalsely : Prop := birkhoffMapsRow.holds Tryz.pinned (OpenSpec.ofChange birkhoffMapsWrong)

/-- 'antecedelaw11.BirkhoffLattices': WHATEVER THE INPUT: true; the input reads as it did. -/
def birkhoffLatticesSpec : ChangeSpec := { name := "birkhoffLattices", fn := fun _ => fun
  | [d] => { results := [.lit (.bool true)], args := [d] }
  | _ => none }
def birkhoffLatticesRow : OpenClaim := { program := "ytppocnbagombeaagreatdoor", sum := "7dba5bfa5081a644d7de18d3bd999fb3c9f2caf4f5dc46b1e6104ed41645c1c9", func := "antecede/antecedelaw11.BirkhoffLattices", spec := "birkhoffLattices", inPlace := ["internal/abi.NoEscape"], unfollowed := true, recurses := true, named := ["math/bits.deBruijn64tab", "internal/strconv.uint64pow10", "math/bits.deBruijn32tab"], apart := false, laid := [("math/bits.deBruijn32tab", laid_math_bits_deBruijn32tab), ("math/bits.deBruijn64tab", laid_math_bits_deBruijn64tab), ("internal/strconv.uint64pow10", laid_internal_strconv_uint64pow10)] }
def BirkhoffLatticesSaid : Prop := birkhoffLatticesRow.holds Tryz.pinned (OpenSpec.ofChange birkhoffLatticesSpec)

/-- ITS FALSE NEIGHBOUR: 'it returns false'. Refute it at one input. -/
def birkhoffLatticesWrong : ChangeSpec := { name := "birkhoffLattices", fn := fun _ => fun
  | [d] => { results := [.lit (.bool false)], args := [d] }
  | _ => none }
def BirkhoffLatticesWrongFalsely : Prop := birkhoffLatticesRow.holds Tryz.pinned (OpenSpec.ofChange birkhoffLatticesWrong)

/-- 'antecedelaw11.BirkhoffLists': WHATEVER THE INPUT: true; the input reads as it did. -/
def birkhoffListsSpec : ChangeSpec := { name := "birkhoffLists", fn := fun _ => fun
  | [d] => { results := [.lit (.bool true)], args := [d] }
  | _ => none }
def birkhoffListsRow : OpenClaim := { program := "ytppocnbagombeaagreatdoor", sum := "7dba5bfa5081a644d7de18d3bd999fb3c9f2caf4f5dc46b1e6104ed41645c1c9", func := "antecede/antecedelaw11.BirkhoffLists", spec := "birkhoffLists", inPlace := ["internal/abi.NoEscape"], unfollowed := true, recurses := true, named := ["math/bits.deBruijn64tab", "internal/strconv.uint64pow10", "math/bits.deBruijn32tab"], apart := false, laid := [("math/bits.deBruijn32tab", laid_math_bits_deBruijn32tab), ("math/bits.deBruijn64tab", laid_math_bits_deBruijn64tab), ("internal/strconv.uint64pow10", laid_internal_strconv_uint64pow10)] }
def BirkhoffListsSaid : Prop := birkhoffListsRow.holds Tryz.pinned (OpenSpec.ofChange birkhoffListsSpec)

/-- ITS FALSE NEIGHBOUR: 'it returns false'. Refute it at one input. -/
def birkhoffListsWrong : ChangeSpec := { name := "birkhoffLists", fn := fun _ => fun
  | [d] => { results := [.lit (.bool false)], args := [d] }
  | _ => none }
def BirkhoffListsWrongFalsely : Prop := birkhoffListsRow.holds Tryz.pinned (OpenSpec.ofChange birkhoffListsWrong)

/-- 'antecedelaw11.BirkhoffJoins': WHATEVER THE INPUT: true; the input reads as it did. -/
def birkhoffJoinsSpec : ChangeSpec := { name := "birkhoffJoins", fn := fun _ => fun
  | [d1, d2, d3] => { results := [.lit (.bool true)], args := [d1, d2, d3] }
  | _ => none }
def birkhoffJoinsRow : OpenClaim := { program := "ytppocnbagombeaagreatdoor", sum := "7dba5bfa5081a644d7de18d3bd999fb3c9f2caf4f5dc46b1e6104ed41645c1c9", func := "antecede/antecedelaw11.BirkhoffJoins", spec := "birkhoffJoins", inPlace := ["internal/abi.NoEscape"], unfollowed := true, recurses := true, named := ["math/bits.deBruijn64tab", "internal/strconv.uint64pow10", "math/bits.deBruijn32tab"], apart := false, laid := [("math/bits.deBruijn32tab", laid_math_bits_deBruijn32tab), ("math/bits.deBruijn64tab", laid_math_bits_deBruijn64tab), ("internal/strconv.uint64pow10", laid_internal_strconv_uint64pow10)] }
def BirkhoffJoinsSaid : Prop := birkhoffJoinsRow.holds Tryz.pinned (OpenSpec.ofChange birkhoffJoinsSpec)

/-- ITS FALSE NEIGHBOUR: 'it returns false'. Refute it at one input. -/
def birkhoffJoinsWrong : ChangeSpec := { name := "birkhoffJoins", fn := fun _ => fun
  | [d1, d2, d3] => { results := [.lit (.bool false)], args := [d1, d2, d3] }
  | _ => none }
def BirkhoffJoinsWrongFalsely : Prop := birkhoffJoinsRow.holds Tryz.pinned (OpenSpec.ofChange birkhoffJoinsWrong)

/-- 'antecedelaw11.BirkhoffLaws': WHATEVER THE INPUT: true; the input reads as it did. -/
def birkhoffLawsSpec : ChangeSpec := { name := "birkhoffLaws", fn := fun _ => fun
  | [d1, d2, d3, d4] => { results := [.lit (.bool true)], args := [d1, d2, d3, d4] }
  | _ => none }
def birkhoffLawsRow : OpenClaim := { program := "ytppocnbagombeaagreatdoor", sum := "7dba5bfa5081a644d7de18d3bd999fb3c9f2caf4f5dc46b1e6104ed41645c1c9", func := "antecede/antecedelaw11.BirkhoffLaws", spec := "birkhoffLaws", inPlace := ["internal/abi.NoEscape"], unfollowed := true, recurses := true, named := ["math/bits.deBruijn64tab", "internal/strconv.uint64pow10", "math/bits.deBruijn32tab"], apart := false, laid := [("math/bits.deBruijn32tab", laid_math_bits_deBruijn32tab), ("math/bits.deBruijn64tab", laid_math_bits_deBruijn64tab), ("internal/strconv.uint64pow10", laid_internal_strconv_uint64pow10)] }
def BirkhoffLawsSaid : Prop := birkhoffLawsRow.holds Tryz.pinned (OpenSpec.ofChange birkhoffLawsSpec)

/-- ITS FALSE NEIGHBOUR: 'it returns false'. Refute it at one input. -/
def birkhoffLawsWrong : ChangeSpec := { name := "birkhoffLaws", fn := fun _ => fun
  | [d1, d2, d3, d4] => { results := [.lit (.bool false)], args := [d1, d2, d3, d4] }
  | _ => none }
def BirkhoffLawsWrongFalsely : Prop := birkhoffLawsRow.holds Tryz.pinned (OpenSpec.ofChange birkhoffLawsWrong)

/- THE SECOND FORM. 'bulk': how many values and letters a reading holds, each counted each time it is reached (what is shared counts as often as it is met; a slice's spare places count too). A statement '..UptoSaid' is the law's where the arguments, and the package variables that the reading takes, are together of bulk at most 1048576: NARROWER than '..Said'. Prove '..Said' where nothing that the law and all that it calls make is longer than what came in: it says more and counts as full. Else prove '..UptoSaid'. A law counts once. -/
mutual
def uptoBulk {H : Type} : DataW H → Nat
  | .lit (.string bytes) => bytes.length + 1
  | .lit _ => 1
  | .nil => 1
  | .ptr d => uptoBulk d + 1
  | .slice elems spare => uptoBulkAll elems + uptoBulkAll spare + 1
  | .agg parts => uptoBulkAll parts + 1
  | .iface _ d => uptoBulk d + 1
  | .map entries => uptoBulkEntries entries + 1
  | .held _ => 1
def uptoBulkAll {H : Type} : List (DataW H) → Nat
  | [] => 0
  | d :: r => uptoBulk d + uptoBulkAll r
def uptoBulkEntries {H : Type} : List (Lit × DataW H) → Nat
  | [] => 0
  | x :: r => uptoBulkEntry x + uptoBulkEntries r
def uptoBulkEntry {H : Type} : Lit × DataW H → Nat
  | (.string bytes, d) => bytes.length + uptoBulk d + 1
  | (_, d) => uptoBulk d + 1
 end
def uptoSmall : (H : Type) → List (DataW H) → Bool := fun _ ds => decide (uptoBulkAll ds ≤ 1048576)
def OpenSpec.upto (s : _root_.Go.ChangeSpec) : _root_.Go.OpenSpec := { _root_.Go.OpenSpec.ofChange s with cond := some uptoSmall }

/-- 'antecedelaw11.BirkhoffOrders', WHERE WHAT IT READS IS OF BULK AT MOST 1048576: true; the input reads as it did. -/
def birkhoffOrdersUptoRow : OpenClaim := { program := "ytppocnbagombeaagreatdoor", sum := "7dba5bfa5081a644d7de18d3bd999fb3c9f2caf4f5dc46b1e6104ed41645c1c9", func := "antecede/antecedelaw11.BirkhoffOrders", spec := "birkhoffOrders", inPlace := ["internal/abi.NoEscape"], unfollowed := true, recurses := true, named := ["math/bits.deBruijn64tab", "internal/strconv.uint64pow10", "math/bits.deBruijn32tab"], apart := false, laid := [("math/bits.deBruijn32tab", laid_math_bits_deBruijn32tab), ("math/bits.deBruijn64tab", laid_math_bits_deBruijn64tab), ("internal/strconv.uint64pow10", laid_internal_strconv_uint64pow10)], narrowed := true }
def BirkhoffOrdersUptoSaid : Prop := birkhoffOrdersUptoRow.holds Tryz.pinned (OpenSpec.upto birkhoffOrdersSpec)

/-- 'antecedelaw11.BirkhoffMaps', WHERE WHAT IT READS IS OF BULK AT MOST 1048576: true; the input reads as it did. -/
def birkhoffMapsUptoRow : OpenClaim := { program := "ytppocnbagombeaagreatdoor", sum := "7dba5bfa5081a644d7de18d3bd999fb3c9f2caf4f5dc46b1e6104ed41645c1c9", func := "antecede/antecedelaw11.BirkhoffMaps", spec := "birkhoffMaps", inPlace := ["internal/abi.NoEscape"], unfollowed := true, recurses := true, named := ["math/bits.deBruijn64tab", "internal/strconv.uint64pow10", "math/bits.deBruijn32tab"], apart := false, laid := [("math/bits.deBruijn32tab", laid_math_bits_deBruijn32tab), ("math/bits.deBruijn64tab", laid_math_bits_deBruijn64tab), ("internal/strconv.uint64pow10", laid_internal_strconv_uint64pow10)], narrowed := true }
def BirkhoffMapsUptoSaid : Prop := birkhoffMapsUptoRow.holds Tryz.pinned (OpenSpec.upto birkhoffMapsSpec)

/-- 'antecedelaw11.BirkhoffLattices', WHERE WHAT IT READS IS OF BULK AT MOST 1048576: true; the input reads as it did. -/
def birkhoffLatticesUptoRow : OpenClaim := { program := "ytppocnbagombeaagreatdoor", sum := "7dba5bfa5081a644d7de18d3bd999fb3c9f2caf4f5dc46b1e6104ed41645c1c9", func := "antecede/antecedelaw11.BirkhoffLattices", spec := "birkhoffLattices", inPlace := ["internal/abi.NoEscape"], unfollowed := true, recurses := true, named := ["math/bits.deBruijn64tab", "internal/strconv.uint64pow10", "math/bits.deBruijn32tab"], apart := false, laid := [("math/bits.deBruijn32tab", laid_math_bits_deBruijn32tab), ("math/bits.deBruijn64tab", laid_math_bits_deBruijn64tab), ("internal/strconv.uint64pow10", laid_internal_strconv_uint64pow10)], narrowed := true }
def BirkhoffLatticesUptoSaid : Prop := birkhoffLatticesUptoRow.holds Tryz.pinned (OpenSpec.upto birkhoffLatticesSpec)

/-- 'antecedelaw11.BirkhoffLists', WHERE WHAT IT READS IS OF BULK AT MOST 1048576: true; the input reads as it did. -/
def birkhoffListsUptoRow : OpenClaim := { program := "ytppocnbagombeaagreatdoor", sum := "7dba5bfa5081a644d7de18d3bd999fb3c9f2caf4f5dc46b1e6104ed41645c1c9", func := "antecede/antecedelaw11.BirkhoffLists", spec := "birkhoffLists", inPlace := ["internal/abi.NoEscape"], unfollowed := true, recurses := true, named := ["math/bits.deBruijn64tab", "internal/strconv.uint64pow10", "math/bits.deBruijn32tab"], apart := false, laid := [("math/bits.deBruijn32tab", laid_math_bits_deBruijn32tab), ("math/bits.deBruijn64tab", laid_math_bits_deBruijn64tab), ("internal/strconv.uint64pow10", laid_internal_strconv_uint64pow10)], narrowed := true }
def BirkhoffListsUptoSaid : Prop := birkhoffListsUptoRow.holds Tryz.pinned (OpenSpec.upto birkhoffListsSpec)

/-- 'antecedelaw11.BirkhoffJoins', WHERE WHAT IT READS IS OF BULK AT MOST 1048576: true; the input reads as it did. -/
def birkhoffJoinsUptoRow : OpenClaim := { program := "ytppocnbagombeaagreatdoor", sum := "7dba5bfa5081a644d7de18d3bd999fb3c9f2caf4f5dc46b1e6104ed41645c1c9", func := "antecede/antecedelaw11.BirkhoffJoins", spec := "birkhoffJoins", inPlace := ["internal/abi.NoEscape"], unfollowed := true, recurses := true, named := ["math/bits.deBruijn64tab", "internal/strconv.uint64pow10", "math/bits.deBruijn32tab"], apart := false, laid := [("math/bits.deBruijn32tab", laid_math_bits_deBruijn32tab), ("math/bits.deBruijn64tab", laid_math_bits_deBruijn64tab), ("internal/strconv.uint64pow10", laid_internal_strconv_uint64pow10)], narrowed := true }
def BirkhoffJoinsUptoSaid : Prop := birkhoffJoinsUptoRow.holds Tryz.pinned (OpenSpec.upto birkhoffJoinsSpec)

/-- 'antecedelaw11.BirkhoffLaws', WHERE WHAT IT READS IS OF BULK AT MOST 1048576: true; the input reads as it did. -/
def birkhoffLawsUptoRow : OpenClaim := { program := "ytppocnbagombeaagreatdoor", sum := "7dba5bfa5081a644d7de18d3bd999fb3c9f2caf4f5dc46b1e6104ed41645c1c9", func := "antecede/antecedelaw11.BirkhoffLaws", spec := "birkhoffLaws", inPlace := ["internal/abi.NoEscape"], unfollowed := true, recurses := true, named := ["math/bits.deBruijn64tab", "internal/strconv.uint64pow10", "math/bits.deBruijn32tab"], apart := false, laid := [("math/bits.deBruijn32tab", laid_math_bits_deBruijn32tab), ("math/bits.deBruijn64tab", laid_math_bits_deBruijn64tab), ("internal/strconv.uint64pow10", laid_internal_strconv_uint64pow10)], narrowed := true }
def BirkhoffLawsUptoSaid : Prop := birkhoffLawsUptoRow.holds Tryz.pinned (OpenSpec.upto birkhoffLawsSpec)

end Rows
end Go.Proofs.YtppocnbagombeaaGreatDoor
