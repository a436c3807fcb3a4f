/-
  DERIVED. GIVEN WITH THE SEED: THE CARDS: each row of YtloonkbfooddiaaGreatDoorRows.lean that lists a variable, with what it lists TIED to the program's text (the seventh form; the later family's looks); each row that meets fmt, with fmt's text TOLD by the authors' own Lean function (tested against real Go, not proved from fmt's source: count such statements apart). THE CARD IS WHAT COUNTS. Prove the row's statement (the work); the ties are given (YtloonkbfooddiaaGreatDoorTie.lean); close each card by the builder's one call (the guide's Derived/Test/ToyasCard.lean, 'card_holds'). Laid BY PROGRAM, IN A SANDBOX (cutbox-door.mjs). By AI agents, Wed Nov 11 2026. No macro, syntax, notation, axiom, sorry.
-/
import Derived.Test.YtloonkbfooddiaaGreatDoorRows
import GoSem.ClaimSeven
namespace Go.Proofs.YtloonkbfooddiaaGreatDoor
namespace Rows

/-- THE TIED CARD OF 'antecedelaw10.IdealTests'. -/
def idealTestsCard : Claim7 := { stood := { row := idealTestsRow, standIns := [], harness := (true, "2869d84be59e4d2e309d76c6bfd336e6e6ffc6904606b427ff6f83e5f5091e4d"), looks := false }, kinds := [], alts := [], laidByText := true, laidKinds := [.data, .data, .data], laidTests := true, laidLooks := .later }
def IdealTestsCardSaid : Prop := Claim7.holds Tryz.pinned (.plain (OpenSpec.ofChange idealTestsSpec)) idealTestsCard

/-- THE TIED CARD OF 'antecedelaw10.IdealLists'. -/
def idealListsCard : Claim7 := { stood := { row := idealListsRow, standIns := [], harness := (true, "2869d84be59e4d2e309d76c6bfd336e6e6ffc6904606b427ff6f83e5f5091e4d"), looks := false }, kinds := [], alts := [], laidByText := true, laidKinds := [.data, .data, .data], laidTests := true, laidLooks := .later }
def IdealListsCardSaid : Prop := Claim7.holds Tryz.pinned (.plain (OpenSpec.ofChange idealListsSpec)) idealListsCard

/-- THE TIED CARD OF 'antecedelaw10.IdealBudget'. -/
def idealBudgetCard : Claim7 := { stood := { row := idealBudgetRow, standIns := [], harness := (true, "2869d84be59e4d2e309d76c6bfd336e6e6ffc6904606b427ff6f83e5f5091e4d"), looks := false }, kinds := [], alts := [], laidByText := true, laidKinds := [.data, .data, .data], laidTests := true, laidLooks := .later }
def IdealBudgetCardSaid : Prop := Claim7.holds Tryz.pinned (.plain (OpenSpec.ofChange idealBudgetSpec)) idealBudgetCard

/-- THE TIED CARD OF 'antecedelaw10.IdealWhole'. -/
def idealWholeCard : Claim7 := { stood := { row := idealWholeRow, standIns := [], harness := (true, "2869d84be59e4d2e309d76c6bfd336e6e6ffc6904606b427ff6f83e5f5091e4d"), looks := false }, kinds := [], alts := [], laidByText := true, laidKinds := [.data, .data, .data], laidTests := true, laidLooks := .later }
def IdealWholeCardSaid : Prop := Claim7.holds Tryz.pinned (.plain (OpenSpec.ofChange idealWholeSpec)) idealWholeCard

/-- THE TIED CARD OF 'antecedelaw10.IdealSteps'. -/
def idealStepsCard : Claim7 := { stood := { row := idealStepsRow, standIns := [], harness := (true, "2869d84be59e4d2e309d76c6bfd336e6e6ffc6904606b427ff6f83e5f5091e4d"), looks := false }, kinds := [], alts := [], laidByText := true, laidKinds := [.data, .data, .data], laidTests := true, laidLooks := .later }
def IdealStepsCardSaid : Prop := Claim7.holds Tryz.pinned (.plain (OpenSpec.ofChange idealStepsSpec)) idealStepsCard

/-- THE TIED CARD OF 'antecedelaw10.IdealLattice'. -/
def idealLatticeCard : Claim7 := { stood := { row := idealLatticeRow, standIns := [], harness := (true, "2869d84be59e4d2e309d76c6bfd336e6e6ffc6904606b427ff6f83e5f5091e4d"), looks := false }, kinds := [], alts := [], laidByText := true, laidKinds := [.data, .data, .data], laidTests := true, laidLooks := .later }
def IdealLatticeCardSaid : Prop := Claim7.holds Tryz.pinned (.plain (OpenSpec.ofChange idealLatticeSpec)) idealLatticeCard

/-- THE TIED CARD OF 'antecedelaw10.IdealGrows'. -/
def idealGrowsCard : Claim7 := { stood := { row := idealGrowsRow, standIns := [], harness := (true, "2869d84be59e4d2e309d76c6bfd336e6e6ffc6904606b427ff6f83e5f5091e4d"), looks := false }, kinds := [], alts := [], laidByText := true, laidKinds := [.data, .data, .data], laidTests := true, laidLooks := .later }
def IdealGrowsCardSaid : Prop := Claim7.holds Tryz.pinned (.plain (OpenSpec.ofChange idealGrowsSpec)) idealGrowsCard

/-- THE SECOND FORM's CARD OF 'antecedelaw10.IdealTests'. -/
def idealTestsUptoCard : Claim7 := { stood := { row := idealTestsUptoRow, standIns := [], harness := (true, "2869d84be59e4d2e309d76c6bfd336e6e6ffc6904606b427ff6f83e5f5091e4d"), looks := false }, kinds := [], alts := [], laidByText := true, laidKinds := [.data, .data, .data], laidTests := true, laidLooks := .later }
def IdealTestsUptoCardSaid : Prop := Claim7.holds Tryz.pinned (.plain (OpenSpec.upto idealTestsSpec)) idealTestsUptoCard

/-- THE SECOND FORM's CARD OF 'antecedelaw10.IdealLists'. -/
def idealListsUptoCard : Claim7 := { stood := { row := idealListsUptoRow, standIns := [], harness := (true, "2869d84be59e4d2e309d76c6bfd336e6e6ffc6904606b427ff6f83e5f5091e4d"), looks := false }, kinds := [], alts := [], laidByText := true, laidKinds := [.data, .data, .data], laidTests := true, laidLooks := .later }
def IdealListsUptoCardSaid : Prop := Claim7.holds Tryz.pinned (.plain (OpenSpec.upto idealListsSpec)) idealListsUptoCard

/-- THE SECOND FORM's CARD OF 'antecedelaw10.IdealBudget'. -/
def idealBudgetUptoCard : Claim7 := { stood := { row := idealBudgetUptoRow, standIns := [], harness := (true, "2869d84be59e4d2e309d76c6bfd336e6e6ffc6904606b427ff6f83e5f5091e4d"), looks := false }, kinds := [], alts := [], laidByText := true, laidKinds := [.data, .data, .data], laidTests := true, laidLooks := .later }
def IdealBudgetUptoCardSaid : Prop := Claim7.holds Tryz.pinned (.plain (OpenSpec.upto idealBudgetSpec)) idealBudgetUptoCard

/-- THE SECOND FORM's CARD OF 'antecedelaw10.IdealWhole'. -/
def idealWholeUptoCard : Claim7 := { stood := { row := idealWholeUptoRow, standIns := [], harness := (true, "2869d84be59e4d2e309d76c6bfd336e6e6ffc6904606b427ff6f83e5f5091e4d"), looks := false }, kinds := [], alts := [], laidByText := true, laidKinds := [.data, .data, .data], laidTests := true, laidLooks := .later }
def IdealWholeUptoCardSaid : Prop := Claim7.holds Tryz.pinned (.plain (OpenSpec.upto idealWholeSpec)) idealWholeUptoCard

/-- THE SECOND FORM's CARD OF 'antecedelaw10.IdealSteps'. -/
def idealStepsUptoCard : Claim7 := { stood := { row := idealStepsUptoRow, standIns := [], harness := (true, "2869d84be59e4d2e309d76c6bfd336e6e6ffc6904606b427ff6f83e5f5091e4d"), looks := false }, kinds := [], alts := [], laidByText := true, laidKinds := [.data, .data, .data], laidTests := true, laidLooks := .later }
def IdealStepsUptoCardSaid : Prop := Claim7.holds Tryz.pinned (.plain (OpenSpec.upto idealStepsSpec)) idealStepsUptoCard

/-- THE SECOND FORM's CARD OF 'antecedelaw10.IdealLattice'. -/
def idealLatticeUptoCard : Claim7 := { stood := { row := idealLatticeUptoRow, standIns := [], harness := (true, "2869d84be59e4d2e309d76c6bfd336e6e6ffc6904606b427ff6f83e5f5091e4d"), looks := false }, kinds := [], alts := [], laidByText := true, laidKinds := [.data, .data, .data], laidTests := true, laidLooks := .later }
def IdealLatticeUptoCardSaid : Prop := Claim7.holds Tryz.pinned (.plain (OpenSpec.upto idealLatticeSpec)) idealLatticeUptoCard

/-- THE SECOND FORM's CARD OF 'antecedelaw10.IdealGrows'. -/
def idealGrowsUptoCard : Claim7 := { stood := { row := idealGrowsUptoRow, standIns := [], harness := (true, "2869d84be59e4d2e309d76c6bfd336e6e6ffc6904606b427ff6f83e5f5091e4d"), looks := false }, kinds := [], alts := [], laidByText := true, laidKinds := [.data, .data, .data], laidTests := true, laidLooks := .later }
def IdealGrowsUptoCardSaid : Prop := Claim7.holds Tryz.pinned (.plain (OpenSpec.upto idealGrowsSpec)) idealGrowsUptoCard
end Rows
end Go.Proofs.YtloonkbfooddiaaGreatDoor
