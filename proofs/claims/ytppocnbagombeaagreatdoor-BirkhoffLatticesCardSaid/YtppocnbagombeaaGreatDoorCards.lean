/-
  DERIVED. GIVEN WITH THE SEED: THE CARDS: each row of YtppocnbagombeaaGreatDoorRows.lean that lists a variable, with what it lists TIED to the program's text (the seventh form; the later family's looks); each row that meets fmt, with fmt's text TOLD by the authors' own Lean function (tested against real Go, not proved from fmt's source: count such statements apart). THE CARD IS WHAT COUNTS. Prove the row's statement (the work); the ties are given (YtppocnbagombeaaGreatDoorTie.lean); close each card by the builder's one call (the guide's Derived/Test/ToyasCard.lean, 'card_holds'). Laid BY PROGRAM, IN A SANDBOX (cutbox-door.mjs). By AI agents, Wed Nov 11 2026. No macro, syntax, notation, axiom, sorry.
-/
import Derived.Test.YtppocnbagombeaaGreatDoorRows
import GoSem.ClaimSeven
namespace Go.Proofs.YtppocnbagombeaaGreatDoor
namespace Rows

/-- THE TIED CARD OF 'antecedelaw11.BirkhoffOrders'. -/
def birkhoffOrdersCard : Claim7 := { stood := { row := birkhoffOrdersRow, standIns := [], harness := (true, "905a766f3dc9884b12bd2a234102152df08fdd86311c0db6ff6c3e32fc1383e5"), looks := false }, kinds := [], alts := [], laidByText := true, laidKinds := [.data, .data, .data], laidTests := true, laidLooks := .later }
def BirkhoffOrdersCardSaid : Prop := Claim7.holds Tryz.pinned (.plain (OpenSpec.ofChange birkhoffOrdersSpec)) birkhoffOrdersCard

/-- THE TIED CARD OF 'antecedelaw11.BirkhoffMaps'. -/
def birkhoffMapsCard : Claim7 := { stood := { row := birkhoffMapsRow, standIns := [], harness := (true, "905a766f3dc9884b12bd2a234102152df08fdd86311c0db6ff6c3e32fc1383e5"), looks := false }, kinds := [], alts := [], laidByText := true, laidKinds := [.data, .data, .data], laidTests := true, laidLooks := .later }
def BirkhoffMapsCardSaid : Prop := Claim7.holds Tryz.pinned (.plain (OpenSpec.ofChange birkhoffMapsSpec)) birkhoffMapsCard

/-- THE TIED CARD OF 'antecedelaw11.BirkhoffLattices'. -/
def birkhoffLatticesCard : Claim7 := { stood := { row := birkhoffLatticesRow, standIns := [], harness := (true, "905a766f3dc9884b12bd2a234102152df08fdd86311c0db6ff6c3e32fc1383e5"), looks := false }, kinds := [], alts := [], laidByText := true, laidKinds := [.data, .data, .data], laidTests := true, laidLooks := .later }
def BirkhoffLatticesCardSaid : Prop := Claim7.holds Tryz.pinned (.plain (OpenSpec.ofChange birkhoffLatticesSpec)) birkhoffLatticesCard

/-- THE TIED CARD OF 'antecedelaw11.BirkhoffLists'. -/
def birkhoffListsCard : Claim7 := { stood := { row := birkhoffListsRow, standIns := [], harness := (true, "905a766f3dc9884b12bd2a234102152df08fdd86311c0db6ff6c3e32fc1383e5"), looks := false }, kinds := [], alts := [], laidByText := true, laidKinds := [.data, .data, .data], laidTests := true, laidLooks := .later }
def BirkhoffListsCardSaid : Prop := Claim7.holds Tryz.pinned (.plain (OpenSpec.ofChange birkhoffListsSpec)) birkhoffListsCard

/-- THE TIED CARD OF 'antecedelaw11.BirkhoffJoins'. -/
def birkhoffJoinsCard : Claim7 := { stood := { row := birkhoffJoinsRow, standIns := [], harness := (true, "905a766f3dc9884b12bd2a234102152df08fdd86311c0db6ff6c3e32fc1383e5"), looks := false }, kinds := [], alts := [], laidByText := true, laidKinds := [.data, .data, .data], laidTests := true, laidLooks := .later }
def BirkhoffJoinsCardSaid : Prop := Claim7.holds Tryz.pinned (.plain (OpenSpec.ofChange birkhoffJoinsSpec)) birkhoffJoinsCard

/-- THE TIED CARD OF 'antecedelaw11.BirkhoffLaws'. -/
def birkhoffLawsCard : Claim7 := { stood := { row := birkhoffLawsRow, standIns := [], harness := (true, "905a766f3dc9884b12bd2a234102152df08fdd86311c0db6ff6c3e32fc1383e5"), looks := false }, kinds := [], alts := [], laidByText := true, laidKinds := [.data, .data, .data], laidTests := true, laidLooks := .later }
def BirkhoffLawsCardSaid : Prop := Claim7.holds Tryz.pinned (.plain (OpenSpec.ofChange birkhoffLawsSpec)) birkhoffLawsCard

/-- THE SECOND FORM's CARD OF 'antecedelaw11.BirkhoffOrders'. -/
def birkhoffOrdersUptoCard : Claim7 := { stood := { row := birkhoffOrdersUptoRow, standIns := [], harness := (true, "905a766f3dc9884b12bd2a234102152df08fdd86311c0db6ff6c3e32fc1383e5"), looks := false }, kinds := [], alts := [], laidByText := true, laidKinds := [.data, .data, .data], laidTests := true, laidLooks := .later }
def BirkhoffOrdersUptoCardSaid : Prop := Claim7.holds Tryz.pinned (.plain (OpenSpec.upto birkhoffOrdersSpec)) birkhoffOrdersUptoCard

/-- THE SECOND FORM's CARD OF 'antecedelaw11.BirkhoffMaps'. -/
def birkhoffMapsUptoCard : Claim7 := { stood := { row := birkhoffMapsUptoRow, standIns := [], harness := (true, "905a766f3dc9884b12bd2a234102152df08fdd86311c0db6ff6c3e32fc1383e5"), looks := false }, kinds := [], alts := [], laidByText := true, laidKinds := [.data, .data, .data], laidTests := true, laidLooks := .later }
def BirkhoffMapsUptoCardSaid : Prop := Claim7.holds Tryz.pinned (.plain (OpenSpec.upto birkhoffMapsSpec)) birkhoffMapsUptoCard

/-- THE SECOND FORM's CARD OF 'antecedelaw11.BirkhoffLattices'. -/
def birkhoffLatticesUptoCard : Claim7 := { stood := { row := birkhoffLatticesUptoRow, standIns := [], harness := (true, "905a766f3dc9884b12bd2a234102152df08fdd86311c0db6ff6c3e32fc1383e5"), looks := false }, kinds := [], alts := [], laidByText := true, laidKinds := [.data, .data, .data], laidTests := true, laidLooks := .later }
def BirkhoffLatticesUptoCardSaid : Prop := Claim7.holds Tryz.pinned (.plain (OpenSpec.upto birkhoffLatticesSpec)) birkhoffLatticesUptoCard

/-- THE SECOND FORM's CARD OF 'antecedelaw11.BirkhoffLists'. -/
def birkhoffListsUptoCard : Claim7 := { stood := { row := birkhoffListsUptoRow, standIns := [], harness := (true, "905a766f3dc9884b12bd2a234102152df08fdd86311c0db6ff6c3e32fc1383e5"), looks := false }, kinds := [], alts := [], laidByText := true, laidKinds := [.data, .data, .data], laidTests := true, laidLooks := .later }
def BirkhoffListsUptoCardSaid : Prop := Claim7.holds Tryz.pinned (.plain (OpenSpec.upto birkhoffListsSpec)) birkhoffListsUptoCard

/-- THE SECOND FORM's CARD OF 'antecedelaw11.BirkhoffJoins'. -/
def birkhoffJoinsUptoCard : Claim7 := { stood := { row := birkhoffJoinsUptoRow, standIns := [], harness := (true, "905a766f3dc9884b12bd2a234102152df08fdd86311c0db6ff6c3e32fc1383e5"), looks := false }, kinds := [], alts := [], laidByText := true, laidKinds := [.data, .data, .data], laidTests := true, laidLooks := .later }
def BirkhoffJoinsUptoCardSaid : Prop := Claim7.holds Tryz.pinned (.plain (OpenSpec.upto birkhoffJoinsSpec)) birkhoffJoinsUptoCard

/-- THE SECOND FORM's CARD OF 'antecedelaw11.BirkhoffLaws'. -/
def birkhoffLawsUptoCard : Claim7 := { stood := { row := birkhoffLawsUptoRow, standIns := [], harness := (true, "905a766f3dc9884b12bd2a234102152df08fdd86311c0db6ff6c3e32fc1383e5"), looks := false }, kinds := [], alts := [], laidByText := true, laidKinds := [.data, .data, .data], laidTests := true, laidLooks := .later }
def BirkhoffLawsUptoCardSaid : Prop := Claim7.holds Tryz.pinned (.plain (OpenSpec.upto birkhoffLawsSpec)) birkhoffLawsUptoCard
end Rows
end Go.Proofs.YtppocnbagombeaaGreatDoor
