/-
  DERIVED. GIVEN WITH THE SEED: THE CARDS: each row of YtljcffhjpcdpeaaDoorRows.lean that lists a variable, with what it lists TIED to the program's text (the seventh form; the later family's looks); each row that meets fmt, with fmt's text TOLD by the authors' own Lean function (tested against real Go, not proved from fmt's source: count such statements apart). THE CARD IS WHAT COUNTS. Prove the row's statement (the work); the ties are given (YtljcffhjpcdpeaaDoorTie.lean); close each card by the builder's one call (the guide's Derived/Test/ToyasCard.lean, 'card_holds'). Laid BY PROGRAM, IN A SANDBOX (cutbox-door.mjs). By AI agents, Wed Nov 11 2026. No macro, syntax, notation, axiom, sorry.
-/
import Derived.Test.YtljcffhjpcdpeaaDoorRows
import GoSem.ClaimSeven
namespace Go.Proofs.YtljcffhjpcdpeaaDoor
namespace Rows

/-- THE TIED CARD OF 'antecedelaw08.ExtensionCounts'. -/
def extensionCountsCard : Claim7 := { stood := { row := extensionCountsRow, standIns := [], harness := (true, "2071452e8ec250b5f13c2431664d391d3d0d3d9f30eab60b1eae15b9932d1ae7"), looks := false }, kinds := [], alts := [], laidByText := true, laidKinds := [.data], laidTests := true, laidLooks := .later }
def ExtensionCountsCardSaid : Prop := Claim7.holds Tryd.pinned (.plain (OpenSpec.ofChange extensionCountsSpec)) extensionCountsCard

/-- THE TIED CARD OF 'antecedelaw08.ExtensionNexts'. -/
def extensionNextsCard : Claim7 := { stood := { row := extensionNextsRow, standIns := [], harness := (true, "2071452e8ec250b5f13c2431664d391d3d0d3d9f30eab60b1eae15b9932d1ae7"), looks := false }, kinds := [], alts := [], laidByText := true, laidKinds := [.data], laidTests := true, laidLooks := .later }
def ExtensionNextsCardSaid : Prop := Claim7.holds Tryd.pinned (.plain (OpenSpec.ofChange extensionNextsSpec)) extensionNextsCard

/-- THE TIED CARD OF 'antecedelaw08.ExtensionChecks'. -/
def extensionChecksCard : Claim7 := { stood := { row := extensionChecksRow, standIns := [], harness := (true, "2071452e8ec250b5f13c2431664d391d3d0d3d9f30eab60b1eae15b9932d1ae7"), looks := false }, kinds := [], alts := [], laidByText := true, laidKinds := [.data], laidTests := true, laidLooks := .later }
def ExtensionChecksCardSaid : Prop := Claim7.holds Tryd.pinned (.plain (OpenSpec.ofChange extensionChecksSpec)) extensionChecksCard

/-- THE TIED CARD OF 'antecedelaw08.ExtensionFirst'. -/
def extensionFirstCard : Claim7 := { stood := { row := extensionFirstRow, standIns := [], harness := (true, "2071452e8ec250b5f13c2431664d391d3d0d3d9f30eab60b1eae15b9932d1ae7"), looks := false }, kinds := [], alts := [], laidByText := true, laidKinds := [.data], laidTests := true, laidLooks := .later }
def ExtensionFirstCardSaid : Prop := Claim7.holds Tryd.pinned (.plain (OpenSpec.ofChange extensionFirstSpec)) extensionFirstCard

/-- THE TIED CARD OF 'antecedelaw08.ExtensionRanks'. -/
def extensionRanksCard : Claim7 := { stood := { row := extensionRanksRow, standIns := [], harness := (true, "2071452e8ec250b5f13c2431664d391d3d0d3d9f30eab60b1eae15b9932d1ae7"), looks := false }, kinds := [], alts := [], laidByText := true, laidKinds := [.data], laidTests := true, laidLooks := .later }
def ExtensionRanksCardSaid : Prop := Claim7.holds Tryd.pinned (.plain (OpenSpec.ofChange extensionRanksSpec)) extensionRanksCard

/-- THE TIED CARD OF 'antecedelaw08.ExtensionMeets'. -/
def extensionMeetsCard : Claim7 := { stood := { row := extensionMeetsRow, standIns := [], harness := (true, "2071452e8ec250b5f13c2431664d391d3d0d3d9f30eab60b1eae15b9932d1ae7"), looks := false }, kinds := [], alts := [], laidByText := true, laidKinds := [.data], laidTests := true, laidLooks := .later }
def ExtensionMeetsCardSaid : Prop := Claim7.holds Tryd.pinned (.plain (OpenSpec.ofChange extensionMeetsSpec)) extensionMeetsCard

/-- THE TIED CARD OF 'antecedelaw08.ExtensionSzpilrajn'. -/
def extensionSzpilrajnCard : Claim7 := { stood := { row := extensionSzpilrajnRow, standIns := [], harness := (true, "2071452e8ec250b5f13c2431664d391d3d0d3d9f30eab60b1eae15b9932d1ae7"), looks := false }, kinds := [], alts := [], laidByText := true, laidKinds := [.data], laidTests := true, laidLooks := .later }
def ExtensionSzpilrajnCardSaid : Prop := Claim7.holds Tryd.pinned (.plain (OpenSpec.ofChange extensionSzpilrajnSpec)) extensionSzpilrajnCard

/-- THE TIED CARD OF 'antecedelaw08.ExtensionAll'. -/
def extensionAllCard : Claim7 := { stood := { row := extensionAllRow, standIns := [], harness := (true, "2071452e8ec250b5f13c2431664d391d3d0d3d9f30eab60b1eae15b9932d1ae7"), looks := false }, kinds := [], alts := [], laidByText := true, laidKinds := [.data], laidTests := true, laidLooks := .later }
def ExtensionAllCardSaid : Prop := Claim7.holds Tryd.pinned (.plain (OpenSpec.ofChange extensionAllSpec)) extensionAllCard

/-- THE SECOND FORM's CARD OF 'antecedelaw08.ExtensionCounts'. -/
def extensionCountsUptoCard : Claim7 := { stood := { row := extensionCountsUptoRow, standIns := [], harness := (true, "2071452e8ec250b5f13c2431664d391d3d0d3d9f30eab60b1eae15b9932d1ae7"), looks := false }, kinds := [], alts := [], laidByText := true, laidKinds := [.data], laidTests := true, laidLooks := .later }
def ExtensionCountsUptoCardSaid : Prop := Claim7.holds Tryd.pinned (.plain (OpenSpec.upto extensionCountsSpec)) extensionCountsUptoCard

/-- THE SECOND FORM's CARD OF 'antecedelaw08.ExtensionNexts'. -/
def extensionNextsUptoCard : Claim7 := { stood := { row := extensionNextsUptoRow, standIns := [], harness := (true, "2071452e8ec250b5f13c2431664d391d3d0d3d9f30eab60b1eae15b9932d1ae7"), looks := false }, kinds := [], alts := [], laidByText := true, laidKinds := [.data], laidTests := true, laidLooks := .later }
def ExtensionNextsUptoCardSaid : Prop := Claim7.holds Tryd.pinned (.plain (OpenSpec.upto extensionNextsSpec)) extensionNextsUptoCard

/-- THE SECOND FORM's CARD OF 'antecedelaw08.ExtensionChecks'. -/
def extensionChecksUptoCard : Claim7 := { stood := { row := extensionChecksUptoRow, standIns := [], harness := (true, "2071452e8ec250b5f13c2431664d391d3d0d3d9f30eab60b1eae15b9932d1ae7"), looks := false }, kinds := [], alts := [], laidByText := true, laidKinds := [.data], laidTests := true, laidLooks := .later }
def ExtensionChecksUptoCardSaid : Prop := Claim7.holds Tryd.pinned (.plain (OpenSpec.upto extensionChecksSpec)) extensionChecksUptoCard

/-- THE SECOND FORM's CARD OF 'antecedelaw08.ExtensionFirst'. -/
def extensionFirstUptoCard : Claim7 := { stood := { row := extensionFirstUptoRow, standIns := [], harness := (true, "2071452e8ec250b5f13c2431664d391d3d0d3d9f30eab60b1eae15b9932d1ae7"), looks := false }, kinds := [], alts := [], laidByText := true, laidKinds := [.data], laidTests := true, laidLooks := .later }
def ExtensionFirstUptoCardSaid : Prop := Claim7.holds Tryd.pinned (.plain (OpenSpec.upto extensionFirstSpec)) extensionFirstUptoCard

/-- THE SECOND FORM's CARD OF 'antecedelaw08.ExtensionRanks'. -/
def extensionRanksUptoCard : Claim7 := { stood := { row := extensionRanksUptoRow, standIns := [], harness := (true, "2071452e8ec250b5f13c2431664d391d3d0d3d9f30eab60b1eae15b9932d1ae7"), looks := false }, kinds := [], alts := [], laidByText := true, laidKinds := [.data], laidTests := true, laidLooks := .later }
def ExtensionRanksUptoCardSaid : Prop := Claim7.holds Tryd.pinned (.plain (OpenSpec.upto extensionRanksSpec)) extensionRanksUptoCard

/-- THE SECOND FORM's CARD OF 'antecedelaw08.ExtensionMeets'. -/
def extensionMeetsUptoCard : Claim7 := { stood := { row := extensionMeetsUptoRow, standIns := [], harness := (true, "2071452e8ec250b5f13c2431664d391d3d0d3d9f30eab60b1eae15b9932d1ae7"), looks := false }, kinds := [], alts := [], laidByText := true, laidKinds := [.data], laidTests := true, laidLooks := .later }
def ExtensionMeetsUptoCardSaid : Prop := Claim7.holds Tryd.pinned (.plain (OpenSpec.upto extensionMeetsSpec)) extensionMeetsUptoCard

/-- THE SECOND FORM's CARD OF 'antecedelaw08.ExtensionSzpilrajn'. -/
def extensionSzpilrajnUptoCard : Claim7 := { stood := { row := extensionSzpilrajnUptoRow, standIns := [], harness := (true, "2071452e8ec250b5f13c2431664d391d3d0d3d9f30eab60b1eae15b9932d1ae7"), looks := false }, kinds := [], alts := [], laidByText := true, laidKinds := [.data], laidTests := true, laidLooks := .later }
def ExtensionSzpilrajnUptoCardSaid : Prop := Claim7.holds Tryd.pinned (.plain (OpenSpec.upto extensionSzpilrajnSpec)) extensionSzpilrajnUptoCard

/-- THE SECOND FORM's CARD OF 'antecedelaw08.ExtensionAll'. -/
def extensionAllUptoCard : Claim7 := { stood := { row := extensionAllUptoRow, standIns := [], harness := (true, "2071452e8ec250b5f13c2431664d391d3d0d3d9f30eab60b1eae15b9932d1ae7"), looks := false }, kinds := [], alts := [], laidByText := true, laidKinds := [.data], laidTests := true, laidLooks := .later }
def ExtensionAllUptoCardSaid : Prop := Claim7.holds Tryd.pinned (.plain (OpenSpec.upto extensionAllSpec)) extensionAllUptoCard
end Rows
end Go.Proofs.YtljcffhjpcdpeaaDoor
