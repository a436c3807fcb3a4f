/-
  DERIVED. GIVEN WITH THE SEED: THE CARDS: each row of YtplgcbhaolapmaaDoorRows.lean that lists a variable, with what it lists TIED to the program's text (the seventh form; the later family's looks); each row that meets fmt, with fmt's text TOLD by the authors' own Lean function (tested against real Go, not proved from fmt's source: count such statements apart). THE CARD IS WHAT COUNTS. Prove the row's statement (the work); the ties are given (YtplgcbhaolapmaaDoorTie.lean); close each card by the builder's one call (the guide's Derived/Test/ToyasCard.lean, 'card_holds'). Laid BY PROGRAM, IN A SANDBOX (cutbox-door.mjs). By AI agents, Wed Nov 11 2026. No macro, syntax, notation, axiom, sorry.
-/
import Derived.Test.YtplgcbhaolapmaaDoorRows
import GoSem.ClaimSeven
namespace Go.Proofs.YtplgcbhaolapmaaDoor
namespace Rows

/-- THE TIED CARD OF 'antecedelaw06.PosetCovers'. -/
def posetCoversCard : Claim7 := { stood := { row := posetCoversRow, standIns := [], harness := (true, "a361218d41a5c5d17e0ed7782a2da52aec5773f886dde842864160d25c59f8c7"), looks := false }, kinds := [], alts := [], laidByText := true, laidKinds := [.data], laidTests := true, laidLooks := .later }
def PosetCoversCardSaid : Prop := Claim7.holds Tryd.pinned (.plain (OpenSpec.ofChange posetCoversSpec)) posetCoversCard

/-- THE TIED CARD OF 'antecedelaw06.PosetClosed'. -/
def posetClosedCard : Claim7 := { stood := { row := posetClosedRow, standIns := [], harness := (true, "a361218d41a5c5d17e0ed7782a2da52aec5773f886dde842864160d25c59f8c7"), looks := false }, kinds := [], alts := [], laidByText := true, laidKinds := [.data], laidTests := true, laidLooks := .later }
def PosetClosedCardSaid : Prop := Claim7.holds Tryd.pinned (.plain (OpenSpec.ofChange posetClosedSpec)) posetClosedCard

/-- THE TIED CARD OF 'antecedelaw06.PosetForms'. -/
def posetFormsCard : Claim7 := { stood := { row := posetFormsRow, standIns := [], harness := (true, "a361218d41a5c5d17e0ed7782a2da52aec5773f886dde842864160d25c59f8c7"), looks := false }, kinds := [], alts := [], laidByText := true, laidKinds := [.data], laidTests := true, laidLooks := .later }
def PosetFormsCardSaid : Prop := Claim7.holds Tryd.pinned (.plain (OpenSpec.ofChange posetFormsSpec)) posetFormsCard

/-- THE TIED CARD OF 'antecedelaw06.PosetBack'. -/
def posetBackCard : Claim7 := { stood := { row := posetBackRow, standIns := [], harness := (true, "a361218d41a5c5d17e0ed7782a2da52aec5773f886dde842864160d25c59f8c7"), looks := false }, kinds := [], alts := [], laidByText := true, laidKinds := [.data], laidTests := true, laidLooks := .later }
def PosetBackCardSaid : Prop := Claim7.holds Tryd.pinned (.plain (OpenSpec.ofChange posetBackSpec)) posetBackCard

/-- THE TIED CARD OF 'antecedelaw06.PosetLevels'. -/
def posetLevelsCard : Claim7 := { stood := { row := posetLevelsRow, standIns := [], harness := (true, "a361218d41a5c5d17e0ed7782a2da52aec5773f886dde842864160d25c59f8c7"), looks := false }, kinds := [], alts := [], laidByText := true, laidKinds := [.data], laidTests := true, laidLooks := .later }
def PosetLevelsCardSaid : Prop := Claim7.holds Tryd.pinned (.plain (OpenSpec.ofChange posetLevelsSpec)) posetLevelsCard

/-- THE TIED CARD OF 'antecedelaw06.PosetEnds'. -/
def posetEndsCard : Claim7 := { stood := { row := posetEndsRow, standIns := [], harness := (true, "a361218d41a5c5d17e0ed7782a2da52aec5773f886dde842864160d25c59f8c7"), looks := false }, kinds := [], alts := [], laidByText := true, laidKinds := [.data], laidTests := true, laidLooks := .later }
def PosetEndsCardSaid : Prop := Claim7.holds Tryd.pinned (.plain (OpenSpec.ofChange posetEndsSpec)) posetEndsCard

/-- THE TIED CARD OF 'antecedelaw06.PosetCloses'. -/
def posetClosesCard : Claim7 := { stood := { row := posetClosesRow, standIns := [], harness := (true, "a361218d41a5c5d17e0ed7782a2da52aec5773f886dde842864160d25c59f8c7"), looks := false }, kinds := [], alts := [], laidByText := true, laidKinds := [.data], laidTests := true, laidLooks := .later }
def PosetClosesCardSaid : Prop := Claim7.holds Tryd.pinned (.plain (OpenSpec.ofChange posetClosesSpec)) posetClosesCard

/-- THE TIED CARD OF 'antecedelaw06.PosetParts'. -/
def posetPartsCard : Claim7 := { stood := { row := posetPartsRow, standIns := [], harness := (true, "a361218d41a5c5d17e0ed7782a2da52aec5773f886dde842864160d25c59f8c7"), looks := false }, kinds := [], alts := [], laidByText := true, laidKinds := [.data], laidTests := true, laidLooks := .later }
def PosetPartsCardSaid : Prop := Claim7.holds Tryd.pinned (.plain (OpenSpec.ofChange posetPartsSpec)) posetPartsCard

/-- THE SECOND FORM's CARD OF 'antecedelaw06.PosetCovers'. -/
def posetCoversUptoCard : Claim7 := { stood := { row := posetCoversUptoRow, standIns := [], harness := (true, "a361218d41a5c5d17e0ed7782a2da52aec5773f886dde842864160d25c59f8c7"), looks := false }, kinds := [], alts := [], laidByText := true, laidKinds := [.data], laidTests := true, laidLooks := .later }
def PosetCoversUptoCardSaid : Prop := Claim7.holds Tryd.pinned (.plain (OpenSpec.upto posetCoversSpec)) posetCoversUptoCard

/-- THE SECOND FORM's CARD OF 'antecedelaw06.PosetClosed'. -/
def posetClosedUptoCard : Claim7 := { stood := { row := posetClosedUptoRow, standIns := [], harness := (true, "a361218d41a5c5d17e0ed7782a2da52aec5773f886dde842864160d25c59f8c7"), looks := false }, kinds := [], alts := [], laidByText := true, laidKinds := [.data], laidTests := true, laidLooks := .later }
def PosetClosedUptoCardSaid : Prop := Claim7.holds Tryd.pinned (.plain (OpenSpec.upto posetClosedSpec)) posetClosedUptoCard

/-- THE SECOND FORM's CARD OF 'antecedelaw06.PosetForms'. -/
def posetFormsUptoCard : Claim7 := { stood := { row := posetFormsUptoRow, standIns := [], harness := (true, "a361218d41a5c5d17e0ed7782a2da52aec5773f886dde842864160d25c59f8c7"), looks := false }, kinds := [], alts := [], laidByText := true, laidKinds := [.data], laidTests := true, laidLooks := .later }
def PosetFormsUptoCardSaid : Prop := Claim7.holds Tryd.pinned (.plain (OpenSpec.upto posetFormsSpec)) posetFormsUptoCard

/-- THE SECOND FORM's CARD OF 'antecedelaw06.PosetBack'. -/
def posetBackUptoCard : Claim7 := { stood := { row := posetBackUptoRow, standIns := [], harness := (true, "a361218d41a5c5d17e0ed7782a2da52aec5773f886dde842864160d25c59f8c7"), looks := false }, kinds := [], alts := [], laidByText := true, laidKinds := [.data], laidTests := true, laidLooks := .later }
def PosetBackUptoCardSaid : Prop := Claim7.holds Tryd.pinned (.plain (OpenSpec.upto posetBackSpec)) posetBackUptoCard

/-- THE SECOND FORM's CARD OF 'antecedelaw06.PosetLevels'. -/
def posetLevelsUptoCard : Claim7 := { stood := { row := posetLevelsUptoRow, standIns := [], harness := (true, "a361218d41a5c5d17e0ed7782a2da52aec5773f886dde842864160d25c59f8c7"), looks := false }, kinds := [], alts := [], laidByText := true, laidKinds := [.data], laidTests := true, laidLooks := .later }
def PosetLevelsUptoCardSaid : Prop := Claim7.holds Tryd.pinned (.plain (OpenSpec.upto posetLevelsSpec)) posetLevelsUptoCard

/-- THE SECOND FORM's CARD OF 'antecedelaw06.PosetEnds'. -/
def posetEndsUptoCard : Claim7 := { stood := { row := posetEndsUptoRow, standIns := [], harness := (true, "a361218d41a5c5d17e0ed7782a2da52aec5773f886dde842864160d25c59f8c7"), looks := false }, kinds := [], alts := [], laidByText := true, laidKinds := [.data], laidTests := true, laidLooks := .later }
def PosetEndsUptoCardSaid : Prop := Claim7.holds Tryd.pinned (.plain (OpenSpec.upto posetEndsSpec)) posetEndsUptoCard

/-- THE SECOND FORM's CARD OF 'antecedelaw06.PosetCloses'. -/
def posetClosesUptoCard : Claim7 := { stood := { row := posetClosesUptoRow, standIns := [], harness := (true, "a361218d41a5c5d17e0ed7782a2da52aec5773f886dde842864160d25c59f8c7"), looks := false }, kinds := [], alts := [], laidByText := true, laidKinds := [.data], laidTests := true, laidLooks := .later }
def PosetClosesUptoCardSaid : Prop := Claim7.holds Tryd.pinned (.plain (OpenSpec.upto posetClosesSpec)) posetClosesUptoCard

/-- THE SECOND FORM's CARD OF 'antecedelaw06.PosetParts'. -/
def posetPartsUptoCard : Claim7 := { stood := { row := posetPartsUptoRow, standIns := [], harness := (true, "a361218d41a5c5d17e0ed7782a2da52aec5773f886dde842864160d25c59f8c7"), looks := false }, kinds := [], alts := [], laidByText := true, laidKinds := [.data], laidTests := true, laidLooks := .later }
def PosetPartsUptoCardSaid : Prop := Claim7.holds Tryd.pinned (.plain (OpenSpec.upto posetPartsSpec)) posetPartsUptoCard
end Rows
end Go.Proofs.YtplgcbhaolapmaaDoor
