/-
  DERIVED. GIVEN WITH THE SEED: THE CARDS: each row of YtcnldaccdojdkaaDoorRows.lean that lists a variable, with what it lists TIED to the program's text (the seventh form; the later family's looks); each row that meets fmt, with fmt's text TOLD by the authors' own Lean function (tested against real Go, not proved from fmt's source: count such statements apart). THE CARD IS WHAT COUNTS. Prove the row's statement (the work); the ties are given (YtcnldaccdojdkaaDoorTie.lean); close each card by the builder's one call (the guide's Derived/Test/ToyasCard.lean, 'card_holds'). Laid BY PROGRAM, IN A SANDBOX (cutbox-door.mjs). By AI agents, Wed Nov 11 2026. No macro, syntax, notation, axiom, sorry.
-/
import Derived.Test.YtcnldaccdojdkaaDoorRows
import GoSem.ClaimSeven
namespace Go.Proofs.YtcnldaccdojdkaaDoor
namespace Rows

/-- THE TIED CARD OF 'antecedelaw09.DimensionChecks'. -/
def dimensionChecksCard : Claim7 := { stood := { row := dimensionChecksRow, standIns := [], harness := (true, "c7933b8ecebf929fa848b954d287a500c932d918299249ebee31a97277dd07c8"), looks := false }, kinds := [], alts := [], laidByText := true, laidKinds := [.data], laidTests := true, laidLooks := .later }
def DimensionChecksCardSaid : Prop := Claim7.holds Tryd.pinned (.plain (OpenSpec.ofChange dimensionChecksSpec)) dimensionChecksCard

/-- THE TIED CARD OF 'antecedelaw09.DimensionReverses'. -/
def dimensionReversesCard : Claim7 := { stood := { row := dimensionReversesRow, standIns := [], harness := (true, "c7933b8ecebf929fa848b954d287a500c932d918299249ebee31a97277dd07c8"), looks := false }, kinds := [], alts := [], laidByText := true, laidKinds := [.data], laidTests := true, laidLooks := .later }
def DimensionReversesCardSaid : Prop := Claim7.holds Tryd.pinned (.plain (OpenSpec.ofChange dimensionReversesSpec)) dimensionReversesCard

/-- THE TIED CARD OF 'antecedelaw09.DimensionFinds'. -/
def dimensionFindsCard : Claim7 := { stood := { row := dimensionFindsRow, standIns := [], harness := (true, "c7933b8ecebf929fa848b954d287a500c932d918299249ebee31a97277dd07c8"), looks := false }, kinds := [], alts := [], laidByText := true, laidKinds := [.data], laidTests := true, laidLooks := .later }
def DimensionFindsCardSaid : Prop := Claim7.holds Tryd.pinned (.plain (OpenSpec.ofChange dimensionFindsSpec)) dimensionFindsCard

/-- THE TIED CARD OF 'antecedelaw09.DimensionStandard'. -/
def dimensionStandardCard : Claim7 := { stood := { row := dimensionStandardRow, standIns := [], harness := (true, "c7933b8ecebf929fa848b954d287a500c932d918299249ebee31a97277dd07c8"), looks := false }, kinds := [], alts := [], laidByText := true, laidKinds := [.data], laidTests := true, laidLooks := .later }
def DimensionStandardCardSaid : Prop := Claim7.holds Tryd.pinned (.plain (OpenSpec.ofChange dimensionStandardSpec)) dimensionStandardCard

/-- THE TIED CARD OF 'antecedelaw09.DimensionBounds'. -/
def dimensionBoundsCard : Claim7 := { stood := { row := dimensionBoundsRow, standIns := [], harness := (true, "c7933b8ecebf929fa848b954d287a500c932d918299249ebee31a97277dd07c8"), looks := false }, kinds := [], alts := [], laidByText := true, laidKinds := [.data], laidTests := true, laidLooks := .later }
def DimensionBoundsCardSaid : Prop := Claim7.holds Tryd.pinned (.plain (OpenSpec.ofChange dimensionBoundsSpec)) dimensionBoundsCard

/-- THE TIED CARD OF 'antecedelaw09.DimensionLeast'. -/
def dimensionLeastCard : Claim7 := { stood := { row := dimensionLeastRow, standIns := [], harness := (true, "c7933b8ecebf929fa848b954d287a500c932d918299249ebee31a97277dd07c8"), looks := false }, kinds := [], alts := [], laidByText := true, laidKinds := [.data], laidTests := true, laidLooks := .later }
def DimensionLeastCardSaid : Prop := Claim7.holds Tryd.pinned (.plain (OpenSpec.ofChange dimensionLeastSpec)) dimensionLeastCard

/-- THE TIED CARD OF 'antecedelaw09.DimensionCritical'. -/
def dimensionCriticalCard : Claim7 := { stood := { row := dimensionCriticalRow, standIns := [], harness := (true, "c7933b8ecebf929fa848b954d287a500c932d918299249ebee31a97277dd07c8"), looks := false }, kinds := [], alts := [], laidByText := true, laidKinds := [.data], laidTests := true, laidLooks := .later }
def DimensionCriticalCardSaid : Prop := Claim7.holds Tryd.pinned (.plain (OpenSpec.ofChange dimensionCriticalSpec)) dimensionCriticalCard

/-- THE SECOND FORM's CARD OF 'antecedelaw09.DimensionChecks'. -/
def dimensionChecksUptoCard : Claim7 := { stood := { row := dimensionChecksUptoRow, standIns := [], harness := (true, "c7933b8ecebf929fa848b954d287a500c932d918299249ebee31a97277dd07c8"), looks := false }, kinds := [], alts := [], laidByText := true, laidKinds := [.data], laidTests := true, laidLooks := .later }
def DimensionChecksUptoCardSaid : Prop := Claim7.holds Tryd.pinned (.plain (OpenSpec.upto dimensionChecksSpec)) dimensionChecksUptoCard

/-- THE SECOND FORM's CARD OF 'antecedelaw09.DimensionReverses'. -/
def dimensionReversesUptoCard : Claim7 := { stood := { row := dimensionReversesUptoRow, standIns := [], harness := (true, "c7933b8ecebf929fa848b954d287a500c932d918299249ebee31a97277dd07c8"), looks := false }, kinds := [], alts := [], laidByText := true, laidKinds := [.data], laidTests := true, laidLooks := .later }
def DimensionReversesUptoCardSaid : Prop := Claim7.holds Tryd.pinned (.plain (OpenSpec.upto dimensionReversesSpec)) dimensionReversesUptoCard

/-- THE SECOND FORM's CARD OF 'antecedelaw09.DimensionFinds'. -/
def dimensionFindsUptoCard : Claim7 := { stood := { row := dimensionFindsUptoRow, standIns := [], harness := (true, "c7933b8ecebf929fa848b954d287a500c932d918299249ebee31a97277dd07c8"), looks := false }, kinds := [], alts := [], laidByText := true, laidKinds := [.data], laidTests := true, laidLooks := .later }
def DimensionFindsUptoCardSaid : Prop := Claim7.holds Tryd.pinned (.plain (OpenSpec.upto dimensionFindsSpec)) dimensionFindsUptoCard

/-- THE SECOND FORM's CARD OF 'antecedelaw09.DimensionStandard'. -/
def dimensionStandardUptoCard : Claim7 := { stood := { row := dimensionStandardUptoRow, standIns := [], harness := (true, "c7933b8ecebf929fa848b954d287a500c932d918299249ebee31a97277dd07c8"), looks := false }, kinds := [], alts := [], laidByText := true, laidKinds := [.data], laidTests := true, laidLooks := .later }
def DimensionStandardUptoCardSaid : Prop := Claim7.holds Tryd.pinned (.plain (OpenSpec.upto dimensionStandardSpec)) dimensionStandardUptoCard

/-- THE SECOND FORM's CARD OF 'antecedelaw09.DimensionBounds'. -/
def dimensionBoundsUptoCard : Claim7 := { stood := { row := dimensionBoundsUptoRow, standIns := [], harness := (true, "c7933b8ecebf929fa848b954d287a500c932d918299249ebee31a97277dd07c8"), looks := false }, kinds := [], alts := [], laidByText := true, laidKinds := [.data], laidTests := true, laidLooks := .later }
def DimensionBoundsUptoCardSaid : Prop := Claim7.holds Tryd.pinned (.plain (OpenSpec.upto dimensionBoundsSpec)) dimensionBoundsUptoCard

/-- THE SECOND FORM's CARD OF 'antecedelaw09.DimensionLeast'. -/
def dimensionLeastUptoCard : Claim7 := { stood := { row := dimensionLeastUptoRow, standIns := [], harness := (true, "c7933b8ecebf929fa848b954d287a500c932d918299249ebee31a97277dd07c8"), looks := false }, kinds := [], alts := [], laidByText := true, laidKinds := [.data], laidTests := true, laidLooks := .later }
def DimensionLeastUptoCardSaid : Prop := Claim7.holds Tryd.pinned (.plain (OpenSpec.upto dimensionLeastSpec)) dimensionLeastUptoCard

/-- THE SECOND FORM's CARD OF 'antecedelaw09.DimensionCritical'. -/
def dimensionCriticalUptoCard : Claim7 := { stood := { row := dimensionCriticalUptoRow, standIns := [], harness := (true, "c7933b8ecebf929fa848b954d287a500c932d918299249ebee31a97277dd07c8"), looks := false }, kinds := [], alts := [], laidByText := true, laidKinds := [.data], laidTests := true, laidLooks := .later }
def DimensionCriticalUptoCardSaid : Prop := Claim7.holds Tryd.pinned (.plain (OpenSpec.upto dimensionCriticalSpec)) dimensionCriticalUptoCard
end Rows
end Go.Proofs.YtcnldaccdojdkaaDoor
