/-
  DERIVED. GIVEN WITH THE SEED: THE CARDS: each row of YtodcjknicbmakaaDoorRows.lean that lists a variable, with what it lists TIED to the program's text (the seventh form; the later family's looks); each row that meets fmt, with fmt's text TOLD by the authors' own Lean function (tested against real Go, not proved from fmt's source: count such statements apart). THE CARD IS WHAT COUNTS. Prove the row's statement (the work); the ties are given (YtodcjknicbmakaaDoorTie.lean); close each card by the builder's one call (the guide's Derived/Test/ToyasCard.lean, 'card_holds'). Laid BY PROGRAM, IN A SANDBOX (cutbox-door.mjs). By AI agents, Wed Nov 11 2026. No macro, syntax, notation, axiom, sorry.
-/
import Derived.Test.YtodcjknicbmakaaDoorRows
import GoSem.ClaimSeven
namespace Go.Proofs.YtodcjknicbmakaaDoor
namespace Rows

/-- THE TIED CARD OF 'antecedelaw07.WidthTimesHeight'. -/
def widthTimesHeightCard : Claim7 := { stood := { row := widthTimesHeightRow, standIns := [], harness := (true, "14ca430e986f678c0ebb024aa76544109e6f63da1f488375ebf1148de001b7d3"), looks := false }, kinds := [], alts := [], laidByText := true, laidKinds := [.data], laidTests := true, laidLooks := .later }
def WidthTimesHeightCardSaid : Prop := Claim7.holds Tryd.pinned (.plain (OpenSpec.ofChange widthTimesHeightSpec)) widthTimesHeightCard

/-- THE TIED CARD OF 'antecedelaw07.WidthChecks'. -/
def widthChecksCard : Claim7 := { stood := { row := widthChecksRow, standIns := [], harness := (true, "14ca430e986f678c0ebb024aa76544109e6f63da1f488375ebf1148de001b7d3"), looks := false }, kinds := [], alts := [], laidByText := true, laidKinds := [.data], laidTests := true, laidLooks := .later }
def WidthChecksCardSaid : Prop := Claim7.holds Tryd.pinned (.plain (OpenSpec.ofChange widthChecksSpec)) widthChecksCard

/-- THE TIED CARD OF 'antecedelaw07.WidthDual'. -/
def widthDualCard : Claim7 := { stood := { row := widthDualRow, standIns := [], harness := (true, "14ca430e986f678c0ebb024aa76544109e6f63da1f488375ebf1148de001b7d3"), looks := false }, kinds := [], alts := [], laidByText := true, laidKinds := [.data], laidTests := true, laidLooks := .later }
def WidthDualCardSaid : Prop := Claim7.holds Tryd.pinned (.plain (OpenSpec.ofChange widthDualSpec)) widthDualCard

/-- THE TIED CARD OF 'antecedelaw07.WidthNumbers'. -/
def widthNumbersCard : Claim7 := { stood := { row := widthNumbersRow, standIns := [], harness := (true, "14ca430e986f678c0ebb024aa76544109e6f63da1f488375ebf1148de001b7d3"), looks := false }, kinds := [], alts := [], laidByText := true, laidKinds := [.data], laidTests := true, laidLooks := .later }
def WidthNumbersCardSaid : Prop := Claim7.holds Tryd.pinned (.plain (OpenSpec.ofChange widthNumbersSpec)) widthNumbersCard

/-- THE TIED CARD OF 'antecedelaw07.WidthDilworth'. -/
def widthDilworthCard : Claim7 := { stood := { row := widthDilworthRow, standIns := [], harness := (true, "14ca430e986f678c0ebb024aa76544109e6f63da1f488375ebf1148de001b7d3"), looks := false }, kinds := [], alts := [], laidByText := true, laidKinds := [.data], laidTests := true, laidLooks := .later }
def WidthDilworthCardSaid : Prop := Claim7.holds Tryd.pinned (.plain (OpenSpec.ofChange widthDilworthSpec)) widthDilworthCard

/-- THE SECOND FORM's CARD OF 'antecedelaw07.WidthTimesHeight'. -/
def widthTimesHeightUptoCard : Claim7 := { stood := { row := widthTimesHeightUptoRow, standIns := [], harness := (true, "14ca430e986f678c0ebb024aa76544109e6f63da1f488375ebf1148de001b7d3"), looks := false }, kinds := [], alts := [], laidByText := true, laidKinds := [.data], laidTests := true, laidLooks := .later }
def WidthTimesHeightUptoCardSaid : Prop := Claim7.holds Tryd.pinned (.plain (OpenSpec.upto widthTimesHeightSpec)) widthTimesHeightUptoCard

/-- THE SECOND FORM's CARD OF 'antecedelaw07.WidthChecks'. -/
def widthChecksUptoCard : Claim7 := { stood := { row := widthChecksUptoRow, standIns := [], harness := (true, "14ca430e986f678c0ebb024aa76544109e6f63da1f488375ebf1148de001b7d3"), looks := false }, kinds := [], alts := [], laidByText := true, laidKinds := [.data], laidTests := true, laidLooks := .later }
def WidthChecksUptoCardSaid : Prop := Claim7.holds Tryd.pinned (.plain (OpenSpec.upto widthChecksSpec)) widthChecksUptoCard

/-- THE SECOND FORM's CARD OF 'antecedelaw07.WidthDual'. -/
def widthDualUptoCard : Claim7 := { stood := { row := widthDualUptoRow, standIns := [], harness := (true, "14ca430e986f678c0ebb024aa76544109e6f63da1f488375ebf1148de001b7d3"), looks := false }, kinds := [], alts := [], laidByText := true, laidKinds := [.data], laidTests := true, laidLooks := .later }
def WidthDualUptoCardSaid : Prop := Claim7.holds Tryd.pinned (.plain (OpenSpec.upto widthDualSpec)) widthDualUptoCard

/-- THE SECOND FORM's CARD OF 'antecedelaw07.WidthNumbers'. -/
def widthNumbersUptoCard : Claim7 := { stood := { row := widthNumbersUptoRow, standIns := [], harness := (true, "14ca430e986f678c0ebb024aa76544109e6f63da1f488375ebf1148de001b7d3"), looks := false }, kinds := [], alts := [], laidByText := true, laidKinds := [.data], laidTests := true, laidLooks := .later }
def WidthNumbersUptoCardSaid : Prop := Claim7.holds Tryd.pinned (.plain (OpenSpec.upto widthNumbersSpec)) widthNumbersUptoCard

/-- THE SECOND FORM's CARD OF 'antecedelaw07.WidthDilworth'. -/
def widthDilworthUptoCard : Claim7 := { stood := { row := widthDilworthUptoRow, standIns := [], harness := (true, "14ca430e986f678c0ebb024aa76544109e6f63da1f488375ebf1148de001b7d3"), looks := false }, kinds := [], alts := [], laidByText := true, laidKinds := [.data], laidTests := true, laidLooks := .later }
def WidthDilworthUptoCardSaid : Prop := Claim7.holds Tryd.pinned (.plain (OpenSpec.upto widthDilworthSpec)) widthDilworthUptoCard
end Rows
end Go.Proofs.YtodcjknicbmakaaDoor
