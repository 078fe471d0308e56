/-
  DERIVED. GIVEN WITH THE SEED: THE CARDS: each row of YtbhpdofmcbhbfaaGreatDoorRows.lean that lists a variable, with what it lists TIED to the program's text (the seventh form; the later family's looks); each row that meets fmt, with fmt's text TOLD by the authors' own Lean function (tested against real Go, not proved from fmt's source: count such statements apart). THE CARD IS WHAT COUNTS. Prove the row's statement (the work); the ties are given (YtbhpdofmcbhbfaaGreatDoorTie.lean); close each card by the builder's one call (the guide's Derived/Test/ToyasCard.lean, 'card_holds'). Laid BY PROGRAM, IN A SANDBOX (cutbox-door.mjs). By AI agents, Wed Nov 11 2026. No macro, syntax, notation, axiom, sorry.
-/
import Derived.Test.YtbhpdofmcbhbfaaGreatDoorRows
import GoSem.ClaimSeven
namespace Go.Proofs.YtbhpdofmcbhbfaaGreatDoor
namespace Rows

/-- THE TIED CARD OF 'copselaw9.TextRuns'. -/
def textRunsCard : Claim7 := { stood := { row := textRunsRow, standIns := [], harness := (true, "3bf0c58bf0f18b276d690fd2e20620845a768755bd9998b92bdcfd510caf9221"), looks := true }, kinds := [], alts := [], laidByText := true, laidKinds := [.data, .data, .data, .data, .sentinel, .sentinel, .pinned], laidTests := true, laidLooks := .later }
def TextRunsCardSaid : Prop := Claim7.holds Tryz.pinned (.plain (OpenSpec.ofChange textRunsSpec)) textRunsCard

/-- THE TIED CARD OF 'copselaw9.TextTells'. -/
def textTellsCard : Claim7 := { stood := { row := textTellsRow, standIns := [], harness := (true, "3bf0c58bf0f18b276d690fd2e20620845a768755bd9998b92bdcfd510caf9221"), looks := true }, kinds := [], alts := [], laidByText := true, laidKinds := [.data, .data, .data, .data, .sentinel, .sentinel, .pinned], laidTests := true, laidLooks := .later }
def TextTellsCardSaid : Prop := Claim7.holds Tryz.pinned (.plain (OpenSpec.ofChange textTellsSpec)) textTellsCard

/-- THE TIED CARD OF 'copselaw9.TextBack'. -/
def textBackCard : Claim7 := { stood := { row := textBackRow, standIns := [], harness := (true, "3bf0c58bf0f18b276d690fd2e20620845a768755bd9998b92bdcfd510caf9221"), looks := true }, kinds := [], alts := [], laidByText := true, laidKinds := [.data, .data, .data, .data, .sentinel, .sentinel, .pinned], laidTests := true, laidLooks := .later }
def TextBackCardSaid : Prop := Claim7.holds Tryz.pinned (.plain (OpenSpec.ofChange textBackSpec)) textBackCard

/-- THE TIED CARD OF 'copselaw9.TextOnly'. -/
def textOnlyCard : Claim7 := { stood := { row := textOnlyRow, standIns := [], harness := (true, "3bf0c58bf0f18b276d690fd2e20620845a768755bd9998b92bdcfd510caf9221"), looks := true }, kinds := [], alts := [], laidByText := true, laidKinds := [.data, .data, .data, .data, .sentinel, .sentinel, .pinned], laidTests := true, laidLooks := .later }
def TextOnlyCardSaid : Prop := Claim7.holds Tryz.pinned (.plain (OpenSpec.ofChange textOnlySpec)) textOnlyCard

/-- THE TIED CARD OF 'copselaw9.TextLines'. -/
def textLinesCard : Claim7 := { stood := { row := textLinesRow, standIns := [], harness := (true, "3bf0c58bf0f18b276d690fd2e20620845a768755bd9998b92bdcfd510caf9221"), looks := true }, kinds := [], alts := [], laidByText := true, laidKinds := [.data, .data, .data, .data, .sentinel, .sentinel, .pinned], laidTests := true, laidLooks := .later }
def TextLinesCardSaid : Prop := Claim7.holds Tryz.pinned (.plain (OpenSpec.ofChange textLinesSpec)) textLinesCard

/-- THE SECOND FORM's CARD OF 'copselaw9.TextRuns'. -/
def textRunsUptoCard : Claim7 := { stood := { row := textRunsUptoRow, standIns := [], harness := (true, "3bf0c58bf0f18b276d690fd2e20620845a768755bd9998b92bdcfd510caf9221"), looks := true }, kinds := [], alts := [], laidByText := true, laidKinds := [.data, .data, .data, .data, .sentinel, .sentinel, .pinned], laidTests := true, laidLooks := .later }
def TextRunsUptoCardSaid : Prop := Claim7.holds Tryz.pinned (.plain (OpenSpec.upto textRunsSpec)) textRunsUptoCard

/-- THE SECOND FORM's CARD OF 'copselaw9.TextTells'. -/
def textTellsUptoCard : Claim7 := { stood := { row := textTellsUptoRow, standIns := [], harness := (true, "3bf0c58bf0f18b276d690fd2e20620845a768755bd9998b92bdcfd510caf9221"), looks := true }, kinds := [], alts := [], laidByText := true, laidKinds := [.data, .data, .data, .data, .sentinel, .sentinel, .pinned], laidTests := true, laidLooks := .later }
def TextTellsUptoCardSaid : Prop := Claim7.holds Tryz.pinned (.plain (OpenSpec.upto textTellsSpec)) textTellsUptoCard

/-- THE SECOND FORM's CARD OF 'copselaw9.TextBack'. -/
def textBackUptoCard : Claim7 := { stood := { row := textBackUptoRow, standIns := [], harness := (true, "3bf0c58bf0f18b276d690fd2e20620845a768755bd9998b92bdcfd510caf9221"), looks := true }, kinds := [], alts := [], laidByText := true, laidKinds := [.data, .data, .data, .data, .sentinel, .sentinel, .pinned], laidTests := true, laidLooks := .later }
def TextBackUptoCardSaid : Prop := Claim7.holds Tryz.pinned (.plain (OpenSpec.upto textBackSpec)) textBackUptoCard

/-- THE SECOND FORM's CARD OF 'copselaw9.TextOnly'. -/
def textOnlyUptoCard : Claim7 := { stood := { row := textOnlyUptoRow, standIns := [], harness := (true, "3bf0c58bf0f18b276d690fd2e20620845a768755bd9998b92bdcfd510caf9221"), looks := true }, kinds := [], alts := [], laidByText := true, laidKinds := [.data, .data, .data, .data, .sentinel, .sentinel, .pinned], laidTests := true, laidLooks := .later }
def TextOnlyUptoCardSaid : Prop := Claim7.holds Tryz.pinned (.plain (OpenSpec.upto textOnlySpec)) textOnlyUptoCard

/-- THE SECOND FORM's CARD OF 'copselaw9.TextLines'. -/
def textLinesUptoCard : Claim7 := { stood := { row := textLinesUptoRow, standIns := [], harness := (true, "3bf0c58bf0f18b276d690fd2e20620845a768755bd9998b92bdcfd510caf9221"), looks := true }, kinds := [], alts := [], laidByText := true, laidKinds := [.data, .data, .data, .data, .sentinel, .sentinel, .pinned], laidTests := true, laidLooks := .later }
def TextLinesUptoCardSaid : Prop := Claim7.holds Tryz.pinned (.plain (OpenSpec.upto textLinesSpec)) textLinesUptoCard
end Rows
end Go.Proofs.YtbhpdofmcbhbfaaGreatDoor
