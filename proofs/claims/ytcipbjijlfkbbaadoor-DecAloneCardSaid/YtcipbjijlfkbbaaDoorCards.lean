/-
  DERIVED. GIVEN WITH THE SEED: THE CARDS: each row of YtcipbjijlfkbbaaDoorRows.lean that lists a variable, with what it lists TIED to the program's text (the seventh form; the later family's looks); each row that meets fmt, with fmt's text TOLD by the authors' own Lean function (tested against real Go, not proved from fmt's source: count such statements apart). THE CARD IS WHAT COUNTS. Prove the row's statement (the work); the ties are given (YtcipbjijlfkbbaaDoorTie.lean); close each card by the builder's one call (the guide's Derived/Test/ToyasCard.lean, 'card_holds'). Laid BY PROGRAM, IN A SANDBOX (cutbox-door.mjs). By AI agents, Wed Nov 11 2026. No macro, syntax, notation, axiom, sorry.
-/
import Derived.Test.YtcipbjijlfkbbaaDoorRows
import GoSem.ClaimSeven
namespace Go.Proofs.YtcipbjijlfkbbaaDoor
namespace Rows

/-- THE TIED CARD OF 'copselaw3.DecRuns'. -/
def decRunsCard : Claim7 := { stood := { row := decRunsRow, standIns := [], harness := (true, "c4ff8750df2c882ad47b4d52764a436768c86be3b9f8c46d8709d5c8e100cf0c"), looks := true }, kinds := [], alts := [], laidByText := true, laidKinds := [.data, .data, .data, .data, .sentinel, .sentinel, .pinned], laidTests := true, laidLooks := .later }
def DecRunsCardSaid : Prop := Claim7.holds Tryd.pinned (.plain (OpenSpec.ofChange decRunsSpec)) decRunsCard

/-- THE TIED CARD OF 'copselaw3.DecTells'. -/
def decTellsCard : Claim7 := { stood := { row := decTellsRow, standIns := [], harness := (true, "c4ff8750df2c882ad47b4d52764a436768c86be3b9f8c46d8709d5c8e100cf0c"), looks := true }, kinds := [], alts := [], laidByText := true, laidKinds := [.data, .data, .data, .data, .sentinel, .sentinel, .pinned], laidTests := true, laidLooks := .later }
def DecTellsCardSaid : Prop := Claim7.holds Tryd.pinned (.plain (OpenSpec.ofChange decTellsSpec)) decTellsCard

/-- THE TIED CARD OF 'copselaw3.DecBack'. -/
def decBackCard : Claim7 := { stood := { row := decBackRow, standIns := [], harness := (true, "c4ff8750df2c882ad47b4d52764a436768c86be3b9f8c46d8709d5c8e100cf0c"), looks := true }, kinds := [], alts := [], laidByText := true, laidKinds := [.data, .data, .data, .data, .sentinel, .sentinel, .pinned], laidTests := true, laidLooks := .later }
def DecBackCardSaid : Prop := Claim7.holds Tryd.pinned (.plain (OpenSpec.ofChange decBackSpec)) decBackCard

/-- THE TIED CARD OF 'copselaw3.DecParts'. -/
def decPartsCard : Claim7 := { stood := { row := decPartsRow, standIns := [], harness := (true, "c4ff8750df2c882ad47b4d52764a436768c86be3b9f8c46d8709d5c8e100cf0c"), looks := true }, kinds := [], alts := [], laidByText := true, laidKinds := [.data, .data, .data, .data, .sentinel, .sentinel, .pinned], laidTests := true, laidLooks := .later }
def DecPartsCardSaid : Prop := Claim7.holds Tryd.pinned (.plain (OpenSpec.ofChange decPartsSpec)) decPartsCard

/-- THE TIED CARD OF 'copselaw3.DecAlone'. -/
def decAloneCard : Claim7 := { stood := { row := decAloneRow, standIns := [], harness := (true, "c4ff8750df2c882ad47b4d52764a436768c86be3b9f8c46d8709d5c8e100cf0c"), looks := true }, kinds := [], alts := [], laidByText := true, laidKinds := [.data, .data, .data, .data, .sentinel, .sentinel, .pinned], laidTests := true, laidLooks := .later }
def DecAloneCardSaid : Prop := Claim7.holds Tryd.pinned (.plain (OpenSpec.ofChange decAloneSpec)) decAloneCard

/-- THE SECOND FORM's CARD OF 'copselaw3.DecRuns'. -/
def decRunsUptoCard : Claim7 := { stood := { row := decRunsUptoRow, standIns := [], harness := (true, "c4ff8750df2c882ad47b4d52764a436768c86be3b9f8c46d8709d5c8e100cf0c"), looks := true }, kinds := [], alts := [], laidByText := true, laidKinds := [.data, .data, .data, .data, .sentinel, .sentinel, .pinned], laidTests := true, laidLooks := .later }
def DecRunsUptoCardSaid : Prop := Claim7.holds Tryd.pinned (.plain (OpenSpec.upto decRunsSpec)) decRunsUptoCard

/-- THE SECOND FORM's CARD OF 'copselaw3.DecTells'. -/
def decTellsUptoCard : Claim7 := { stood := { row := decTellsUptoRow, standIns := [], harness := (true, "c4ff8750df2c882ad47b4d52764a436768c86be3b9f8c46d8709d5c8e100cf0c"), looks := true }, kinds := [], alts := [], laidByText := true, laidKinds := [.data, .data, .data, .data, .sentinel, .sentinel, .pinned], laidTests := true, laidLooks := .later }
def DecTellsUptoCardSaid : Prop := Claim7.holds Tryd.pinned (.plain (OpenSpec.upto decTellsSpec)) decTellsUptoCard

/-- THE SECOND FORM's CARD OF 'copselaw3.DecBack'. -/
def decBackUptoCard : Claim7 := { stood := { row := decBackUptoRow, standIns := [], harness := (true, "c4ff8750df2c882ad47b4d52764a436768c86be3b9f8c46d8709d5c8e100cf0c"), looks := true }, kinds := [], alts := [], laidByText := true, laidKinds := [.data, .data, .data, .data, .sentinel, .sentinel, .pinned], laidTests := true, laidLooks := .later }
def DecBackUptoCardSaid : Prop := Claim7.holds Tryd.pinned (.plain (OpenSpec.upto decBackSpec)) decBackUptoCard

/-- THE SECOND FORM's CARD OF 'copselaw3.DecParts'. -/
def decPartsUptoCard : Claim7 := { stood := { row := decPartsUptoRow, standIns := [], harness := (true, "c4ff8750df2c882ad47b4d52764a436768c86be3b9f8c46d8709d5c8e100cf0c"), looks := true }, kinds := [], alts := [], laidByText := true, laidKinds := [.data, .data, .data, .data, .sentinel, .sentinel, .pinned], laidTests := true, laidLooks := .later }
def DecPartsUptoCardSaid : Prop := Claim7.holds Tryd.pinned (.plain (OpenSpec.upto decPartsSpec)) decPartsUptoCard

/-- THE SECOND FORM's CARD OF 'copselaw3.DecAlone'. -/
def decAloneUptoCard : Claim7 := { stood := { row := decAloneUptoRow, standIns := [], harness := (true, "c4ff8750df2c882ad47b4d52764a436768c86be3b9f8c46d8709d5c8e100cf0c"), looks := true }, kinds := [], alts := [], laidByText := true, laidKinds := [.data, .data, .data, .data, .sentinel, .sentinel, .pinned], laidTests := true, laidLooks := .later }
def DecAloneUptoCardSaid : Prop := Claim7.holds Tryd.pinned (.plain (OpenSpec.upto decAloneSpec)) decAloneUptoCard
end Rows
end Go.Proofs.YtcipbjijlfkbbaaDoor
