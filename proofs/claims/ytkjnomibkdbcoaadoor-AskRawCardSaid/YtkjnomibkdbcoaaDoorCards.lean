/-
  DERIVED. GIVEN WITH THE SEED: THE CARDS: each row of YtkjnomibkdbcoaaDoorRows.lean that lists a variable, with what it lists TIED to the program's text (the seventh form; the later family's looks); each row that meets fmt, with fmt's text TOLD by the authors' own Lean function (tested against real Go, not proved from fmt's source: count such statements apart). THE CARD IS WHAT COUNTS. Prove the row's statement (the work); the ties are given (YtkjnomibkdbcoaaDoorTie.lean); close each card by the builder's one call (the guide's Derived/Test/ToyasCard.lean, 'card_holds'). Laid BY PROGRAM, IN A SANDBOX (cutbox-door.mjs). By AI agents, Wed Nov 11 2026. No macro, syntax, notation, axiom, sorry.
-/
import Derived.Test.YtkjnomibkdbcoaaDoorRows
import GoSem.ClaimSeven
namespace Go.Proofs.YtkjnomibkdbcoaaDoor
namespace Rows

/-- THE TIED CARD OF 'copselaw11.AskRuns'. -/
def askRunsCard : Claim7 := { stood := { row := askRunsRow, standIns := [], harness := (true, "19937185d6e42056c2d18ecbc2cf57a1d17c6dd74d16786a02dfa789145a1adc"), looks := true }, kinds := [], alts := [], laidByText := true, laidKinds := [.data, .data, .data, .data, .sentinel, .sentinel, .pinned], laidTests := true, laidLooks := .later }
def AskRunsCardSaid : Prop := Claim7.holds Tryd.pinned (.plain (OpenSpec.ofChange askRunsSpec)) askRunsCard

/-- THE TIED CARD OF 'copselaw11.AskRaw'. -/
def askRawCard : Claim7 := { stood := { row := askRawRow, standIns := [], harness := (true, "19937185d6e42056c2d18ecbc2cf57a1d17c6dd74d16786a02dfa789145a1adc"), looks := true }, kinds := [], alts := [], laidByText := true, laidKinds := [.data, .data, .data, .data, .sentinel, .sentinel, .pinned], laidTests := true, laidLooks := .later }
def AskRawCardSaid : Prop := Claim7.holds Tryd.pinned (.plain (OpenSpec.ofChange askRawSpec)) askRawCard

/-- THE SECOND FORM's CARD OF 'copselaw11.AskRuns'. -/
def askRunsUptoCard : Claim7 := { stood := { row := askRunsUptoRow, standIns := [], harness := (true, "19937185d6e42056c2d18ecbc2cf57a1d17c6dd74d16786a02dfa789145a1adc"), looks := true }, kinds := [], alts := [], laidByText := true, laidKinds := [.data, .data, .data, .data, .sentinel, .sentinel, .pinned], laidTests := true, laidLooks := .later }
def AskRunsUptoCardSaid : Prop := Claim7.holds Tryd.pinned (.plain (OpenSpec.upto askRunsSpec)) askRunsUptoCard

/-- THE SECOND FORM's CARD OF 'copselaw11.AskRaw'. -/
def askRawUptoCard : Claim7 := { stood := { row := askRawUptoRow, standIns := [], harness := (true, "19937185d6e42056c2d18ecbc2cf57a1d17c6dd74d16786a02dfa789145a1adc"), looks := true }, kinds := [], alts := [], laidByText := true, laidKinds := [.data, .data, .data, .data, .sentinel, .sentinel, .pinned], laidTests := true, laidLooks := .later }
def AskRawUptoCardSaid : Prop := Claim7.holds Tryd.pinned (.plain (OpenSpec.upto askRawSpec)) askRawUptoCard
end Rows
end Go.Proofs.YtkjnomibkdbcoaaDoor
