/-
  DERIVED. GIVEN WITH THE SEED: THE CARDS: each row of YtkjnomibkdbcoaaGreatDoorRows.lean that lists a variable, with what it lists TIED to the program's text (the seventh form; the later family's looks); each row that meets fmt, with fmt's text TOLD by the authors' own Lean function (tested against real Go, not proved from fmt's source: count such statements apart). THE CARD IS WHAT COUNTS. Prove the row's statement (the work); the ties are given (YtkjnomibkdbcoaaGreatDoorTie.lean); close each card by the builder's one call (the guide's Derived/Test/ToyasCard.lean, 'card_holds'). Laid BY PROGRAM, IN A SANDBOX (cutbox-door.mjs). By AI agents, Wed Nov 11 2026. No macro, syntax, notation, axiom, sorry.
-/
import Derived.Test.YtkjnomibkdbcoaaGreatDoorRows
import GoSem.ClaimSeven
namespace Go.Proofs.YtkjnomibkdbcoaaGreatDoor
namespace Rows

/-- THE TIED CARD OF 'copselaw11.AskBack'. -/
def askBackCard : Claim7 := { stood := { row := askBackRow, standIns := [], harness := (true, "23f53453403962b1b2cf77f562e973d1fd11999960c0216ba42094e91fc00ab6"), looks := true }, kinds := [], alts := [], laidByText := true, laidKinds := [.data, .data, .data, .data, .sentinel, .sentinel, .pinned], laidTests := true, laidLooks := .later }
def AskBackCardSaid : Prop := Claim7.holds Tryz.pinned (.plain (OpenSpec.ofChange askBackSpec)) askBackCard

/-- THE TIED CARD OF 'copselaw11.AskOnly'. -/
def askOnlyCard : Claim7 := { stood := { row := askOnlyRow, standIns := [], harness := (true, "23f53453403962b1b2cf77f562e973d1fd11999960c0216ba42094e91fc00ab6"), looks := true }, kinds := [], alts := [], laidByText := true, laidKinds := [.data, .data, .data, .data, .sentinel, .sentinel, .pinned], laidTests := true, laidLooks := .later }
def AskOnlyCardSaid : Prop := Claim7.holds Tryz.pinned (.plain (OpenSpec.ofChange askOnlySpec)) askOnlyCard

/-- THE TIED CARD OF 'copselaw11.AskKinds'. -/
def askKindsCard : Claim7 := { stood := { row := askKindsRow, standIns := [], harness := (true, "23f53453403962b1b2cf77f562e973d1fd11999960c0216ba42094e91fc00ab6"), looks := true }, kinds := [], alts := [], laidByText := true, laidKinds := [.data, .data, .data, .data, .sentinel, .sentinel, .pinned], laidTests := true, laidLooks := .later }
def AskKindsCardSaid : Prop := Claim7.holds Tryz.pinned (.plain (OpenSpec.ofChange askKindsSpec)) askKindsCard

/-- THE SECOND FORM's CARD OF 'copselaw11.AskBack'. -/
def askBackUptoCard : Claim7 := { stood := { row := askBackUptoRow, standIns := [], harness := (true, "23f53453403962b1b2cf77f562e973d1fd11999960c0216ba42094e91fc00ab6"), looks := true }, kinds := [], alts := [], laidByText := true, laidKinds := [.data, .data, .data, .data, .sentinel, .sentinel, .pinned], laidTests := true, laidLooks := .later }
def AskBackUptoCardSaid : Prop := Claim7.holds Tryz.pinned (.plain (OpenSpec.upto askBackSpec)) askBackUptoCard

/-- THE SECOND FORM's CARD OF 'copselaw11.AskOnly'. -/
def askOnlyUptoCard : Claim7 := { stood := { row := askOnlyUptoRow, standIns := [], harness := (true, "23f53453403962b1b2cf77f562e973d1fd11999960c0216ba42094e91fc00ab6"), looks := true }, kinds := [], alts := [], laidByText := true, laidKinds := [.data, .data, .data, .data, .sentinel, .sentinel, .pinned], laidTests := true, laidLooks := .later }
def AskOnlyUptoCardSaid : Prop := Claim7.holds Tryz.pinned (.plain (OpenSpec.upto askOnlySpec)) askOnlyUptoCard

/-- THE SECOND FORM's CARD OF 'copselaw11.AskKinds'. -/
def askKindsUptoCard : Claim7 := { stood := { row := askKindsUptoRow, standIns := [], harness := (true, "23f53453403962b1b2cf77f562e973d1fd11999960c0216ba42094e91fc00ab6"), looks := true }, kinds := [], alts := [], laidByText := true, laidKinds := [.data, .data, .data, .data, .sentinel, .sentinel, .pinned], laidTests := true, laidLooks := .later }
def AskKindsUptoCardSaid : Prop := Claim7.holds Tryz.pinned (.plain (OpenSpec.upto askKindsSpec)) askKindsUptoCard
end Rows
end Go.Proofs.YtkjnomibkdbcoaaGreatDoor
