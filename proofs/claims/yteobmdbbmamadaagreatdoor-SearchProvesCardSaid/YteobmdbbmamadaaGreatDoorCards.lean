/-
  DERIVED. GIVEN WITH THE SEED: THE CARDS: each row of YteobmdbbmamadaaGreatDoorRows.lean that lists a variable, with what it lists TIED to the program's text (the seventh form; the later family's looks); each row that meets fmt, with fmt's text TOLD by the authors' own Lean function (tested against real Go, not proved from fmt's source: count such statements apart). THE CARD IS WHAT COUNTS. Prove the row's statement (the work); the ties are given (YteobmdbbmamadaaGreatDoorTie.lean); close each card by the builder's one call (the guide's Derived/Test/ToyasCard.lean, 'card_holds'). Laid BY PROGRAM, IN A SANDBOX (cutbox-door.mjs). By AI agents, Wed Nov 11 2026. No macro, syntax, notation, axiom, sorry.
-/
import Derived.Test.YteobmdbbmamadaaGreatDoorRows
import GoSem.ClaimSeven
namespace Go.Proofs.YteobmdbbmamadaaGreatDoor
namespace Rows

/-- THE TIED CARD OF 'copselaw22.SearchProves'. -/
def searchProvesCard : Claim7 := { stood := { row := searchProvesRow, standIns := [], harness := (true, "53279c289ea831602b223efe7ea1d8274a881365a7bab580e84b367af5219e3a"), looks := true }, kinds := [], alts := [], laidByText := true, laidKinds := [.data, .data, .data, .data, .sentinel, .sentinel, .pinned], laidTests := true, laidLooks := .later }
def SearchProvesCardSaid : Prop := Claim7.holds Tryz.pinned (.plain (OpenSpec.ofChange searchProvesSpec)) searchProvesCard

/-- THE SECOND FORM's CARD OF 'copselaw22.SearchProves'. -/
def searchProvesUptoCard : Claim7 := { stood := { row := searchProvesUptoRow, standIns := [], harness := (true, "53279c289ea831602b223efe7ea1d8274a881365a7bab580e84b367af5219e3a"), looks := true }, kinds := [], alts := [], laidByText := true, laidKinds := [.data, .data, .data, .data, .sentinel, .sentinel, .pinned], laidTests := true, laidLooks := .later }
def SearchProvesUptoCardSaid : Prop := Claim7.holds Tryz.pinned (.plain (OpenSpec.upto searchProvesSpec)) searchProvesUptoCard
end Rows
end Go.Proofs.YteobmdbbmamadaaGreatDoor
