/-
  DERIVED. GIVEN WITH THE SEED: THE CARDS: each row of YtddhdnbgagcfjaaDoorRows.lean that lists a variable, with what it lists TIED to the program's text (the seventh form; the later family's looks); each row that meets fmt, with fmt's text TOLD by the authors' own Lean function (tested against real Go, not proved from fmt's source: count such statements apart). THE CARD IS WHAT COUNTS. Prove the row's statement (the work); the ties are given (YtddhdnbgagcfjaaDoorTie.lean); close each card by the builder's one call (the guide's Derived/Test/ToyasCard.lean, 'card_holds'). Laid BY PROGRAM, IN A SANDBOX (cutbox-door.mjs). By AI agents, Wed Nov 11 2026. No macro, syntax, notation, axiom, sorry.
-/
import Derived.Test.YtddhdnbgagcfjaaDoorRows
import GoSem.ClaimSeven
namespace Go.Proofs.YtddhdnbgagcfjaaDoor
namespace Rows

/-- THE TIED CARD OF 'copselaw20.CertLines'. -/
def certLinesCard : Claim7 := { stood := { row := certLinesRow, standIns := [], harness := (true, "0d722516a96829e7dd9f9c8a6ab62004f4b58c90c24ccdb75a3b7907b32b04f7"), looks := true }, kinds := [], alts := [], laidByText := true, laidKinds := [.data, .data, .data, .data, .sentinel, .sentinel, .pinned], laidTests := true, laidLooks := .later }
def CertLinesCardSaid : Prop := Claim7.holds Tryd.pinned (.plain (OpenSpec.ofChange certLinesSpec)) certLinesCard

/-- THE SECOND FORM's CARD OF 'copselaw20.CertLines'. -/
def certLinesUptoCard : Claim7 := { stood := { row := certLinesUptoRow, standIns := [], harness := (true, "0d722516a96829e7dd9f9c8a6ab62004f4b58c90c24ccdb75a3b7907b32b04f7"), looks := true }, kinds := [], alts := [], laidByText := true, laidKinds := [.data, .data, .data, .data, .sentinel, .sentinel, .pinned], laidTests := true, laidLooks := .later }
def CertLinesUptoCardSaid : Prop := Claim7.holds Tryd.pinned (.plain (OpenSpec.upto certLinesSpec)) certLinesUptoCard
end Rows
end Go.Proofs.YtddhdnbgagcfjaaDoor
