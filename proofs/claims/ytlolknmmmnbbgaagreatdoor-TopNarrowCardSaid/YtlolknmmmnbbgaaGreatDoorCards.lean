/-
  DERIVED. GIVEN WITH THE SEED: THE CARDS: each row of YtlolknmmmnbbgaaGreatDoorRows.lean that lists a variable, with what it lists TIED to the program's text (the seventh form; the later family's looks); each row that meets fmt, with fmt's text TOLD by the authors' own Lean function (tested against real Go, not proved from fmt's source: count such statements apart). THE CARD IS WHAT COUNTS. Prove the row's statement (the work); the ties are given (YtlolknmmmnbbgaaGreatDoorTie.lean); close each card by the builder's one call (the guide's Derived/Test/ToyasCard.lean, 'card_holds'). Laid BY PROGRAM, IN A SANDBOX (cutbox-door.mjs). By AI agents, Wed Nov 11 2026. No macro, syntax, notation, axiom, sorry.
-/
import Derived.Test.YtlolknmmmnbbgaaGreatDoorRows
import GoSem.ClaimSeven
namespace Go.Proofs.YtlolknmmmnbbgaaGreatDoor
namespace Rows

/-- THE TIED CARD OF 'copsetop.TopNarrow'. -/
def topNarrowCard : Claim7 := { stood := { row := topNarrowRow, standIns := [], harness := (true, "af8418f9307dcc5ac0382e0ced658660f6cfe79dda61c51af0a5b395a8440dc9"), looks := true }, kinds := [], alts := [], laidByText := true, laidKinds := [.data, .data, .data, .data, .sentinel, .sentinel, .pinned], laidTests := true, laidLooks := .later }
def TopNarrowCardSaid : Prop := Claim7.holds Tryz.pinned (.plain (OpenSpec.ofChange topNarrowSpec)) topNarrowCard

/-- THE TIED CARD OF 'copsetop.TopRanges'. -/
def topRangesCard : Claim7 := { stood := { row := topRangesRow, standIns := [], harness := (true, "af8418f9307dcc5ac0382e0ced658660f6cfe79dda61c51af0a5b395a8440dc9"), looks := true }, kinds := [], alts := [], laidByText := true, laidKinds := [.data, .data, .data, .data, .sentinel, .sentinel, .pinned], laidTests := true, laidLooks := .later }
def TopRangesCardSaid : Prop := Claim7.holds Tryz.pinned (.plain (OpenSpec.ofChange topRangesSpec)) topRangesCard

/-- THE SECOND FORM's CARD OF 'copsetop.TopNarrow'. -/
def topNarrowUptoCard : Claim7 := { stood := { row := topNarrowUptoRow, standIns := [], harness := (true, "af8418f9307dcc5ac0382e0ced658660f6cfe79dda61c51af0a5b395a8440dc9"), looks := true }, kinds := [], alts := [], laidByText := true, laidKinds := [.data, .data, .data, .data, .sentinel, .sentinel, .pinned], laidTests := true, laidLooks := .later }
def TopNarrowUptoCardSaid : Prop := Claim7.holds Tryz.pinned (.plain (OpenSpec.upto topNarrowSpec)) topNarrowUptoCard

/-- THE SECOND FORM's CARD OF 'copsetop.TopRanges'. -/
def topRangesUptoCard : Claim7 := { stood := { row := topRangesUptoRow, standIns := [], harness := (true, "af8418f9307dcc5ac0382e0ced658660f6cfe79dda61c51af0a5b395a8440dc9"), looks := true }, kinds := [], alts := [], laidByText := true, laidKinds := [.data, .data, .data, .data, .sentinel, .sentinel, .pinned], laidTests := true, laidLooks := .later }
def TopRangesUptoCardSaid : Prop := Claim7.holds Tryz.pinned (.plain (OpenSpec.upto topRangesSpec)) topRangesUptoCard
end Rows
end Go.Proofs.YtlolknmmmnbbgaaGreatDoor
