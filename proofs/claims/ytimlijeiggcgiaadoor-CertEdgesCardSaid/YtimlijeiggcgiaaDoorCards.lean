/-
  DERIVED. GIVEN WITH THE SEED: THE CARDS: each row of YtimlijeiggcgiaaDoorRows.lean that lists a variable, with what it lists TIED to the program's text (the seventh form; the later family's looks); each row that meets fmt, with fmt's text TOLD by the authors' own Lean function (tested against real Go, not proved from fmt's source: count such statements apart). THE CARD IS WHAT COUNTS. Prove the row's statement (the work); the ties are given (YtimlijeiggcgiaaDoorTie.lean); close each card by the builder's one call (the guide's Derived/Test/ToyasCard.lean, 'card_holds'). Laid BY PROGRAM, IN A SANDBOX (cutbox-door.mjs). By AI agents, Wed Nov 11 2026. No macro, syntax, notation, axiom, sorry.
-/
import Derived.Test.YtimlijeiggcgiaaDoorRows
import GoSem.ClaimSeven
namespace Go.Proofs.YtimlijeiggcgiaaDoor
namespace Rows

/-- THE TIED CARD OF 'copselaw20.CertRuns'. -/
def certRunsCard : Claim7 := { stood := { row := certRunsRow, standIns := [], harness := (true, "cbb30fb76d9842f2293fb8e94ed7602d78ddb952e99012af07bb635fced5bee7"), looks := true }, kinds := [], alts := [], laidByText := true, laidKinds := [.data, .data, .data, .data, .sentinel, .sentinel, .pinned], laidTests := true, laidLooks := .later }
def CertRunsCardSaid : Prop := Claim7.holds Tryd.pinned (.plain (OpenSpec.ofChange certRunsSpec)) certRunsCard

/-- THE TIED CARD OF 'copselaw20.CertBack'. -/
def certBackCard : Claim7 := { stood := { row := certBackRow, standIns := [], harness := (true, "cbb30fb76d9842f2293fb8e94ed7602d78ddb952e99012af07bb635fced5bee7"), looks := true }, kinds := [], alts := [], laidByText := true, laidKinds := [.data, .data, .data, .data, .sentinel, .sentinel, .pinned], laidTests := true, laidLooks := .later }
def CertBackCardSaid : Prop := Claim7.holds Tryd.pinned (.plain (OpenSpec.ofChange certBackSpec)) certBackCard

/-- THE TIED CARD OF 'copselaw20.CertOnly'. -/
def certOnlyCard : Claim7 := { stood := { row := certOnlyRow, standIns := [], harness := (true, "cbb30fb76d9842f2293fb8e94ed7602d78ddb952e99012af07bb635fced5bee7"), looks := true }, kinds := [], alts := [], laidByText := true, laidKinds := [.data, .data, .data, .data, .sentinel, .sentinel, .pinned], laidTests := true, laidLooks := .later }
def CertOnlyCardSaid : Prop := Claim7.holds Tryd.pinned (.plain (OpenSpec.ofChange certOnlySpec)) certOnlyCard

/-- THE TIED CARD OF 'copselaw20.CertEdges'. -/
def certEdgesCard : Claim7 := { stood := { row := certEdgesRow, standIns := [], harness := (true, "cbb30fb76d9842f2293fb8e94ed7602d78ddb952e99012af07bb635fced5bee7"), looks := true }, kinds := [], alts := [], laidByText := true, laidKinds := [.data, .data, .data, .data, .sentinel, .sentinel, .pinned], laidTests := true, laidLooks := .later }
def CertEdgesCardSaid : Prop := Claim7.holds Tryd.pinned (.plain (OpenSpec.ofChange certEdgesSpec)) certEdgesCard

/-- THE TIED CARD OF 'copselaw20.CertLines'. -/
def certLinesCard : Claim7 := { stood := { row := certLinesRow, standIns := [], harness := (true, "cbb30fb76d9842f2293fb8e94ed7602d78ddb952e99012af07bb635fced5bee7"), looks := true }, kinds := [], alts := [], laidByText := true, laidKinds := [.data, .data, .data, .data, .sentinel, .sentinel, .pinned], laidTests := true, laidLooks := .later }
def CertLinesCardSaid : Prop := Claim7.holds Tryd.pinned (.plain (OpenSpec.ofChange certLinesSpec)) certLinesCard

/-- THE SECOND FORM's CARD OF 'copselaw20.CertRuns'. -/
def certRunsUptoCard : Claim7 := { stood := { row := certRunsUptoRow, standIns := [], harness := (true, "cbb30fb76d9842f2293fb8e94ed7602d78ddb952e99012af07bb635fced5bee7"), looks := true }, kinds := [], alts := [], laidByText := true, laidKinds := [.data, .data, .data, .data, .sentinel, .sentinel, .pinned], laidTests := true, laidLooks := .later }
def CertRunsUptoCardSaid : Prop := Claim7.holds Tryd.pinned (.plain (OpenSpec.upto certRunsSpec)) certRunsUptoCard

/-- THE SECOND FORM's CARD OF 'copselaw20.CertBack'. -/
def certBackUptoCard : Claim7 := { stood := { row := certBackUptoRow, standIns := [], harness := (true, "cbb30fb76d9842f2293fb8e94ed7602d78ddb952e99012af07bb635fced5bee7"), looks := true }, kinds := [], alts := [], laidByText := true, laidKinds := [.data, .data, .data, .data, .sentinel, .sentinel, .pinned], laidTests := true, laidLooks := .later }
def CertBackUptoCardSaid : Prop := Claim7.holds Tryd.pinned (.plain (OpenSpec.upto certBackSpec)) certBackUptoCard

/-- THE SECOND FORM's CARD OF 'copselaw20.CertOnly'. -/
def certOnlyUptoCard : Claim7 := { stood := { row := certOnlyUptoRow, standIns := [], harness := (true, "cbb30fb76d9842f2293fb8e94ed7602d78ddb952e99012af07bb635fced5bee7"), looks := true }, kinds := [], alts := [], laidByText := true, laidKinds := [.data, .data, .data, .data, .sentinel, .sentinel, .pinned], laidTests := true, laidLooks := .later }
def CertOnlyUptoCardSaid : Prop := Claim7.holds Tryd.pinned (.plain (OpenSpec.upto certOnlySpec)) certOnlyUptoCard

/-- THE SECOND FORM's CARD OF 'copselaw20.CertEdges'. -/
def certEdgesUptoCard : Claim7 := { stood := { row := certEdgesUptoRow, standIns := [], harness := (true, "cbb30fb76d9842f2293fb8e94ed7602d78ddb952e99012af07bb635fced5bee7"), looks := true }, kinds := [], alts := [], laidByText := true, laidKinds := [.data, .data, .data, .data, .sentinel, .sentinel, .pinned], laidTests := true, laidLooks := .later }
def CertEdgesUptoCardSaid : Prop := Claim7.holds Tryd.pinned (.plain (OpenSpec.upto certEdgesSpec)) certEdgesUptoCard

/-- THE SECOND FORM's CARD OF 'copselaw20.CertLines'. -/
def certLinesUptoCard : Claim7 := { stood := { row := certLinesUptoRow, standIns := [], harness := (true, "cbb30fb76d9842f2293fb8e94ed7602d78ddb952e99012af07bb635fced5bee7"), looks := true }, kinds := [], alts := [], laidByText := true, laidKinds := [.data, .data, .data, .data, .sentinel, .sentinel, .pinned], laidTests := true, laidLooks := .later }
def CertLinesUptoCardSaid : Prop := Claim7.holds Tryd.pinned (.plain (OpenSpec.upto certLinesSpec)) certLinesUptoCard
end Rows
end Go.Proofs.YtimlijeiggcgiaaDoor
