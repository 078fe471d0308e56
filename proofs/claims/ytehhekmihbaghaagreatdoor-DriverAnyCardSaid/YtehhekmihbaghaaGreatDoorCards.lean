/-
  DERIVED. GIVEN WITH THE SEED: THE CARDS: each row of YtehhekmihbaghaaGreatDoorRows.lean that lists a variable, with what it lists TIED to the program's text (the seventh form; the later family's looks); each row that meets fmt, with fmt's text TOLD by the authors' own Lean function (tested against real Go, not proved from fmt's source: count such statements apart). THE CARD IS WHAT COUNTS. Prove the row's statement (the work); the ties are given (YtehhekmihbaghaaGreatDoorTie.lean); close each card by the builder's one call (the guide's Derived/Test/ToyasCard.lean, 'card_holds'). Laid BY PROGRAM, IN A SANDBOX (cutbox-door.mjs). By AI agents, Wed Nov 11 2026. No macro, syntax, notation, axiom, sorry.
-/
import Derived.Test.YtehhekmihbaghaaGreatDoorRows
import GoSem.ClaimSeven
namespace Go.Proofs.YtehhekmihbaghaaGreatDoor
namespace Rows

/-- THE TIED CARD OF 'copsetop.TopLines'. -/
def topLinesCard : Claim7 := { stood := { row := topLinesRow, standIns := [], harness := (true, "cbc2a0dabea9ce766bff7559522a03ff18b95308167b89218391d9d832ba0382"), looks := true }, kinds := [], alts := [], laidByText := true, laidKinds := [.data, .data, .data, .data, .sentinel, .sentinel, .pinned], laidTests := true, laidLooks := .later }
def TopLinesCardSaid : Prop := Claim7.holds Tryz.pinned (.plain (OpenSpec.ofChange topLinesSpec)) topLinesCard

/-- THE TIED CARD OF 'copsetop.TopSame'. -/
def topSameCard : Claim7 := { stood := { row := topSameRow, standIns := [], harness := (true, "cbc2a0dabea9ce766bff7559522a03ff18b95308167b89218391d9d832ba0382"), looks := true }, kinds := [], alts := [], laidByText := true, laidKinds := [.data, .data, .data, .data, .sentinel, .sentinel, .pinned], laidTests := true, laidLooks := .later }
def TopSameCardSaid : Prop := Claim7.holds Tryz.pinned (.plain (OpenSpec.ofChange topSameSpec)) topSameCard

/-- THE TIED CARD OF 'copselaw24.AuditRuns'. -/
def auditRunsCard : Claim7 := { stood := { row := auditRunsRow, standIns := [], harness := (true, "cbc2a0dabea9ce766bff7559522a03ff18b95308167b89218391d9d832ba0382"), looks := true }, kinds := [], alts := [], laidByText := true, laidKinds := [.data, .data, .data, .data, .sentinel, .sentinel, .pinned], laidTests := true, laidLooks := .later }
def AuditRunsCardSaid : Prop := Claim7.holds Tryz.pinned (.plain (OpenSpec.ofChange auditRunsSpec)) auditRunsCard

/-- THE TIED CARD OF 'copselaw23.DriverRuns'. -/
def driverRunsCard : Claim7 := { stood := { row := driverRunsRow, standIns := [], harness := (true, "cbc2a0dabea9ce766bff7559522a03ff18b95308167b89218391d9d832ba0382"), looks := true }, kinds := [], alts := [], laidByText := true, laidKinds := [.data, .data, .data, .data, .sentinel, .sentinel, .pinned], laidTests := true, laidLooks := .later }
def DriverRunsCardSaid : Prop := Claim7.holds Tryz.pinned (.plain (OpenSpec.ofChange driverRunsSpec)) driverRunsCard

/-- THE TIED CARD OF 'copselaw23.DriverLines'. -/
def driverLinesCard : Claim7 := { stood := { row := driverLinesRow, standIns := [], harness := (true, "cbc2a0dabea9ce766bff7559522a03ff18b95308167b89218391d9d832ba0382"), looks := true }, kinds := [], alts := [], laidByText := true, laidKinds := [.data, .data, .data, .data, .sentinel, .sentinel, .pinned], laidTests := true, laidLooks := .later }
def DriverLinesCardSaid : Prop := Claim7.holds Tryz.pinned (.plain (OpenSpec.ofChange driverLinesSpec)) driverLinesCard

/-- THE TIED CARD OF 'copselaw23.DriverAny'. -/
def driverAnyCard : Claim7 := { stood := { row := driverAnyRow, standIns := [], harness := (true, "cbc2a0dabea9ce766bff7559522a03ff18b95308167b89218391d9d832ba0382"), looks := true }, kinds := [], alts := [], laidByText := true, laidKinds := [.data, .data, .data, .data, .sentinel, .sentinel, .pinned], laidTests := true, laidLooks := .later }
def DriverAnyCardSaid : Prop := Claim7.holds Tryz.pinned (.plain (OpenSpec.ofChange driverAnySpec)) driverAnyCard

/-- THE TIED CARD OF 'copselaw23.DriverOrder'. -/
def driverOrderCard : Claim7 := { stood := { row := driverOrderRow, standIns := [], harness := (true, "cbc2a0dabea9ce766bff7559522a03ff18b95308167b89218391d9d832ba0382"), looks := true }, kinds := [], alts := [], laidByText := true, laidKinds := [.data, .data, .data, .data, .sentinel, .sentinel, .pinned], laidTests := true, laidLooks := .later }
def DriverOrderCardSaid : Prop := Claim7.holds Tryz.pinned (.plain (OpenSpec.ofChange driverOrderSpec)) driverOrderCard

/-- THE TIED CARD OF 'copselaw24.AuditOwn'. -/
def auditOwnCard : Claim7 := { stood := { row := auditOwnRow, standIns := [], harness := (true, "cbc2a0dabea9ce766bff7559522a03ff18b95308167b89218391d9d832ba0382"), looks := true }, kinds := [], alts := [], laidByText := true, laidKinds := [.data, .data, .data, .data, .sentinel, .sentinel, .pinned], laidTests := true, laidLooks := .later }
def AuditOwnCardSaid : Prop := Claim7.holds Tryz.pinned (.plain (OpenSpec.ofChange auditOwnSpec)) auditOwnCard

/-- THE TIED CARD OF 'copselaw24.AuditBudget'. -/
def auditBudgetCard : Claim7 := { stood := { row := auditBudgetRow, standIns := [], harness := (true, "cbc2a0dabea9ce766bff7559522a03ff18b95308167b89218391d9d832ba0382"), looks := true }, kinds := [], alts := [], laidByText := true, laidKinds := [.data, .data, .data, .data, .sentinel, .sentinel, .pinned], laidTests := true, laidLooks := .later }
def AuditBudgetCardSaid : Prop := Claim7.holds Tryz.pinned (.plain (OpenSpec.ofChange auditBudgetSpec)) auditBudgetCard

/-- THE TIED CARD OF 'copsetop.TopText'. -/
def topTextCard : Claim7 := { stood := { row := topTextRow, standIns := [], harness := (true, "cbc2a0dabea9ce766bff7559522a03ff18b95308167b89218391d9d832ba0382"), looks := true }, kinds := [], alts := [], laidByText := true, laidKinds := [.data, .data, .data, .data, .sentinel, .sentinel, .pinned], laidTests := true, laidLooks := .later }
def TopTextCardSaid : Prop := Claim7.holds Tryz.pinned (.plain (OpenSpec.ofChange topTextSpec)) topTextCard

/-- THE TIED CARD OF 'copsetop.TopHostile'. -/
def topHostileCard : Claim7 := { stood := { row := topHostileRow, standIns := [], harness := (true, "cbc2a0dabea9ce766bff7559522a03ff18b95308167b89218391d9d832ba0382"), looks := true }, kinds := [], alts := [], laidByText := true, laidKinds := [.data, .data, .data, .data, .sentinel, .sentinel, .pinned], laidTests := true, laidLooks := .later }
def TopHostileCardSaid : Prop := Claim7.holds Tryz.pinned (.plain (OpenSpec.ofChange topHostileSpec)) topHostileCard

/-- THE TIED CARD OF 'copsetop.TopForge'. -/
def topForgeCard : Claim7 := { stood := { row := topForgeRow, standIns := [], harness := (true, "cbc2a0dabea9ce766bff7559522a03ff18b95308167b89218391d9d832ba0382"), looks := true }, kinds := [], alts := [], laidByText := true, laidKinds := [.data, .data, .data, .data, .sentinel, .sentinel, .pinned], laidTests := true, laidLooks := .later }
def TopForgeCardSaid : Prop := Claim7.holds Tryz.pinned (.plain (OpenSpec.ofChange topForgeSpec)) topForgeCard

/-- THE SECOND FORM's CARD OF 'copsetop.TopLines'. -/
def topLinesUptoCard : Claim7 := { stood := { row := topLinesUptoRow, standIns := [], harness := (true, "cbc2a0dabea9ce766bff7559522a03ff18b95308167b89218391d9d832ba0382"), looks := true }, kinds := [], alts := [], laidByText := true, laidKinds := [.data, .data, .data, .data, .sentinel, .sentinel, .pinned], laidTests := true, laidLooks := .later }
def TopLinesUptoCardSaid : Prop := Claim7.holds Tryz.pinned (.plain (OpenSpec.upto topLinesSpec)) topLinesUptoCard

/-- THE SECOND FORM's CARD OF 'copsetop.TopSame'. -/
def topSameUptoCard : Claim7 := { stood := { row := topSameUptoRow, standIns := [], harness := (true, "cbc2a0dabea9ce766bff7559522a03ff18b95308167b89218391d9d832ba0382"), looks := true }, kinds := [], alts := [], laidByText := true, laidKinds := [.data, .data, .data, .data, .sentinel, .sentinel, .pinned], laidTests := true, laidLooks := .later }
def TopSameUptoCardSaid : Prop := Claim7.holds Tryz.pinned (.plain (OpenSpec.upto topSameSpec)) topSameUptoCard

/-- THE SECOND FORM's CARD OF 'copselaw24.AuditRuns'. -/
def auditRunsUptoCard : Claim7 := { stood := { row := auditRunsUptoRow, standIns := [], harness := (true, "cbc2a0dabea9ce766bff7559522a03ff18b95308167b89218391d9d832ba0382"), looks := true }, kinds := [], alts := [], laidByText := true, laidKinds := [.data, .data, .data, .data, .sentinel, .sentinel, .pinned], laidTests := true, laidLooks := .later }
def AuditRunsUptoCardSaid : Prop := Claim7.holds Tryz.pinned (.plain (OpenSpec.upto auditRunsSpec)) auditRunsUptoCard

/-- THE SECOND FORM's CARD OF 'copselaw23.DriverRuns'. -/
def driverRunsUptoCard : Claim7 := { stood := { row := driverRunsUptoRow, standIns := [], harness := (true, "cbc2a0dabea9ce766bff7559522a03ff18b95308167b89218391d9d832ba0382"), looks := true }, kinds := [], alts := [], laidByText := true, laidKinds := [.data, .data, .data, .data, .sentinel, .sentinel, .pinned], laidTests := true, laidLooks := .later }
def DriverRunsUptoCardSaid : Prop := Claim7.holds Tryz.pinned (.plain (OpenSpec.upto driverRunsSpec)) driverRunsUptoCard

/-- THE SECOND FORM's CARD OF 'copselaw23.DriverLines'. -/
def driverLinesUptoCard : Claim7 := { stood := { row := driverLinesUptoRow, standIns := [], harness := (true, "cbc2a0dabea9ce766bff7559522a03ff18b95308167b89218391d9d832ba0382"), looks := true }, kinds := [], alts := [], laidByText := true, laidKinds := [.data, .data, .data, .data, .sentinel, .sentinel, .pinned], laidTests := true, laidLooks := .later }
def DriverLinesUptoCardSaid : Prop := Claim7.holds Tryz.pinned (.plain (OpenSpec.upto driverLinesSpec)) driverLinesUptoCard

/-- THE SECOND FORM's CARD OF 'copselaw23.DriverAny'. -/
def driverAnyUptoCard : Claim7 := { stood := { row := driverAnyUptoRow, standIns := [], harness := (true, "cbc2a0dabea9ce766bff7559522a03ff18b95308167b89218391d9d832ba0382"), looks := true }, kinds := [], alts := [], laidByText := true, laidKinds := [.data, .data, .data, .data, .sentinel, .sentinel, .pinned], laidTests := true, laidLooks := .later }
def DriverAnyUptoCardSaid : Prop := Claim7.holds Tryz.pinned (.plain (OpenSpec.upto driverAnySpec)) driverAnyUptoCard

/-- THE SECOND FORM's CARD OF 'copselaw23.DriverOrder'. -/
def driverOrderUptoCard : Claim7 := { stood := { row := driverOrderUptoRow, standIns := [], harness := (true, "cbc2a0dabea9ce766bff7559522a03ff18b95308167b89218391d9d832ba0382"), looks := true }, kinds := [], alts := [], laidByText := true, laidKinds := [.data, .data, .data, .data, .sentinel, .sentinel, .pinned], laidTests := true, laidLooks := .later }
def DriverOrderUptoCardSaid : Prop := Claim7.holds Tryz.pinned (.plain (OpenSpec.upto driverOrderSpec)) driverOrderUptoCard

/-- THE SECOND FORM's CARD OF 'copselaw24.AuditOwn'. -/
def auditOwnUptoCard : Claim7 := { stood := { row := auditOwnUptoRow, standIns := [], harness := (true, "cbc2a0dabea9ce766bff7559522a03ff18b95308167b89218391d9d832ba0382"), looks := true }, kinds := [], alts := [], laidByText := true, laidKinds := [.data, .data, .data, .data, .sentinel, .sentinel, .pinned], laidTests := true, laidLooks := .later }
def AuditOwnUptoCardSaid : Prop := Claim7.holds Tryz.pinned (.plain (OpenSpec.upto auditOwnSpec)) auditOwnUptoCard

/-- THE SECOND FORM's CARD OF 'copselaw24.AuditBudget'. -/
def auditBudgetUptoCard : Claim7 := { stood := { row := auditBudgetUptoRow, standIns := [], harness := (true, "cbc2a0dabea9ce766bff7559522a03ff18b95308167b89218391d9d832ba0382"), looks := true }, kinds := [], alts := [], laidByText := true, laidKinds := [.data, .data, .data, .data, .sentinel, .sentinel, .pinned], laidTests := true, laidLooks := .later }
def AuditBudgetUptoCardSaid : Prop := Claim7.holds Tryz.pinned (.plain (OpenSpec.upto auditBudgetSpec)) auditBudgetUptoCard

/-- THE SECOND FORM's CARD OF 'copsetop.TopText'. -/
def topTextUptoCard : Claim7 := { stood := { row := topTextUptoRow, standIns := [], harness := (true, "cbc2a0dabea9ce766bff7559522a03ff18b95308167b89218391d9d832ba0382"), looks := true }, kinds := [], alts := [], laidByText := true, laidKinds := [.data, .data, .data, .data, .sentinel, .sentinel, .pinned], laidTests := true, laidLooks := .later }
def TopTextUptoCardSaid : Prop := Claim7.holds Tryz.pinned (.plain (OpenSpec.upto topTextSpec)) topTextUptoCard

/-- THE SECOND FORM's CARD OF 'copsetop.TopHostile'. -/
def topHostileUptoCard : Claim7 := { stood := { row := topHostileUptoRow, standIns := [], harness := (true, "cbc2a0dabea9ce766bff7559522a03ff18b95308167b89218391d9d832ba0382"), looks := true }, kinds := [], alts := [], laidByText := true, laidKinds := [.data, .data, .data, .data, .sentinel, .sentinel, .pinned], laidTests := true, laidLooks := .later }
def TopHostileUptoCardSaid : Prop := Claim7.holds Tryz.pinned (.plain (OpenSpec.upto topHostileSpec)) topHostileUptoCard

/-- THE SECOND FORM's CARD OF 'copsetop.TopForge'. -/
def topForgeUptoCard : Claim7 := { stood := { row := topForgeUptoRow, standIns := [], harness := (true, "cbc2a0dabea9ce766bff7559522a03ff18b95308167b89218391d9d832ba0382"), looks := true }, kinds := [], alts := [], laidByText := true, laidKinds := [.data, .data, .data, .data, .sentinel, .sentinel, .pinned], laidTests := true, laidLooks := .later }
def TopForgeUptoCardSaid : Prop := Claim7.holds Tryz.pinned (.plain (OpenSpec.upto topForgeSpec)) topForgeUptoCard
end Rows
end Go.Proofs.YtehhekmihbaghaaGreatDoor
