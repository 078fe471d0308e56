/-
  DERIVED. GIVEN WITH THE SEED: THE CARDS: each row of YtihliihljmfhlaaGreatDoorRows.lean that lists a variable, with what it lists TIED to the program's text (the seventh form; the later family's looks); each row that meets fmt, with fmt's text TOLD by the authors' own Lean function (tested against real Go, not proved from fmt's source: count such statements apart). THE CARD IS WHAT COUNTS. Prove the row's statement (the work); the ties are given (YtihliihljmfhlaaGreatDoorTie.lean); close each card by the builder's one call (the guide's Derived/Test/ToyasCard.lean, 'card_holds'). Laid BY PROGRAM, IN A SANDBOX (cutbox-door.mjs). By AI agents, Wed Nov 11 2026. No macro, syntax, notation, axiom, sorry.
-/
import Derived.Test.YtihliihljmfhlaaGreatDoorRows
import GoSem.ClaimSeven
namespace Go.Proofs.YtihliihljmfhlaaGreatDoor
namespace Rows

/-- THE TIED CARD OF 'copsetop.TopForge'. -/
def topForgeCard : Claim7 := { stood := { row := topForgeRow, standIns := [], harness := (true, "8e53b71a13cef9058ebf53c8874d59fd933e31707c89aa95380fcd28242c182b"), looks := true }, kinds := [], alts := [], laidByText := true, laidKinds := [.data, .data, .data, .data, .sentinel, .sentinel, .pinned], laidTests := true, laidLooks := .later }
def TopForgeCardSaid : Prop := Claim7.holds Tryz.pinned (.plain (OpenSpec.ofChange topForgeSpec)) topForgeCard

/-- THE TIED CARD OF 'copselaw9.TextTells'. -/
def textTellsCard : Claim7 := { stood := { row := textTellsRow, standIns := [], harness := (true, "8e53b71a13cef9058ebf53c8874d59fd933e31707c89aa95380fcd28242c182b"), looks := true }, kinds := [], alts := [], laidByText := true, laidKinds := [.data, .data, .data, .data, .sentinel, .sentinel, .pinned], laidTests := true, laidLooks := .later }
def TextTellsCardSaid : Prop := Claim7.holds Tryz.pinned (.plain (OpenSpec.ofChange textTellsSpec)) textTellsCard

/-- THE TIED CARD OF 'copselaw23.DriverRun'. -/
def driverRunCard : Claim7 := { stood := { row := driverRunRow, standIns := [], harness := (true, "8e53b71a13cef9058ebf53c8874d59fd933e31707c89aa95380fcd28242c182b"), looks := true }, kinds := [], alts := [], laidByText := true, laidKinds := [.data, .data, .data, .data, .sentinel, .sentinel, .pinned], laidTests := true, laidLooks := .later }
def DriverRunCardSaid : Prop := Claim7.holds Tryz.pinned (.plain (OpenSpec.ofChange driverRunSpec)) driverRunCard

/-- THE TIED CARD OF 'copselaw24.AuditSound'. -/
def auditSoundCard : Claim7 := { stood := { row := auditSoundRow, standIns := [], harness := (true, "8e53b71a13cef9058ebf53c8874d59fd933e31707c89aa95380fcd28242c182b"), looks := true }, kinds := [], alts := [], laidByText := true, laidKinds := [.data, .data, .data, .data, .sentinel, .sentinel, .pinned], laidTests := true, laidLooks := .later }
def AuditSoundCardSaid : Prop := Claim7.holds Tryz.pinned (.plain (OpenSpec.ofChange auditSoundSpec)) auditSoundCard

/-- THE SECOND FORM's CARD OF 'copsetop.TopForge'. -/
def topForgeUptoCard : Claim7 := { stood := { row := topForgeUptoRow, standIns := [], harness := (true, "8e53b71a13cef9058ebf53c8874d59fd933e31707c89aa95380fcd28242c182b"), looks := true }, kinds := [], alts := [], laidByText := true, laidKinds := [.data, .data, .data, .data, .sentinel, .sentinel, .pinned], laidTests := true, laidLooks := .later }
def TopForgeUptoCardSaid : Prop := Claim7.holds Tryz.pinned (.plain (OpenSpec.upto topForgeSpec)) topForgeUptoCard

/-- THE SECOND FORM's CARD OF 'copselaw9.TextTells'. -/
def textTellsUptoCard : Claim7 := { stood := { row := textTellsUptoRow, standIns := [], harness := (true, "8e53b71a13cef9058ebf53c8874d59fd933e31707c89aa95380fcd28242c182b"), looks := true }, kinds := [], alts := [], laidByText := true, laidKinds := [.data, .data, .data, .data, .sentinel, .sentinel, .pinned], laidTests := true, laidLooks := .later }
def TextTellsUptoCardSaid : Prop := Claim7.holds Tryz.pinned (.plain (OpenSpec.upto textTellsSpec)) textTellsUptoCard

/-- THE SECOND FORM's CARD OF 'copselaw23.DriverRun'. -/
def driverRunUptoCard : Claim7 := { stood := { row := driverRunUptoRow, standIns := [], harness := (true, "8e53b71a13cef9058ebf53c8874d59fd933e31707c89aa95380fcd28242c182b"), looks := true }, kinds := [], alts := [], laidByText := true, laidKinds := [.data, .data, .data, .data, .sentinel, .sentinel, .pinned], laidTests := true, laidLooks := .later }
def DriverRunUptoCardSaid : Prop := Claim7.holds Tryz.pinned (.plain (OpenSpec.upto driverRunSpec)) driverRunUptoCard

/-- THE SECOND FORM's CARD OF 'copselaw24.AuditSound'. -/
def auditSoundUptoCard : Claim7 := { stood := { row := auditSoundUptoRow, standIns := [], harness := (true, "8e53b71a13cef9058ebf53c8874d59fd933e31707c89aa95380fcd28242c182b"), looks := true }, kinds := [], alts := [], laidByText := true, laidKinds := [.data, .data, .data, .data, .sentinel, .sentinel, .pinned], laidTests := true, laidLooks := .later }
def AuditSoundUptoCardSaid : Prop := Claim7.holds Tryz.pinned (.plain (OpenSpec.upto auditSoundSpec)) auditSoundUptoCard
end Rows
end Go.Proofs.YtihliihljmfhlaaGreatDoor
