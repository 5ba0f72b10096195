/-
  DERIVED. GIVEN WITH THE SEED: THE CARDS: each row of YtaffhpgaagnjfaaGreatDoorRows.lean that lists a variable, with what it lists TIED to the program's text (the seventh form; the later family's looks); each row that meets fmt, with fmt's text TOLD by the authors' own Lean function (tested against real Go, not proved from fmt's source: count such statements apart). THE CARD IS WHAT COUNTS. Prove the row's statement (the work); the ties are given (YtaffhpgaagnjfaaGreatDoorTie.lean); close each card by the builder's one call (the guide's Derived/Test/ToyasCard.lean, 'card_holds'). Laid BY PROGRAM, IN A SANDBOX (cutbox-door.mjs). By AI agents, Wed Nov 11 2026. No macro, syntax, notation, axiom, sorry.
-/
import Derived.Test.YtaffhpgaagnjfaaGreatDoorRows
import GoSem.ClaimSeven
namespace Go.Proofs.YtaffhpgaagnjfaaGreatDoor
namespace Rows

/-- THE TIED CARD OF 'arbaclaw54.AuditHeads'. -/
def auditHeadsCard : Claim7 := { stood := { row := auditHeadsRow, standIns := [], harness := (true, "0c87422db3d29feb9bc90f90323f6172cda45bea840dfa60a054d18854ce3ea6"), looks := true }, kinds := [], alts := [], laidByText := true, laidKinds := [.data, .data, .data, .data, .data, .data, .pinned], laidTests := true, laidLooks := .later }
def AuditHeadsCardSaid : Prop := Claim7.holds Tryz.pinned (.plain (OpenSpec.ofChange auditHeadsSpec)) auditHeadsCard

/-- THE TIED CARD OF 'arbaclaw54.AuditBytes'. -/
def auditBytesCard : Claim7 := { stood := { row := auditBytesRow, standIns := [], harness := (true, "0c87422db3d29feb9bc90f90323f6172cda45bea840dfa60a054d18854ce3ea6"), looks := true }, kinds := [], alts := [], laidByText := true, laidKinds := [.data, .data, .data, .data, .data, .data, .pinned], laidTests := true, laidLooks := .later }
def AuditBytesCardSaid : Prop := Claim7.holds Tryz.pinned (.plain (OpenSpec.ofChange auditBytesSpec)) auditBytesCard

/-- THE TIED CARD OF 'arbaclaw54.AuditReads'. -/
def auditReadsCard : Claim7 := { stood := { row := auditReadsRow, standIns := [], harness := (true, "0c87422db3d29feb9bc90f90323f6172cda45bea840dfa60a054d18854ce3ea6"), looks := true }, kinds := [], alts := [], laidByText := true, laidKinds := [.data, .data, .data, .data, .data, .data, .pinned], laidTests := true, laidLooks := .later }
def AuditReadsCardSaid : Prop := Claim7.holds Tryz.pinned (.plain (OpenSpec.ofChange auditReadsSpec)) auditReadsCard

/-- THE SECOND FORM's CARD OF 'arbaclaw54.AuditHeads'. -/
def auditHeadsUptoCard : Claim7 := { stood := { row := auditHeadsUptoRow, standIns := [], harness := (true, "0c87422db3d29feb9bc90f90323f6172cda45bea840dfa60a054d18854ce3ea6"), looks := true }, kinds := [], alts := [], laidByText := true, laidKinds := [.data, .data, .data, .data, .data, .data, .pinned], laidTests := true, laidLooks := .later }
def AuditHeadsUptoCardSaid : Prop := Claim7.holds Tryz.pinned (.plain (OpenSpec.upto auditHeadsSpec)) auditHeadsUptoCard

/-- THE SECOND FORM's CARD OF 'arbaclaw54.AuditBytes'. -/
def auditBytesUptoCard : Claim7 := { stood := { row := auditBytesUptoRow, standIns := [], harness := (true, "0c87422db3d29feb9bc90f90323f6172cda45bea840dfa60a054d18854ce3ea6"), looks := true }, kinds := [], alts := [], laidByText := true, laidKinds := [.data, .data, .data, .data, .data, .data, .pinned], laidTests := true, laidLooks := .later }
def AuditBytesUptoCardSaid : Prop := Claim7.holds Tryz.pinned (.plain (OpenSpec.upto auditBytesSpec)) auditBytesUptoCard

/-- THE SECOND FORM's CARD OF 'arbaclaw54.AuditReads'. -/
def auditReadsUptoCard : Claim7 := { stood := { row := auditReadsUptoRow, standIns := [], harness := (true, "0c87422db3d29feb9bc90f90323f6172cda45bea840dfa60a054d18854ce3ea6"), looks := true }, kinds := [], alts := [], laidByText := true, laidKinds := [.data, .data, .data, .data, .data, .data, .pinned], laidTests := true, laidLooks := .later }
def AuditReadsUptoCardSaid : Prop := Claim7.holds Tryz.pinned (.plain (OpenSpec.upto auditReadsSpec)) auditReadsUptoCard
end Rows
end Go.Proofs.YtaffhpgaagnjfaaGreatDoor
