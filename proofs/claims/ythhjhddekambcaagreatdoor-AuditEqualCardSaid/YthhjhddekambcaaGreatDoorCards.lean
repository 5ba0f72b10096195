/-
  DERIVED. GIVEN WITH THE SEED: THE CARDS: each row of YthhjhddekambcaaGreatDoorRows.lean that lists a variable, with what it lists TIED to the program's text (the seventh form; the later family's looks); each row that meets fmt, with fmt's text TOLD by the authors' own Lean function (tested against real Go, not proved from fmt's source: count such statements apart). THE CARD IS WHAT COUNTS. Prove the row's statement (the work); the ties are given (YthhjhddekambcaaGreatDoorTie.lean); close each card by the builder's one call (the guide's Derived/Test/ToyasCard.lean, 'card_holds'). Laid BY PROGRAM, IN A SANDBOX (cutbox-door.mjs). By AI agents, Wed Nov 11 2026. No macro, syntax, notation, axiom, sorry.
-/
import Derived.Test.YthhjhddekambcaaGreatDoorRows
import GoSem.ClaimSeven
namespace Go.Proofs.YthhjhddekambcaaGreatDoor
namespace Rows

/-- THE TIED CARD OF 'arbaclaw54.AuditEqual'. -/
def auditEqualCard : Claim7 := { stood := { row := auditEqualRow, standIns := [], harness := (true, "4be49f62d20758eb405c635094e4d6f18a5fc6c96b980572e342777d42d7e219"), looks := true }, kinds := [], alts := [], laidByText := true, laidKinds := [.data, .data, .data, .data, .data, .data, .pinned], laidTests := true, laidLooks := .later }
def AuditEqualCardSaid : Prop := Claim7.holds Tryz.pinned (.plain (OpenSpec.ofChange auditEqualSpec)) auditEqualCard

/-- THE SECOND FORM's CARD OF 'arbaclaw54.AuditEqual'. -/
def auditEqualUptoCard : Claim7 := { stood := { row := auditEqualUptoRow, standIns := [], harness := (true, "4be49f62d20758eb405c635094e4d6f18a5fc6c96b980572e342777d42d7e219"), looks := true }, kinds := [], alts := [], laidByText := true, laidKinds := [.data, .data, .data, .data, .data, .data, .pinned], laidTests := true, laidLooks := .later }
def AuditEqualUptoCardSaid : Prop := Claim7.holds Tryz.pinned (.plain (OpenSpec.upto auditEqualSpec)) auditEqualUptoCard
end Rows
end Go.Proofs.YthhjhddekambcaaGreatDoor
