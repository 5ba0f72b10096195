/-
  DERIVED. GIVEN WITH THE SEED: THE CARDS: each row of YtnllgabplfojaaaGreatDoorRows.lean that lists a variable, with what it lists TIED to the program's text (the seventh form; the later family's looks); each row that meets fmt, with fmt's text TOLD by the authors' own Lean function (tested against real Go, not proved from fmt's source: count such statements apart). THE CARD IS WHAT COUNTS. Prove the row's statement (the work); the ties are given (YtnllgabplfojaaaGreatDoorTie.lean); close each card by the builder's one call (the guide's Derived/Test/ToyasCard.lean, 'card_holds'). Laid BY PROGRAM, IN A SANDBOX (cutbox-door.mjs). By AI agents, Wed Nov 11 2026. No macro, syntax, notation, axiom, sorry.
-/
import Derived.Test.YtnllgabplfojaaaGreatDoorRows
import GoSem.ClaimSeven
namespace Go.Proofs.YtnllgabplfojaaaGreatDoor
namespace Rows

/-- THE TIED CARD OF 'arbaclaw39.AssureCovers'. -/
def assureCoversCard : Claim7 := { stood := { row := assureCoversRow, standIns := [], harness := (true, "1f460933dd6c9ad42d43f07d046eb188f0eee3ab43e1ac4b5048f2249b7dcbca"), looks := true }, kinds := [], alts := [], laidByText := true, laidKinds := [.data, .data, .data, .data, .data, .data, .pinned], laidTests := true, laidLooks := .later }
def AssureCoversCardSaid : Prop := Claim7.holds Tryz.pinned (.plain (OpenSpec.ofChange assureCoversSpec)) assureCoversCard

/-- THE SECOND FORM's CARD OF 'arbaclaw39.AssureCovers'. -/
def assureCoversUptoCard : Claim7 := { stood := { row := assureCoversUptoRow, standIns := [], harness := (true, "1f460933dd6c9ad42d43f07d046eb188f0eee3ab43e1ac4b5048f2249b7dcbca"), looks := true }, kinds := [], alts := [], laidByText := true, laidKinds := [.data, .data, .data, .data, .data, .data, .pinned], laidTests := true, laidLooks := .later }
def AssureCoversUptoCardSaid : Prop := Claim7.holds Tryz.pinned (.plain (OpenSpec.upto assureCoversSpec)) assureCoversUptoCard
end Rows
end Go.Proofs.YtnllgabplfojaaaGreatDoor
