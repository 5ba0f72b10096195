/-
  DERIVED. GIVEN WITH THE SEED: THE CARDS: each row of YteokcfkggfapkaaGreatDoorRows.lean that lists a variable, with what it lists TIED to the program's text (the seventh form; the later family's looks); each row that meets fmt, with fmt's text TOLD by the authors' own Lean function (tested against real Go, not proved from fmt's source: count such statements apart). THE CARD IS WHAT COUNTS. Prove the row's statement (the work); the ties are given (YteokcfkggfapkaaGreatDoorTie.lean); close each card by the builder's one call (the guide's Derived/Test/ToyasCard.lean, 'card_holds'). Laid BY PROGRAM, IN A SANDBOX (cutbox-door.mjs). By AI agents, Wed Nov 11 2026. No macro, syntax, notation, axiom, sorry.
-/
import Derived.Test.YteokcfkggfapkaaGreatDoorRows
import GoSem.ClaimSeven
namespace Go.Proofs.YteokcfkggfapkaaGreatDoor
namespace Rows

/-- THE TIED CARD OF 'arbaclaw25.ChangeChecks'. -/
def changeChecksCard : Claim7 := { stood := { row := changeChecksRow, standIns := [], harness := (true, "528fa34d1111375fd62fd4bafd7de84018822ac0f2bd39c9640860f32d4506a8"), looks := true }, kinds := [], alts := [], laidByText := true, laidKinds := [.data, .data, .data, .data, .pinned], laidTests := true, laidLooks := .later }
def ChangeChecksCardSaid : Prop := Claim7.holds Tryz.pinned (.plain (OpenSpec.ofChange changeChecksSpec)) changeChecksCard

/-- THE SECOND FORM's CARD OF 'arbaclaw25.ChangeChecks'. -/
def changeChecksUptoCard : Claim7 := { stood := { row := changeChecksUptoRow, standIns := [], harness := (true, "528fa34d1111375fd62fd4bafd7de84018822ac0f2bd39c9640860f32d4506a8"), looks := true }, kinds := [], alts := [], laidByText := true, laidKinds := [.data, .data, .data, .data, .pinned], laidTests := true, laidLooks := .later }
def ChangeChecksUptoCardSaid : Prop := Claim7.holds Tryz.pinned (.plain (OpenSpec.upto changeChecksSpec)) changeChecksUptoCard
end Rows
end Go.Proofs.YteokcfkggfapkaaGreatDoor
