/-
  DERIVED. GIVEN WITH THE SEED: THE CARDS: each row of YtgmnkhopdoiegaaGreatDoorRows.lean that lists a variable, with what it lists TIED to the program's text (the seventh form; the later family's looks); each row that meets fmt, with fmt's text TOLD by the authors' own Lean function (tested against real Go, not proved from fmt's source: count such statements apart). THE CARD IS WHAT COUNTS. Prove the row's statement (the work); the ties are given (YtgmnkhopdoiegaaGreatDoorTie.lean); close each card by the builder's one call (the guide's Derived/Test/ToyasCard.lean, 'card_holds'). Laid BY PROGRAM, IN A SANDBOX (cutbox-door.mjs). By AI agents, Wed Nov 11 2026. No macro, syntax, notation, axiom, sorry.
-/
import Derived.Test.YtgmnkhopdoiegaaGreatDoorRows
import GoSem.ClaimSeven
namespace Go.Proofs.YtgmnkhopdoiegaaGreatDoor
namespace Rows

/-- THE TIED CARD OF 'arbaclaw53.LogSnapshots'. -/
def logSnapshotsCard : Claim7 := { stood := { row := logSnapshotsRow, standIns := [], harness := (true, "605948574d3985b4ee5fafdf2c3902ccbc9bbd54b73f06d48443bb19862fd310"), looks := true }, kinds := [], alts := [], laidByText := true, laidKinds := [.data, .pinned, .data, .data, .data, .sentinel, .sentinel], laidTests := true, laidLooks := .later }
def LogSnapshotsCardSaid : Prop := Claim7.holds Tryz.pinned (.plain (OpenSpec.ofChange logSnapshotsSpec)) logSnapshotsCard

/-- THE SECOND FORM's CARD OF 'arbaclaw53.LogSnapshots'. -/
def logSnapshotsUptoCard : Claim7 := { stood := { row := logSnapshotsUptoRow, standIns := [], harness := (true, "605948574d3985b4ee5fafdf2c3902ccbc9bbd54b73f06d48443bb19862fd310"), looks := true }, kinds := [], alts := [], laidByText := true, laidKinds := [.data, .pinned, .data, .data, .data, .sentinel, .sentinel], laidTests := true, laidLooks := .later }
def LogSnapshotsUptoCardSaid : Prop := Claim7.holds Tryz.pinned (.plain (OpenSpec.upto logSnapshotsSpec)) logSnapshotsUptoCard
end Rows
end Go.Proofs.YtgmnkhopdoiegaaGreatDoor
