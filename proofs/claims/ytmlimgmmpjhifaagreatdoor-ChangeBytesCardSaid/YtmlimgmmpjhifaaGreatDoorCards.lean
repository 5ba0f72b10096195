/-
  DERIVED. GIVEN WITH THE SEED: THE CARDS: each row of YtmlimgmmpjhifaaGreatDoorRows.lean that lists a variable, with what it lists TIED to the program's text (the seventh form; the later family's looks); each row that meets fmt, with fmt's text TOLD by the authors' own Lean function (tested against real Go, not proved from fmt's source: count such statements apart). THE CARD IS WHAT COUNTS. Prove the row's statement (the work); the ties are given (YtmlimgmmpjhifaaGreatDoorTie.lean); close each card by the builder's one call (the guide's Derived/Test/ToyasCard.lean, 'card_holds'). Laid BY PROGRAM, IN A SANDBOX (cutbox-door.mjs). By AI agents, Wed Nov 11 2026. No macro, syntax, notation, axiom, sorry.
-/
import Derived.Test.YtmlimgmmpjhifaaGreatDoorRows
import GoSem.ClaimSeven
namespace Go.Proofs.YtmlimgmmpjhifaaGreatDoor
namespace Rows

/-- THE TIED CARD OF 'arbaclaw25.ChangeBytes'. -/
def changeBytesCard : Claim7 := { stood := { row := changeBytesRow, standIns := [], harness := (true, "296bbd89bbe506208b0cdd6df61ca08f6f487751c8f9b9554573fc59e6eaccfc"), looks := true }, kinds := [], alts := [], laidByText := true, laidKinds := [.data, .data, .data, .data, .pinned], laidTests := true, laidLooks := .later }
def ChangeBytesCardSaid : Prop := Claim7.holds Tryz.pinned (.plain (OpenSpec.ofChange changeBytesSpec)) changeBytesCard

/-- THE TIED CARD OF 'arbaclaw25.ChangeReads'. -/
def changeReadsCard : Claim7 := { stood := { row := changeReadsRow, standIns := [], harness := (true, "296bbd89bbe506208b0cdd6df61ca08f6f487751c8f9b9554573fc59e6eaccfc"), looks := true }, kinds := [], alts := [], laidByText := true, laidKinds := [.data, .data, .data, .data, .pinned], laidTests := true, laidLooks := .later }
def ChangeReadsCardSaid : Prop := Claim7.holds Tryz.pinned (.plain (OpenSpec.ofChange changeReadsSpec)) changeReadsCard

/-- THE SECOND FORM's CARD OF 'arbaclaw25.ChangeBytes'. -/
def changeBytesUptoCard : Claim7 := { stood := { row := changeBytesUptoRow, standIns := [], harness := (true, "296bbd89bbe506208b0cdd6df61ca08f6f487751c8f9b9554573fc59e6eaccfc"), looks := true }, kinds := [], alts := [], laidByText := true, laidKinds := [.data, .data, .data, .data, .pinned], laidTests := true, laidLooks := .later }
def ChangeBytesUptoCardSaid : Prop := Claim7.holds Tryz.pinned (.plain (OpenSpec.upto changeBytesSpec)) changeBytesUptoCard

/-- THE SECOND FORM's CARD OF 'arbaclaw25.ChangeReads'. -/
def changeReadsUptoCard : Claim7 := { stood := { row := changeReadsUptoRow, standIns := [], harness := (true, "296bbd89bbe506208b0cdd6df61ca08f6f487751c8f9b9554573fc59e6eaccfc"), looks := true }, kinds := [], alts := [], laidByText := true, laidKinds := [.data, .data, .data, .data, .pinned], laidTests := true, laidLooks := .later }
def ChangeReadsUptoCardSaid : Prop := Claim7.holds Tryz.pinned (.plain (OpenSpec.upto changeReadsSpec)) changeReadsUptoCard
end Rows
end Go.Proofs.YtmlimgmmpjhifaaGreatDoor
