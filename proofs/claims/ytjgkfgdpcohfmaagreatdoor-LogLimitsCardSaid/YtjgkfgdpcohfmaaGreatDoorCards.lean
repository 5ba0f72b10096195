/-
  DERIVED. GIVEN WITH THE SEED: THE CARDS: each row of YtjgkfgdpcohfmaaGreatDoorRows.lean that lists a variable, with what it lists TIED to the program's text (the seventh form; the later family's looks); each row that meets fmt, with fmt's text TOLD by the authors' own Lean function (tested against real Go, not proved from fmt's source: count such statements apart). THE CARD IS WHAT COUNTS. Prove the row's statement (the work); the ties are given (YtjgkfgdpcohfmaaGreatDoorTie.lean); close each card by the builder's one call (the guide's Derived/Test/ToyasCard.lean, 'card_holds'). Laid BY PROGRAM, IN A SANDBOX (cutbox-door.mjs). By AI agents, Wed Nov 11 2026. No macro, syntax, notation, axiom, sorry.
-/
import Derived.Test.YtjgkfgdpcohfmaaGreatDoorRows
import GoSem.ClaimSeven
namespace Go.Proofs.YtjgkfgdpcohfmaaGreatDoor
namespace Rows

/-- THE TIED CARD OF 'arbaclaw53.LogLimits'. -/
def logLimitsCard : Claim7 := { stood := { row := logLimitsRow, standIns := [], harness := (true, "371e889c0417f76af27a16066544f45790112ff7f23e895e08218ea18bf7d484"), looks := true }, kinds := [], alts := [], laidByText := true, laidKinds := [.data, .pinned, .data, .data, .data, .sentinel, .sentinel], laidTests := true, laidLooks := .later }
def LogLimitsCardSaid : Prop := Claim7.holds Tryz.pinned (.plain (OpenSpec.ofChange logLimitsSpec)) logLimitsCard

/-- THE SECOND FORM's CARD OF 'arbaclaw53.LogLimits'. -/
def logLimitsUptoCard : Claim7 := { stood := { row := logLimitsUptoRow, standIns := [], harness := (true, "371e889c0417f76af27a16066544f45790112ff7f23e895e08218ea18bf7d484"), looks := true }, kinds := [], alts := [], laidByText := true, laidKinds := [.data, .pinned, .data, .data, .data, .sentinel, .sentinel], laidTests := true, laidLooks := .later }
def LogLimitsUptoCardSaid : Prop := Claim7.holds Tryz.pinned (.plain (OpenSpec.upto logLimitsSpec)) logLimitsUptoCard
end Rows
end Go.Proofs.YtjgkfgdpcohfmaaGreatDoor
