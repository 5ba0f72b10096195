/-
  DERIVED. GIVEN WITH THE SEED: THE CARDS: each row of YtfkigkddlgnmcaaGreatDoorRows.lean that lists a variable, with what it lists TIED to the program's text (the seventh form; the later family's looks); each row that meets fmt, with fmt's text TOLD by the authors' own Lean function (tested against real Go, not proved from fmt's source: count such statements apart). THE CARD IS WHAT COUNTS. Prove the row's statement (the work); the ties are given (YtfkigkddlgnmcaaGreatDoorTie.lean); close each card by the builder's one call (the guide's Derived/Test/ToyasCard.lean, 'card_holds'). Laid BY PROGRAM, IN A SANDBOX (cutbox-door.mjs). By AI agents, Wed Nov 11 2026. No macro, syntax, notation, axiom, sorry.
-/
import Derived.Test.YtfkigkddlgnmcaaGreatDoorRows
import GoSem.ClaimSeven
namespace Go.Proofs.YtfkigkddlgnmcaaGreatDoor
namespace Rows

/-- THE TIED CARD OF 'arbaclaw26.TenantMany'. -/
def tenantManyCard : Claim7 := { stood := { row := tenantManyRow, standIns := [], harness := (true, "68814b7a9b093e5e3bb9b817f7d6b4787d19dc806367cec289ea39c79c42ae9c"), looks := true }, kinds := [], alts := [], laidByText := true, laidKinds := [.data, .data, .data, .data, .pinned], laidTests := true, laidLooks := .later }
def TenantManyCardSaid : Prop := Claim7.holds Tryz.pinned (.plain (OpenSpec.ofChange tenantManySpec)) tenantManyCard

/-- THE SECOND FORM's CARD OF 'arbaclaw26.TenantMany'. -/
def tenantManyUptoCard : Claim7 := { stood := { row := tenantManyUptoRow, standIns := [], harness := (true, "68814b7a9b093e5e3bb9b817f7d6b4787d19dc806367cec289ea39c79c42ae9c"), looks := true }, kinds := [], alts := [], laidByText := true, laidKinds := [.data, .data, .data, .data, .pinned], laidTests := true, laidLooks := .later }
def TenantManyUptoCardSaid : Prop := Claim7.holds Tryz.pinned (.plain (OpenSpec.upto tenantManySpec)) tenantManyUptoCard
end Rows
end Go.Proofs.YtfkigkddlgnmcaaGreatDoor
