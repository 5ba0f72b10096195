/- Closed facts of the card. Conditions: none. -/
import Derived.Test.YteokcfkggfapkaaGreatDoorCards
import Derived.SevenTiedAt
namespace Go.Proofs.YteokcfkggfapkaaGreatDoor
theorem wfText : Rows.changeChecksRow.wfByText (OpenSpec.ofChange Rows.changeChecksSpec) = true := by kernel_rfl
theorem mainFact : Tryz.prog.mainIs = some (true, ("528fa34d1111375fd62fd4bafd7de84018822ac0f2bd39c9640860f32d4506a8" : String).toList) := by kernel_rfl
theorem looksFact : true = Tryz.prog.looks [] := by kernel_rfl
end Go.Proofs.YteokcfkggfapkaaGreatDoor
