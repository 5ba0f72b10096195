/- Closed facts of the card. Conditions: none. -/
import Derived.Test.YtfkigkddlgnmcaaGreatDoorCards
import Derived.SevenTiedAt
namespace Go.Proofs.YtfkigkddlgnmcaaGreatDoor
theorem wfText : Rows.tenantManyRow.wfByText (OpenSpec.ofChange Rows.tenantManySpec) = true := by kernel_rfl
theorem mainFact : Tryz.prog.mainIs = some (true, ("68814b7a9b093e5e3bb9b817f7d6b4787d19dc806367cec289ea39c79c42ae9c" : String).toList) := by kernel_rfl
theorem looksFact : true = Tryz.prog.looks [] := by kernel_rfl
end Go.Proofs.YtfkigkddlgnmcaaGreatDoor
