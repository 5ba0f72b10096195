/- A closed fact of the card. Conditions: none. -/
import Derived.Test.YtfkigkddlgnmcaaGreatDoorCards
import Derived.SevenTiedAt
namespace Go.Proofs.YtfkigkddlgnmcaaGreatDoor
theorem goesFact : false = Rows.tenantManyRow.goesBy Tryz.prog := by kernel_rfl
end Go.Proofs.YtfkigkddlgnmcaaGreatDoor
