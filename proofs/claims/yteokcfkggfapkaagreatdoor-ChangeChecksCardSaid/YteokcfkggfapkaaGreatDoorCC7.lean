/- A closed fact of the card. Conditions: none. -/
import Derived.Test.YteokcfkggfapkaaGreatDoorCards
import Derived.SevenTiedAt
namespace Go.Proofs.YteokcfkggfapkaaGreatDoor
theorem goesFact : false = Rows.changeChecksRow.goesBy Tryz.prog := by kernel_rfl
end Go.Proofs.YteokcfkggfapkaaGreatDoor
