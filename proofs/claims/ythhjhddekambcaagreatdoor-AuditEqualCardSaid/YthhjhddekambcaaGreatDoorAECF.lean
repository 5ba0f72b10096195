/- A closed fact of the card. Conditions: none. -/
import Derived.Test.YthhjhddekambcaaGreatDoorCards
import Derived.SevenTiedAt
namespace Go.Proofs.YthhjhddekambcaaGreatDoor
theorem wfText : Rows.auditEqualRow.wfByText (OpenSpec.ofChange Rows.auditEqualSpec) = true := by kernel_rfl
theorem mainFact : Tryz.prog.mainIs = some (true, ("4be49f62d20758eb405c635094e4d6f18a5fc6c96b980572e342777d42d7e219" : String).toList) := by kernel_rfl
theorem looksFact : true = Tryz.prog.looks [] := by kernel_rfl
end Go.Proofs.YthhjhddekambcaaGreatDoor
