/- Closed facts of the row. Conditions: none. -/
import Derived.Test.YthhjhddekambcaaGreatDoorRows
import Derived.JoinedOf
namespace Go.Proofs.YthhjhddekambcaaGreatDoor
theorem cf13 : ((Rows.auditEqualRow.named == Tryz.prog.varsNamed 3)) = true := by kernel_rfl
theorem cf26 : (Tryz.prog.mayEnter) = true := by kernel_rfl
end Go.Proofs.YthhjhddekambcaaGreatDoor
