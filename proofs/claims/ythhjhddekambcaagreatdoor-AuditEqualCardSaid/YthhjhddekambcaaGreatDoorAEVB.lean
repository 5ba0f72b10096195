/- Closed facts of the row. Conditions: none. -/
import Derived.Test.YthhjhddekambcaaGreatDoorRows
import Derived.JoinedOf
namespace Go.Proofs.YthhjhddekambcaaGreatDoor
theorem cf10 : ((Rows.auditEqualRow.inPlace == Tryz.prog.inPlace 3)) = true := by kernel_rfl
theorem cf11 : ((Rows.auditEqualRow.unfollowed == Tryz.prog.unfollowed 3)) = true := by kernel_rfl
theorem cf12 : ((Rows.auditEqualRow.recurses == Tryz.prog.recurses 3)) = true := by kernel_rfl
end Go.Proofs.YthhjhddekambcaaGreatDoor
