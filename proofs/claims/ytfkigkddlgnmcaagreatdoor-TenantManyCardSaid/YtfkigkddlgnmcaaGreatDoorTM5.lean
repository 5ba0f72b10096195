/- Closed facts of the row. Conditions: none. -/
import Derived.Test.YtfkigkddlgnmcaaGreatDoorRows
import Derived.JoinedOf
namespace Go.Proofs.YtfkigkddlgnmcaaGreatDoor
theorem cf10 : ((Rows.tenantManyRow.inPlace == Tryz.prog.inPlace 3)) = true := by kernel_rfl
theorem cf11 : ((Rows.tenantManyRow.unfollowed == Tryz.prog.unfollowed 3)) = true := by kernel_rfl
theorem cf12 : ((Rows.tenantManyRow.recurses == Tryz.prog.recurses 3)) = true := by kernel_rfl
theorem cf13 : ((Rows.tenantManyRow.named == Tryz.prog.varsNamed 3)) = true := by kernel_rfl
theorem cf26 : (Tryz.prog.mayEnter) = true := by kernel_rfl
end Go.Proofs.YtfkigkddlgnmcaaGreatDoor
