/- Closed facts of the row. Conditions: none. -/
import Derived.Test.YtnllgabplfojaaaGreatDoorRows
import Derived.JoinedOf
namespace Go.Proofs.YtnllgabplfojaaaGreatDoor
theorem cf10 : ((Rows.assureCoversRow.inPlace == Tryz.prog.inPlace 3)) = true := by kernel_rfl
theorem cf11 : ((Rows.assureCoversRow.unfollowed == Tryz.prog.unfollowed 3)) = true := by kernel_rfl
theorem cf12 : ((Rows.assureCoversRow.recurses == Tryz.prog.recurses 3)) = true := by kernel_rfl
end Go.Proofs.YtnllgabplfojaaaGreatDoor
