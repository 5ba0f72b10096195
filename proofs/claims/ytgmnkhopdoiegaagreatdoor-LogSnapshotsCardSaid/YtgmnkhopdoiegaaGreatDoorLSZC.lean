/- Closed facts of the row. Conditions: none. -/
import Derived.Test.YtgmnkhopdoiegaaGreatDoorRows
import Derived.JoinedOf
namespace Go.Proofs.YtgmnkhopdoiegaaGreatDoor
theorem cf13 : ((Rows.logSnapshotsRow.named == Tryz.prog.varsNamed 3)) = true := by kernel_rfl
theorem cf26 : (Tryz.prog.mayEnter) = true := by kernel_rfl
end Go.Proofs.YtgmnkhopdoiegaaGreatDoor
