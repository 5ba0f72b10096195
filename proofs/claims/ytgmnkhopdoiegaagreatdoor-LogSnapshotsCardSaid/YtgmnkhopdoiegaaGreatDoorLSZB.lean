/- Closed facts of the row. Conditions: none. -/
import Derived.Test.YtgmnkhopdoiegaaGreatDoorRows
import Derived.JoinedOf
namespace Go.Proofs.YtgmnkhopdoiegaaGreatDoor
theorem cf10 : ((Rows.logSnapshotsRow.inPlace == Tryz.prog.inPlace 3)) = true := by kernel_rfl
theorem cf11 : ((Rows.logSnapshotsRow.unfollowed == Tryz.prog.unfollowed 3)) = true := by kernel_rfl
theorem cf12 : ((Rows.logSnapshotsRow.recurses == Tryz.prog.recurses 3)) = true := by kernel_rfl
end Go.Proofs.YtgmnkhopdoiegaaGreatDoor
