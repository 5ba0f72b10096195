/- Closed facts of the row. Conditions: none. -/
import Derived.Test.YtjgkfgdpcohfmaaGreatDoorRows
import Derived.JoinedOf
namespace Go.Proofs.YtjgkfgdpcohfmaaGreatDoor
theorem cf10 : ((Rows.logLimitsRow.inPlace == Tryz.prog.inPlace 3)) = true := by kernel_rfl
theorem cf11 : ((Rows.logLimitsRow.unfollowed == Tryz.prog.unfollowed 3)) = true := by kernel_rfl
theorem cf12 : ((Rows.logLimitsRow.recurses == Tryz.prog.recurses 3)) = true := by kernel_rfl
end Go.Proofs.YtjgkfgdpcohfmaaGreatDoor
