/- Closed facts of the row. Conditions: none. -/
import Derived.Test.YtjgkfgdpcohfmaaGreatDoorRows
import Derived.JoinedOf
namespace Go.Proofs.YtjgkfgdpcohfmaaGreatDoor
theorem cf13 : ((Rows.logLimitsRow.named == Tryz.prog.varsNamed 3)) = true := by kernel_rfl
theorem cf26 : (Tryz.prog.mayEnter) = true := by kernel_rfl
end Go.Proofs.YtjgkfgdpcohfmaaGreatDoor
