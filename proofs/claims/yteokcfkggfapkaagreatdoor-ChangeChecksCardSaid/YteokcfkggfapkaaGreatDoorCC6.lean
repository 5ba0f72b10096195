/- Closed facts of the row. Conditions: none. -/
import Derived.Test.YteokcfkggfapkaaGreatDoorRows
import Derived.JoinedOf
namespace Go.Proofs.YteokcfkggfapkaaGreatDoor
theorem cf10 : ((Rows.changeChecksRow.inPlace == Tryz.prog.inPlace 3)) = true := by kernel_rfl
theorem cf11 : ((Rows.changeChecksRow.unfollowed == Tryz.prog.unfollowed 3)) = true := by kernel_rfl
theorem cf12 : ((Rows.changeChecksRow.recurses == Tryz.prog.recurses 3)) = true := by kernel_rfl
theorem cf13 : ((Rows.changeChecksRow.named == Tryz.prog.varsNamed 3)) = true := by kernel_rfl
theorem cf26 : (Tryz.prog.mayEnter) = true := by kernel_rfl
end Go.Proofs.YteokcfkggfapkaaGreatDoor
