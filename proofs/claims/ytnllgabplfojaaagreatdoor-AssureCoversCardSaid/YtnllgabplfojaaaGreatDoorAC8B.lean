/- Closed facts of the row. Conditions: none. -/
import Derived.Test.YtnllgabplfojaaaGreatDoorRows
import Derived.JoinedOf
namespace Go.Proofs.YtnllgabplfojaaaGreatDoor
theorem cf13 : ((Rows.assureCoversRow.named == Tryz.prog.varsNamed 3)) = true := by kernel_rfl
theorem cf26 : (Tryz.prog.mayEnter) = true := by kernel_rfl
end Go.Proofs.YtnllgabplfojaaaGreatDoor
