/- Closed facts of the row. Conditions: none. -/
import Derived.Test.YtmlimgmmpjhifaaGreatDoorRows
import Derived.JoinedOf
set_option linter.all false
namespace Go.Proofs.YtmlimgmmpjhifaaGreatDoor
theorem cf13:((Rows.changeReadsRow.named==Tryz.prog.varsNamed 4))=true:=by kernel_rfl
theorem cf26:(Tryz.prog.mayEnter)=true:=by kernel_rfl
end Go.Proofs.YtmlimgmmpjhifaaGreatDoor
