/- Closed facts of the row. Conditions: none. -/
import Derived.Test.YtmlimgmmpjhifaaGreatDoorRows
import Derived.JoinedOf
set_option linter.all false
namespace Go.Proofs.YtmlimgmmpjhifaaGreatDoor
theorem cf10:((Rows.changeReadsRow.inPlace==Tryz.prog.inPlace 4))=true:=by kernel_rfl
theorem cf11:((Rows.changeReadsRow.unfollowed==Tryz.prog.unfollowed 4))=true:=by kernel_rfl
theorem cf12:((Rows.changeReadsRow.recurses==Tryz.prog.recurses 4))=true:=by kernel_rfl
end Go.Proofs.YtmlimgmmpjhifaaGreatDoor
