/- Closed facts of the row. Conditions: none. -/
import Derived.Test.YtaffhpgaagnjfaaGreatDoorRows
import Derived.JoinedOf
namespace Go.Proofs.YtaffhpgaagnjfaaGreatDoor
theorem zyk:((Rows.auditHeadsRow.named==Tryz.prog.varsNamed 3))=true:=by kernel_rfl
theorem zx7:(Tryz.prog.mayEnter)=true:=by kernel_rfl
end Go.Proofs.YtaffhpgaagnjfaaGreatDoor
