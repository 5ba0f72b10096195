/- Closed facts of the row. Conditions: none. -/
import Derived.Test.YtaffhpgaagnjfaaGreatDoorRows
import Derived.JoinedOf
namespace Go.Proofs.YtaffhpgaagnjfaaGreatDoor
theorem zyn:((Rows.auditHeadsRow.inPlace==Tryz.prog.inPlace 3))=true:=by kernel_rfl
theorem zym:((Rows.auditHeadsRow.unfollowed==Tryz.prog.unfollowed 3))=true:=by kernel_rfl
theorem zyl:((Rows.auditHeadsRow.recurses==Tryz.prog.recurses 3))=true:=by kernel_rfl
end Go.Proofs.YtaffhpgaagnjfaaGreatDoor
