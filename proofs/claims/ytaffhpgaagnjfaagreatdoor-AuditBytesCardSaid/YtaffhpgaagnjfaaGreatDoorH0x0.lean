/- Closed facts of the row. Conditions: none. -/
import Derived.Test.YtaffhpgaagnjfaaGreatDoorRows
import Derived.JoinedOf
namespace Go.Proofs.YtaffhpgaagnjfaaGreatDoor
theorem zCO:((Rows.auditBytesRow.inPlace==Tryz.prog.inPlace 4))=true:=by kernel_rfl
theorem zCN:((Rows.auditBytesRow.unfollowed==Tryz.prog.unfollowed 4))=true:=by kernel_rfl
theorem zCM:((Rows.auditBytesRow.recurses==Tryz.prog.recurses 4))=true:=by kernel_rfl
end Go.Proofs.YtaffhpgaagnjfaaGreatDoor
