/- Trails of an audit: calls and runs (H0x8). Conditions: those of each theorem. -/
import Derived.Test.YtaffhpgaagnjfaaGreatDoorL0a
import Derived.JoinedOf
namespace Go.AEv
theorem zCS:ziX 76 Xg=true:=by kernel_rfl
end Go.AEv
namespace Go.Proofs.YtaffhpgaagnjfaaGreatDoor
theorem zCL:((Rows.auditBytesRow.named==Tryz.prog.varsNamed 4))=true:=by kernel_rfl
theorem zCy:(Tryz.prog.mayEnter)=true:=by kernel_rfl
end Go.Proofs.YtaffhpgaagnjfaaGreatDoor
