/- Trails of an audit: calls and runs (H0x19). Conditions: those of each theorem. -/
import Derived.Test.YtaffhpgaagnjfaaGreatDoorL0a
import Derived.Test.YtaffhpgaagnjfaaGreatDoorCards
import Derived.SevenTiedAt
namespace Go.AEv
theorem zuG:EN.ql 1 false false false=true:=by kernel_rfl
theorem zuF:EN.ql 1 false false true=true:=by kernel_rfl
theorem zuE:EN.ql 1 false true false=true:=by kernel_rfl
theorem zuD:EN.ql 1 false true true=true:=by kernel_rfl
theorem zuC:EN.ql 1 true false false=true:=by kernel_rfl
theorem zuB:EN.ql 1 true false true=true:=by kernel_rfl
theorem zuA:EN.ql 1 true true false=true:=by kernel_rfl
theorem zuz:EN.ql 1 true true true=true:=by kernel_rfl
end Go.AEv
namespace Go.Proofs.YtaffhpgaagnjfaaGreatDoor
theorem zv8:Rows.auditBytesRow.wfByText (OpenSpec.ofChange Rows.auditBytesSpec)=true:=by kernel_rfl
theorem zqK:Tryz.prog.mainIs=some (true,("0c87422db3d29feb9bc90f90323f6172cda45bea840dfa60a054d18854ce3ea6" : String).toList):=by kernel_rfl
theorem znW:true=Tryz.prog.looks []:=by kernel_rfl
end Go.Proofs.YtaffhpgaagnjfaaGreatDoor
