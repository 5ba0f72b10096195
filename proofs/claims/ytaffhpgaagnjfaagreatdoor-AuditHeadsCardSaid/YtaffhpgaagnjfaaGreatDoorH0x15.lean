/- Trails of an audit: contracts of the calls, and runs of the evaluator (part H0x15). Conditions: those of each theorem. -/
import Derived.Test.YtaffhpgaagnjfaaGreatDoorL0a
import Derived.Test.YtaffhpgaagnjfaaGreatDoorCards
import Derived.SevenTiedAt
namespace Go.AEv
theorem zqg:EN.qc 1 false false false=true:=by kernel_rfl
theorem zqf:EN.qc 1 false false true=true:=by kernel_rfl
theorem zqe:EN.qc 1 false true false=true:=by kernel_rfl
theorem zqd:EN.qc 1 false true true=true:=by kernel_rfl
theorem zqc:EN.qc 1 true false false=true:=by kernel_rfl
theorem zqb:EN.qc 1 true false true=true:=by kernel_rfl
theorem zqa:EN.qc 1 true true false=true:=by kernel_rfl
theorem zp9:EN.qc 1 true true true=true:=by kernel_rfl
end Go.AEv
namespace Go.Proofs.YtaffhpgaagnjfaaGreatDoor
theorem zrz:Rows.auditHeadsRow.wfByText (OpenSpec.ofChange Rows.auditHeadsSpec)=true:=by kernel_rfl
theorem zm8:Tryz.prog.mainIs=some (true,("0c87422db3d29feb9bc90f90323f6172cda45bea840dfa60a054d18854ce3ea6" : String).toList):=by kernel_rfl
theorem zk4:true=Tryz.prog.looks []:=by kernel_rfl
end Go.Proofs.YtaffhpgaagnjfaaGreatDoor
