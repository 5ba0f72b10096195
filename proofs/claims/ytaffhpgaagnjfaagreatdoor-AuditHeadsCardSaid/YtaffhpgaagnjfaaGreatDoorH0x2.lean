/- The bytes of a record, the program's: the evaluator's runs. Conditions: none. -/
import Derived.Test.YtaffhpgaagnjfaaGreatDoorL0a
namespace Go.AEv
theorem zpK:EN.qc 5 false false false=true:=by kernel_rfl
theorem zpJ:EN.qc 5 false false true=true:=by kernel_rfl
theorem zpI:EN.qc 5 false true false=true:=by kernel_rfl
theorem zpH:EN.qc 5 false true true=true:=by kernel_rfl
theorem zpG:EN.qc 5 true false false=true:=by kernel_rfl
theorem zpF:EN.qc 5 true false true=true:=by kernel_rfl
theorem zpE:EN.qc 5 true true false=true:=by kernel_rfl
theorem zpD:EN.qc 5 true true true=true:=by kernel_rfl
end Go.AEv
