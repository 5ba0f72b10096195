/- The bytes of a record, the program's: the evaluator's runs. Conditions: none. -/
import Derived.Test.YtaffhpgaagnjfaaGreatDoorL0a
namespace Go.AEv
theorem zpS:EN.qc 4 false false false=true:=by kernel_rfl
theorem zpR:EN.qc 4 false false true=true:=by kernel_rfl
theorem zpQ:EN.qc 4 false true false=true:=by kernel_rfl
theorem zpP:EN.qc 4 false true true=true:=by kernel_rfl
theorem zpO:EN.qc 4 true false false=true:=by kernel_rfl
theorem zpN:EN.qc 4 true false true=true:=by kernel_rfl
theorem zpM:EN.qc 4 true true false=true:=by kernel_rfl
theorem zpL:EN.qc 4 true true true=true:=by kernel_rfl
end Go.AEv
