/- The bytes of a record, the program's: the evaluator's runs. Conditions: none. -/
import Derived.Test.YtaffhpgaagnjfaaGreatDoorL0a
namespace Go.AEv
theorem zp0:EN.qc 3 false false false=true:=by kernel_rfl
theorem zpZ:EN.qc 3 false false true=true:=by kernel_rfl
theorem zpY:EN.qc 3 false true false=true:=by kernel_rfl
theorem zpX:EN.qc 3 false true true=true:=by kernel_rfl
theorem zpW:EN.qc 3 true false false=true:=by kernel_rfl
theorem zpV:EN.qc 3 true false true=true:=by kernel_rfl
theorem zpU:EN.qc 3 true true false=true:=by kernel_rfl
theorem zpT:EN.qc 3 true true true=true:=by kernel_rfl
end Go.AEv
