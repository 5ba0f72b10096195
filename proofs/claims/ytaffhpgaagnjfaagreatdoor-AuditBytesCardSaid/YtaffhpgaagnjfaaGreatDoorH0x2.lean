/- The bytes of a record, the program's: the evaluator's runs. Conditions: none. -/
import Derived.Test.YtaffhpgaagnjfaaGreatDoorL0a
namespace Go.AEv
theorem zua:EN.ql 5 false false false=true:=by kernel_rfl
theorem zt9:EN.ql 5 false false true=true:=by kernel_rfl
theorem zt8:EN.ql 5 false true false=true:=by kernel_rfl
theorem zt7:EN.ql 5 false true true=true:=by kernel_rfl
theorem zt6:EN.ql 5 true false false=true:=by kernel_rfl
theorem zt5:EN.ql 5 true false true=true:=by kernel_rfl
theorem zt4:EN.ql 5 true true false=true:=by kernel_rfl
theorem zt3:EN.ql 5 true true true=true:=by kernel_rfl
end Go.AEv
