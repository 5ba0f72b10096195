/- The bytes of a record, the program's: the evaluator's runs. Conditions: none. -/
import Derived.Test.YtaffhpgaagnjfaaGreatDoorL0a
namespace Go.AEv
theorem zuq:EN.ql 3 false false false=true:=by kernel_rfl
theorem zup:EN.ql 3 false false true=true:=by kernel_rfl
theorem zuo:EN.ql 3 false true false=true:=by kernel_rfl
theorem zun:EN.ql 3 false true true=true:=by kernel_rfl
theorem zum:EN.ql 3 true false false=true:=by kernel_rfl
theorem zul:EN.ql 3 true false true=true:=by kernel_rfl
theorem zuk:EN.ql 3 true true false=true:=by kernel_rfl
theorem zuj:EN.ql 3 true true true=true:=by kernel_rfl
end Go.AEv
