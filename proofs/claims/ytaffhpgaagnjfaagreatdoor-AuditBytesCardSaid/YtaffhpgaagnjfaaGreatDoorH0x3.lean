/- The bytes of a record, the program's: the evaluator's runs. Conditions: none. -/
import Derived.Test.YtaffhpgaagnjfaaGreatDoorL0a
namespace Go.AEv
theorem zui:EN.ql 4 false false false=true:=by kernel_rfl
theorem zuh:EN.ql 4 false false true=true:=by kernel_rfl
theorem zug:EN.ql 4 false true false=true:=by kernel_rfl
theorem zuf:EN.ql 4 false true true=true:=by kernel_rfl
theorem zue:EN.ql 4 true false false=true:=by kernel_rfl
theorem zud:EN.ql 4 true false true=true:=by kernel_rfl
theorem zuc:EN.ql 4 true true false=true:=by kernel_rfl
theorem zub:EN.ql 4 true true true=true:=by kernel_rfl
end Go.AEv
