/- Trails of an audit: contracts of the calls, and runs of the evaluator (part H0x21). Conditions: those of each theorem. -/
import Derived.Test.YtaffhpgaagnjfaaGreatDoorL0a
namespace Go.AEv
theorem zqo:EN.qc 0 false false false=true:=by kernel_rfl
theorem zqn:EN.qc 0 false false true=true:=by kernel_rfl
theorem zqm:EN.qc 0 false true false=true:=by kernel_rfl
theorem zql:EN.qc 0 false true true=true:=by kernel_rfl
theorem zqk:EN.qc 0 true false false=true:=by kernel_rfl
theorem zqj:EN.qc 0 true false true=true:=by kernel_rfl
theorem zqi:EN.qc 0 true true false=true:=by kernel_rfl
theorem zqh:EN.qc 0 true true true=true:=by kernel_rfl
theorem enz:EN.Sh.chk ⟨0,0,true,true,false,false⟩=true:=by kernel_rfl
end Go.AEv
namespace Go.AEv
theorem zy4:AP.JP 0=true:=by kernel_rfl
theorem zy3:AP.JP 1=true:=by kernel_rfl
theorem zy2:AP.JP 2=true:=by kernel_rfl
theorem zy1:AP.JP 3=true:=by kernel_rfl
theorem zy0:AP.JP 4=true:=by kernel_rfl
end Go.AEv
