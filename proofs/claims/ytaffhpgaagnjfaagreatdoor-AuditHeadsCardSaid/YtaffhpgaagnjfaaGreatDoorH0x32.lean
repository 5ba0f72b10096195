/- Trails of an audit: contracts of the calls, and runs of the evaluator (part H0x32). Conditions: those of each theorem. -/
import Derived.Test.YtaffhpgaagnjfaaGreatDoorL0a
namespace Go.AEv
theorem zxC:KR.KO ((List.range 12).map fun k=>Nat.add 0 k)=true:=by kernel_rfl
end Go.AEv
namespace Go.AEv
theorem zxB:KR.KO ((List.range 12).map fun k=>Nat.add 12 k)=true:=by kernel_rfl
end Go.AEv
