/- Trails of an audit: contracts of the calls, and runs of the evaluator (part H0x26). Conditions: those of each theorem. -/
import Derived.Test.YtaffhpgaagnjfaaGreatDoorL0a
namespace Go.AEv
theorem zxz:KS.ZP ((List.range 16).map fun k=>Nat.add 73 k)=true:=by kernel_rfl
end Go.AEv
namespace Go.AEv
theorem zyP:AP.JO 6=true:=by kernel_rfl
theorem zyO:AP.JO 7=true:=by kernel_rfl
end Go.AEv
