/- Trails of an audit: contracts of the calls, and runs of the evaluator (part H0x27). Conditions: those of each theorem. -/
import Derived.Test.YtaffhpgaagnjfaaGreatDoorL0a
namespace Go.AEv
theorem zxA:KS.ZP ((List.range 16).map fun k=>Nat.add 57 k)=true:=by kernel_rfl
end Go.AEv
namespace Go.AEv
theorem zyw:AR.JO 7=true:=by kernel_rfl
theorem zyv:AR.JO 8=true:=by kernel_rfl
end Go.AEv
