/- Trails of an audit: calls and runs (H0x26). Conditions: those of each theorem. -/
import Derived.Test.YtaffhpgaagnjfaaGreatDoorL0a
namespace Go.AEv
theorem zBY:KS.Qq ((List.range 16).map fun k=>Nat.add 73 k)=true:=by kernel_rfl
theorem zDg:AP.Yq 6=true:=by kernel_rfl
theorem zDf:AP.Yq 7=true:=by kernel_rfl
end Go.AEv
