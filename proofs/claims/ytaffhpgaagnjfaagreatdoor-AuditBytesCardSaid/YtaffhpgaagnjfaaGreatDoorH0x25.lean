/- Trails of an audit: calls and runs (H0x25). Conditions: those of each theorem. -/
import Derived.Test.YtaffhpgaagnjfaaGreatDoorL0a
namespace Go.AEv
theorem zBX:KS.Qq ((List.range 16).map fun k=>Nat.add 89 k)=true:=by kernel_rfl
theorem zDe:AP.Yq 8=true:=by kernel_rfl
end Go.AEv
