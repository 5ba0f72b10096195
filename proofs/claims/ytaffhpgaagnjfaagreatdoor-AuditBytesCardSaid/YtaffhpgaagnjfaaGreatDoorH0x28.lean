/- Trails of an audit: calls and runs (H0x28). Conditions: those of each theorem. -/
import Derived.Test.YtaffhpgaagnjfaaGreatDoorL0a
namespace Go.AEv
theorem zBZ:KS.Qq ((List.range 16).map fun k=>Nat.add 57 k)=true:=by kernel_rfl
theorem zC4:AR.Yq 0=true:=by kernel_rfl
theorem zC3:AR.Yq 1=true:=by kernel_rfl
theorem zC2:AR.Yq 2=true:=by kernel_rfl
theorem zC1:AR.Yq 3=true:=by kernel_rfl
theorem zC0:AR.Yq 4=true:=by kernel_rfl
theorem zCZ:AR.Yq 5=true:=by kernel_rfl
theorem zCY:AR.Yq 6=true:=by kernel_rfl
end Go.AEv
