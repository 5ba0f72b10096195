/- Trails of an audit: calls and runs (H0x23). Conditions: those of each theorem. -/
import Derived.Test.YtaffhpgaagnjfaaGreatDoorL0a
namespace Go.AEv
theorem kp1:KP.chk=true:=by kernel_rfl
theorem zDd:AR.Yr 0=true:=by kernel_rfl
theorem zDc:AR.Yr 1=true:=by kernel_rfl
theorem zDb:AR.Yr 2=true:=by kernel_rfl
theorem zDa:AR.Yr 3=true:=by kernel_rfl
theorem zC9:AR.Yr 4=true:=by kernel_rfl
theorem zC8:AR.Yr 5=true:=by kernel_rfl
theorem zC7:AR.Yr 6=true:=by kernel_rfl
theorem zC6:AR.Yr 7=true:=by kernel_rfl
theorem zC5:AR.Yr 8=true:=by kernel_rfl
end Go.AEv
