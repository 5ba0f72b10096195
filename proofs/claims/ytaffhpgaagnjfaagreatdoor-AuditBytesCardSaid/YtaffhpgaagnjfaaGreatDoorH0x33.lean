/- Trails of an audit: calls and runs (H0x33). Conditions: those of each theorem. -/
import Derived.Test.YtaffhpgaagnjfaaGreatDoorL0a
namespace Go.AEv
section
open Go.Proofs
theorem fl0:zam 0=true:=by kernel_rfl
theorem fl1:zam 1=true:=by kernel_rfl
theorem fl2:zam 2=true:=by kernel_rfl
theorem fl3:zam 3=true:=by kernel_rfl
theorem fl4:zam 4=true:=by kernel_rfl
end
theorem zCX:AR.Yq 7=true:=by kernel_rfl
theorem zCW:AR.Yq 8=true:=by kernel_rfl
section
open Go.Proofs
theorem zBK:JL=true:=by kernel_rfl
theorem zwb:ziY=true:=by kernel_rfl
end
end Go.AEv
