/- Trails of an audit: calls and runs (H0x13). Conditions: those of each theorem. -/
import Derived.Test.YtaffhpgaagnjfaaGreatDoorL0a
namespace Go.AEv
theorem zzP:CK.zz 5 0=true:=by kernel_rfl
theorem zzO:CK.zz 5 1=true:=by kernel_rfl
theorem zzN:CK.zz 5 2=true:=by kernel_rfl
theorem zzM:CK.zz 5 3=true:=by kernel_rfl
theorem zzL:CK.zz 5 4=true:=by kernel_rfl
theorem zzK:CK.zz 5 5=true:=by kernel_rfl
theorem zuy:EN.ql 2 false false false=true:=by kernel_rfl
theorem zux:EN.ql 2 false false true=true:=by kernel_rfl
theorem zuw:EN.ql 2 false true false=true:=by kernel_rfl
theorem zuv:EN.ql 2 false true true=true:=by kernel_rfl
theorem zuu:EN.ql 2 true false false=true:=by kernel_rfl
theorem zut:EN.ql 2 true false true=true:=by kernel_rfl
theorem zus:EN.ql 2 true true false=true:=by kernel_rfl
theorem zur:EN.ql 2 true true true=true:=by kernel_rfl
end Go.AEv
