/- Trails of an audit: calls and runs (H0x16). Conditions: those of each theorem. -/
import Derived.Test.YtaffhpgaagnjfaaGreatDoorL0a
namespace Go.AEv
theorem zAB:CH.zz 3 0=true:=by kernel_rfl
theorem zAA:CH.zz 3 1=true:=by kernel_rfl
theorem zAz:CH.zz 3 2=true:=by kernel_rfl
theorem zAy:CH.zz 3 3=true:=by kernel_rfl
theorem zAx:CH.zz 3 4=true:=by kernel_rfl
theorem zAw:CH.zz 3 5=true:=by kernel_rfl
theorem zAv:CH.zz 4 0=true:=by kernel_rfl
theorem zAu:CH.zz 4 1=true:=by kernel_rfl
theorem zAt:CH.zz 4 2=true:=by kernel_rfl
theorem zAs:CH.zz 4 3=true:=by kernel_rfl
theorem zAr:CH.zz 4 4=true:=by kernel_rfl
theorem zAq:CH.zz 4 5=true:=by kernel_rfl
theorem zzi:KV.Qq ((List.range 4).map fun k=>Nat.add 65 k)=true:=by kernel_rfl
theorem zzh:KV.Qq ((List.range 4).map fun k=>Nat.add 69 k)=true:=by kernel_rfl
end Go.AEv
