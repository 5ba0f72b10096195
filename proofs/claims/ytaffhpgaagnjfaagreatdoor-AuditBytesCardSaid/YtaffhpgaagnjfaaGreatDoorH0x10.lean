/- Trails of an audit: calls and runs (H0x10). Conditions: those of each theorem. -/
import Derived.Test.YtaffhpgaagnjfaaGreatDoorL0a
namespace Go.AEv
theorem zy6:KV.Qq ((List.range 4).map fun k=>Nat.add 113 k)=true:=by kernel_rfl
theorem zy5:KV.Qq ((List.range 4).map fun k=>Nat.add 117 k)=true:=by kernel_rfl
theorem zzl:KT.zdy 31 82 29 KP.tabs ((List.range 24).map fun k=>Nat.add 64 k)=true:=by kernel_rfl
end Go.AEv
