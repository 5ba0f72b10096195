/- Trails of an audit: calls and runs (H0x18). Conditions: those of each theorem. -/
import Derived.Test.YtaffhpgaagnjfaaGreatDoorL0a
namespace Go.AEv
theorem zza:KV.Qq ((List.range 4).map fun k=>Nat.add 97 k)=true:=by kernel_rfl
theorem zy9:KV.Qq ((List.range 4).map fun k=>Nat.add 101 k)=true:=by kernel_rfl
theorem zzm:KT.zdy 31 82 29 KP.tabs ((List.range 24).map fun k=>Nat.add 40 k)=true:=by kernel_rfl
end Go.AEv
