/- Trails of an audit: calls and runs (H0x14). Conditions: those of each theorem. -/
import Derived.Test.YtaffhpgaagnjfaaGreatDoorL0a
namespace Go.AEv
theorem ch0:JQ CH.JK (List.range 8)=true:=by kernel_rfl
theorem chz:CH.Uo=true:=by kernel_rfl
theorem zAT:CH.zz 0 0=true:=by kernel_rfl
theorem zAS:CH.zz 0 1=true:=by kernel_rfl
theorem zAR:CH.zz 0 2=true:=by kernel_rfl
theorem zAQ:CH.zz 0 3=true:=by kernel_rfl
theorem zAP:CH.zz 0 4=true:=by kernel_rfl
theorem zAO:CH.zz 0 5=true:=by kernel_rfl
theorem zAN:CH.zz 1 0=true:=by kernel_rfl
theorem zAM:CH.zz 1 1=true:=by kernel_rfl
theorem zAL:CH.zz 1 2=true:=by kernel_rfl
theorem zAK:CH.zz 1 3=true:=by kernel_rfl
theorem zAJ:CH.zz 1 4=true:=by kernel_rfl
theorem zAI:CH.zz 1 5=true:=by kernel_rfl
theorem zAH:CH.zz 2 0=true:=by kernel_rfl
theorem zAG:CH.zz 2 1=true:=by kernel_rfl
theorem zAF:CH.zz 2 2=true:=by kernel_rfl
theorem zAE:CH.zz 2 3=true:=by kernel_rfl
theorem zAD:CH.zz 2 4=true:=by kernel_rfl
theorem zAC:CH.zz 2 5=true:=by kernel_rfl
theorem zzg:KV.Qq ((List.range 4).map fun k=>Nat.add 73 k)=true:=by kernel_rfl
theorem zzf:KV.Qq ((List.range 4).map fun k=>Nat.add 77 k)=true:=by kernel_rfl
end Go.AEv
