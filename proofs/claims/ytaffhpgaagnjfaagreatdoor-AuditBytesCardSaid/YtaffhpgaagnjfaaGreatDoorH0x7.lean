/- Trails of an audit: calls and runs (H0x7). Conditions: those of each theorem. -/
import Derived.Test.YtaffhpgaagnjfaaGreatDoorL0a
namespace Go.AEv
section
open Go.Proofs
theorem zhN:zgu 1=true:=by kernel_rfl
theorem zBG:zgu 2=true:=by kernel_rfl
theorem zBF:zgu 3=true:=by kernel_rfl
theorem zca:zuY=true:=by kernel_rfl
theorem zhq:zuZ=true:=by kernel_rfl
theorem zs5:JQ zov (rng 0 6)=true:=by kernel_rfl
theorem zzB:zmU true=true:=by kernel_rfl
theorem zzC:zmU false=true:=by kernel_rfl
theorem zyP:XA 1=true:=by kernel_rfl
theorem zyO:XA 2=true:=by kernel_rfl
theorem zyN:XA 3=true:=by kernel_rfl
theorem zyM:XA 4=true:=by kernel_rfl
theorem zyL:XA 5=true:=by kernel_rfl
theorem zwM:zfi=true:=by kernel_rfl
theorem zyQ:zr2=true:=by kernel_rfl
theorem zvd:YS 0 0=true:=by kernel_rfl
theorem zvc:YS 0 1=true:=by kernel_rfl
theorem zvb:YS 1 0=true:=by kernel_rfl
theorem zva:YS 1 1=true:=by kernel_rfl
end
theorem zzk:KV.Qq ((List.range 4).map fun k=>Nat.add 57 k)=true:=by kernel_rfl
theorem zzj:KV.Qq ((List.range 4).map fun k=>Nat.add 61 k)=true:=by kernel_rfl
end Go.AEv
