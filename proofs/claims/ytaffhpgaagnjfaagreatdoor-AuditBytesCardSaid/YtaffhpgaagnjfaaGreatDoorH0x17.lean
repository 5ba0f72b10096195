/- Trails of an audit: calls and runs (H0x17). Conditions: those of each theorem. -/
import Derived.Test.YtaffhpgaagnjfaaGreatDoorL0a
namespace Go.AEv
theorem zzc:KV.Qq ((List.range 4).map fun k=>Nat.add 89 k)=true:=by kernel_rfl
theorem zzb:KV.Qq ((List.range 4).map fun k=>Nat.add 93 k)=true:=by kernel_rfl
theorem rh5:(fun f:Nat->zo=>RH.run 5 5 ((List.range 10).map f))=fun _=>true:=by kernel_rfl
theorem rh6:(fun f:Nat->zo=>RH.run 6 6 ((List.range 12).map f))=fun _=>true:=by kernel_rfl
theorem rh7:(fun f:Nat->zo=>RH.run 7 7 ((List.range 14).map f))=fun _=>true:=by kernel_rfl
end Go.AEv
