/- Trails of an audit: calls and runs (H0x15). Conditions: those of each theorem. -/
import Derived.Test.YtaffhpgaagnjfaaGreatDoorL0a
namespace Go.AEv
section
open Go.Proofs
theorem zxP:JQ (zgt 116) (rng 0 256)=true:=by kernel_rfl
theorem zDw:JQ (zgt 114) (rng 0 256)=true:=by kernel_rfl
theorem zyx:JQ (zgt 115) (rng 0 256)=true:=by kernel_rfl
theorem pm1:JQ zvZ (rng 0 256)=true:=by kernel_rfl
theorem zCV:zu2=true:=by kernel_rfl
end
theorem zze:KV.Qq ((List.range 4).map fun k=>Nat.add 81 k)=true:=by kernel_rfl
theorem zzd:KV.Qq ((List.range 4).map fun k=>Nat.add 85 k)=true:=by kernel_rfl
end Go.AEv
