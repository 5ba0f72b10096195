/- Trails of an audit: contracts of the calls, and runs of the evaluator (part H0x14). Conditions: those of each theorem. -/
import Derived.Test.YtaffhpgaagnjfaaGreatDoorL0a
namespace Go.AEv
theorem zvs:CK.zz 5 0=true:=by kernel_rfl
theorem zvr:CK.zz 5 1=true:=by kernel_rfl
theorem zvq:CK.zz 5 2=true:=by kernel_rfl
theorem zvp:CK.zz 5 3=true:=by kernel_rfl
theorem zvo:CK.zz 5 4=true:=by kernel_rfl
theorem zvn:CK.zz 5 5=true:=by kernel_rfl
end Go.AEv
namespace Go.AEv
theorem zuR:KV.ZP ((List.range 4).map fun k=>Nat.add 97 k)=true:=by kernel_rfl
theorem zuQ:KV.ZP ((List.range 4).map fun k=>Nat.add 101 k)=true:=by kernel_rfl
end Go.AEv
