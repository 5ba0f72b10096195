/- Trails of an audit: contracts of the calls, and runs of the evaluator (part H0x16). Conditions: those of each theorem. -/
import Derived.Test.YtaffhpgaagnjfaaGreatDoorL0a
namespace Go.AEv
theorem zuL:KV.ZP ((List.range 4).map fun k=>Nat.add 121 k)=true:=by kernel_rfl
theorem zuK:KV.ZP ((List.range 4).map fun k=>Nat.add 125 k)=true:=by kernel_rfl
end Go.AEv
namespace Go.AEv
theorem zu2:KT.zbF 31 82 29 KP.tabs ((List.range 24).map fun k=>Nat.add 64 k)=true:=by kernel_rfl
end Go.AEv
