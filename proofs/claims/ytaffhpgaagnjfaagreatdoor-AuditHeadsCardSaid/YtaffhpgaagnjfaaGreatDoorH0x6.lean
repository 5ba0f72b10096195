/- The reference's keccak: the evaluator's runs. Conditions: none. -/
import Derived.Test.YtaffhpgaagnjfaaGreatDoorL0a
namespace Go.AEv
theorem zuV:KV.ZP ((List.range 4).map fun k=>Nat.add 81 k)=true:=by kernel_rfl
theorem zuU:KV.ZP ((List.range 4).map fun k=>Nat.add 85 k)=true:=by kernel_rfl
end Go.AEv
