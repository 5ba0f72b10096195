/- The reference's keccak: the evaluator's runs. Conditions: none. -/
import Derived.Test.YtaffhpgaagnjfaaGreatDoorL0a
namespace Go.AEv
theorem zu1:KV.ZP ((List.range 4).map fun k=>Nat.add 57 k)=true:=by kernel_rfl
theorem zu0:KV.ZP ((List.range 4).map fun k=>Nat.add 61 k)=true:=by kernel_rfl
end Go.AEv
