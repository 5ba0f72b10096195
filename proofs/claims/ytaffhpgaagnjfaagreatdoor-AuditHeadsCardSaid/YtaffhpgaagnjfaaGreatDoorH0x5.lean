/- The reference's keccak: the evaluator's runs. Conditions: none. -/
import Derived.Test.YtaffhpgaagnjfaaGreatDoorL0a
namespace Go.AEv
theorem zuX:KV.ZP ((List.range 4).map fun k=>Nat.add 73 k)=true:=by kernel_rfl
theorem zuW:KV.ZP ((List.range 4).map fun k=>Nat.add 77 k)=true:=by kernel_rfl
end Go.AEv
