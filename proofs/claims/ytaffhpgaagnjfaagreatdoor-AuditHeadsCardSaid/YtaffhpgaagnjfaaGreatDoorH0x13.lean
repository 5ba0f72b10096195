/- Trails of an audit: contracts of the calls, and runs of the evaluator (part H0x13). Conditions: those of each theorem. -/
import Derived.Test.YtaffhpgaagnjfaaGreatDoorL0a
namespace Go.AEv
open Go.Proofs
theorem zsP:Jb (zev 116) (rng 0 256)=true:=by kernel_rfl
theorem zy5:Jb (zev 114) (rng 0 256)=true:=by kernel_rfl
theorem zul:Jb (zev 115) (rng 0 256)=true:=by kernel_rfl
theorem pm1:Jb zrs (rng 0 256)=true:=by kernel_rfl
theorem zyu:zqz=true:=by kernel_rfl
end Go.AEv
namespace Go.AEv
theorem zuT:KV.ZP ((List.range 4).map fun k=>Nat.add 89 k)=true:=by kernel_rfl
theorem zuS:KV.ZP ((List.range 4).map fun k=>Nat.add 93 k)=true:=by kernel_rfl
end Go.AEv
