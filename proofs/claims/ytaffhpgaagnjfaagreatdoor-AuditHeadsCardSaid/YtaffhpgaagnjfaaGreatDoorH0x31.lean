/- Trails of an audit: contracts of the calls, and runs of the evaluator (part H0x31). Conditions: those of each theorem. -/
import Derived.Test.YtaffhpgaagnjfaaGreatDoorL0a
namespace Go.AEv
open Go.Proofs
theorem ztd:qI 0 0=true:=by kernel_rfl
theorem ztc:qI 0 1=true:=by kernel_rfl
theorem ztb:qI 0 2=true:=by kernel_rfl
theorem zta:qI 0 3=true:=by kernel_rfl
theorem zs9:qI 0 4=true:=by kernel_rfl
end Go.AEv
namespace Go.AEv
open Go.Proofs
theorem zs3:qI 2 0=true:=by kernel_rfl
theorem zs2:qI 2 1=true:=by kernel_rfl
theorem zs1:qI 2 2=true:=by kernel_rfl
theorem zs0:qI 2 3=true:=by kernel_rfl
theorem zsZ:qI 2 4=true:=by kernel_rfl
end Go.AEv
