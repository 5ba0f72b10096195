/- Trails of an audit: calls and runs (H0x32). Conditions: those of each theorem. -/
import Derived.Test.YtaffhpgaagnjfaaGreatDoorL0a
namespace Go.AEv
section
open Go.Proofs
theorem zx5:qP 2 0=true:=by kernel_rfl
theorem zx4:qP 2 1=true:=by kernel_rfl
theorem zx3:qP 2 2=true:=by kernel_rfl
theorem zx2:qP 2 3=true:=by kernel_rfl
theorem zx1:qP 2 4=true:=by kernel_rfl
end
theorem zB0:KR.zal ((List.range 12).map fun k=>Nat.add 12 k)=true:=by kernel_rfl
end Go.AEv
