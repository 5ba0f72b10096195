/- Trails of an audit: calls and runs (H0x31). Conditions: those of each theorem. -/
import Derived.Test.YtaffhpgaagnjfaaGreatDoorL0a
namespace Go.AEv
section
open Go.Proofs
theorem zyf:qP 0 0=true:=by kernel_rfl
theorem zye:qP 0 1=true:=by kernel_rfl
theorem zyd:qP 0 2=true:=by kernel_rfl
theorem zyc:qP 0 3=true:=by kernel_rfl
theorem zyb:qP 0 4=true:=by kernel_rfl
end
theorem zB1:KR.zal ((List.range 12).map fun k=>Nat.add 0 k)=true:=by kernel_rfl
end Go.AEv
