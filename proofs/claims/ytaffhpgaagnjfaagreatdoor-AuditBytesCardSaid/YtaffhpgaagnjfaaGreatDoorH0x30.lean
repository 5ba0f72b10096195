/- Trails of an audit: calls and runs (H0x30). Conditions: those of each theorem. -/
import Derived.Test.YtaffhpgaagnjfaaGreatDoorL0a
namespace Go.AEv
section
open Go.Proofs
theorem zya:qP 1 0=true:=by kernel_rfl
theorem zx9:qP 1 1=true:=by kernel_rfl
theorem zx8:qP 1 2=true:=by kernel_rfl
theorem zx7:qP 1 3=true:=by kernel_rfl
theorem zx6:qP 1 4=true:=by kernel_rfl
end
theorem zBU:KS.Qq ((List.range 12).map fun k=>Nat.add 117 k)=true:=by kernel_rfl
end Go.AEv
