/- Trails of an audit: contracts of the calls, and runs of the evaluator (part H0x28). Conditions: those of each theorem. -/
import Derived.Test.YtaffhpgaagnjfaaGreatDoorL0a
namespace Go.AEv
theorem zxw:KS.ZP ((List.range 12).map fun k=>Nat.add 105 k)=true:=by kernel_rfl
end Go.AEv
namespace Go.AEv
theorem zyD:AR.JO 0=true:=by kernel_rfl
theorem zyC:AR.JO 1=true:=by kernel_rfl
theorem zyB:AR.JO 2=true:=by kernel_rfl
theorem zyA:AR.JO 3=true:=by kernel_rfl
theorem zyz:AR.JO 4=true:=by kernel_rfl
theorem zyy:AR.JO 5=true:=by kernel_rfl
theorem zyx:AR.JO 6=true:=by kernel_rfl
end Go.AEv
