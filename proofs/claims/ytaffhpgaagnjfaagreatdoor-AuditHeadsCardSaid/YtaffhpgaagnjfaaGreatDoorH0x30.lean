/- Trails of an audit: contracts of the calls, and runs of the evaluator (part H0x30). Conditions: those of each theorem. -/
import Derived.Test.YtaffhpgaagnjfaaGreatDoorL0a
namespace Go.AEv
theorem zyq:zgz 76 YD=true:=by kernel_rfl
end Go.AEv
namespace Go.AEv
theorem zxv:KS.ZP ((List.range 12).map fun k=>Nat.add 117 k)=true:=by kernel_rfl
end Go.AEv
namespace Go.AEv
theorem zxm:KV.chk 6=true:=by kernel_rfl
end Go.AEv
namespace Go.AEv
theorem zyV:AP.JO 0=true:=by kernel_rfl
theorem zyU:AP.JO 1=true:=by kernel_rfl
theorem zyT:AP.JO 2=true:=by kernel_rfl
theorem zyS:AP.JO 3=true:=by kernel_rfl
theorem zyR:AP.JO 4=true:=by kernel_rfl
theorem zyQ:AP.JO 5=true:=by kernel_rfl
end Go.AEv
