/- Trails of an audit: contracts of the calls, and runs of the evaluator (part H0x35). Conditions: those of each theorem. -/
import Derived.Test.YtaffhpgaagnjfaaGreatDoorL0a
namespace Go.AEv
theorem zyM:AR.JP 0=true:=by kernel_rfl
theorem zyL:AR.JP 1=true:=by kernel_rfl
theorem zyK:AR.JP 2=true:=by kernel_rfl
theorem zyJ:AR.JP 3=true:=by kernel_rfl
theorem zyI:AR.JP 4=true:=by kernel_rfl
theorem zyH:AR.JP 5=true:=by kernel_rfl
theorem zyG:AR.JP 6=true:=by kernel_rfl
theorem zyF:AR.JP 7=true:=by kernel_rfl
theorem zyE:AR.JP 8=true:=by kernel_rfl
end Go.AEv
namespace Go.AEv
theorem zw3:TC.zbG 0=true:=by kernel_rfl
theorem zw2:TC.zbG 1=true:=by kernel_rfl
theorem zw1:TC.zbG 2=true:=by kernel_rfl
theorem zw0:TC.zbG 3=true:=by kernel_rfl
theorem zwZ:TC.zbG 4=true:=by kernel_rfl
theorem zwY:TC.zbG 5=true:=by kernel_rfl
theorem zwX:TC.zbG 6=true:=by kernel_rfl
theorem zwW:TC.zbG 7=true:=by kernel_rfl
theorem zwV:TC.zbG 8=true:=by kernel_rfl
theorem tcc:TC.zgC=true:=by kernel_rfl
theorem tcn:TC.zn7=true:=by kernel_rfl
theorem tcw:TC.Q6=true:=by kernel_rfl
theorem tcr:AP.yq TC.ziC=true:=by kernel_rfl
end Go.AEv
