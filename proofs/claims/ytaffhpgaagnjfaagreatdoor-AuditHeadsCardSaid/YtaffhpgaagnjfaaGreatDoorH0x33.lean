/- Trails of an audit: contracts of the calls, and runs of the evaluator (part H0x33). Conditions: those of each theorem. -/
import Derived.Test.YtaffhpgaagnjfaaGreatDoorL0a
namespace Go.AEv
open Go.Proofs
theorem zs8:qI 1 0=true:=by kernel_rfl
theorem zs7:qI 1 1=true:=by kernel_rfl
theorem zs6:qI 1 2=true:=by kernel_rfl
theorem zs5:qI 1 3=true:=by kernel_rfl
theorem zs4:qI 1 4=true:=by kernel_rfl
end Go.AEv
namespace Go.AEv
theorem ck0:Jb CK.Q5 (List.range 12)=true:=by kernel_rfl
theorem ckz:CK.VZ=true:=by kernel_rfl
theorem zvW:CK.zz 0 0=true:=by kernel_rfl
theorem zvV:CK.zz 0 1=true:=by kernel_rfl
theorem zvU:CK.zz 0 2=true:=by kernel_rfl
theorem zvT:CK.zz 0 3=true:=by kernel_rfl
theorem zvS:CK.zz 0 4=true:=by kernel_rfl
theorem zvR:CK.zz 0 5=true:=by kernel_rfl
theorem zvQ:CK.zz 1 0=true:=by kernel_rfl
theorem zvP:CK.zz 1 1=true:=by kernel_rfl
theorem zvO:CK.zz 1 2=true:=by kernel_rfl
theorem zvN:CK.zz 1 3=true:=by kernel_rfl
theorem zvM:CK.zz 1 4=true:=by kernel_rfl
theorem zvL:CK.zz 1 5=true:=by kernel_rfl
theorem zvK:CK.zz 2 0=true:=by kernel_rfl
theorem zvJ:CK.zz 2 1=true:=by kernel_rfl
theorem zvI:CK.zz 2 2=true:=by kernel_rfl
theorem zvH:CK.zz 2 3=true:=by kernel_rfl
theorem zvG:CK.zz 2 4=true:=by kernel_rfl
theorem zvF:CK.zz 2 5=true:=by kernel_rfl
end Go.AEv
namespace Go.AEv
theorem zyZ:AP.JP 5=true:=by kernel_rfl
theorem zyY:AP.JP 6=true:=by kernel_rfl
theorem zyX:AP.JP 7=true:=by kernel_rfl
theorem zyW:AP.JP 8=true:=by kernel_rfl
end Go.AEv
