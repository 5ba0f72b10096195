/- Trails of an audit: contracts of the calls, and runs of the evaluator (part H0x29). Conditions: those of each theorem. -/
import Derived.Test.YtaffhpgaagnjfaaGreatDoorL0a
namespace Go.AEv
open Go.Proofs
theorem fl0:KQ 0=true:=by kernel_rfl
theorem fl1:KQ 1=true:=by kernel_rfl
theorem fl2:KQ 2=true:=by kernel_rfl
theorem fl3:KQ 3=true:=by kernel_rfl
theorem fl4:KQ 4=true:=by kernel_rfl
end Go.AEv
namespace Go.AEv
theorem zwe:CH.zz 3 0=true:=by kernel_rfl
theorem zwd:CH.zz 3 1=true:=by kernel_rfl
theorem zwc:CH.zz 3 2=true:=by kernel_rfl
theorem zwb:CH.zz 3 3=true:=by kernel_rfl
theorem zwa:CH.zz 3 4=true:=by kernel_rfl
theorem zv9:CH.zz 3 5=true:=by kernel_rfl
theorem zv8:CH.zz 4 0=true:=by kernel_rfl
theorem zv7:CH.zz 4 1=true:=by kernel_rfl
theorem zv6:CH.zz 4 2=true:=by kernel_rfl
theorem zv5:CH.zz 4 3=true:=by kernel_rfl
theorem zv4:CH.zz 4 4=true:=by kernel_rfl
theorem zv3:CH.zz 4 5=true:=by kernel_rfl
end Go.AEv
namespace Go.AEv
open Go.Proofs
theorem zsD:zgD=true:=by kernel_rfl
end Go.AEv
