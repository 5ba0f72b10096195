/- Trails of an audit: contracts of the calls, and runs of the evaluator (part H0x22). Conditions: those of each theorem. -/
import Derived.Test.YtaffhpgaagnjfaaGreatDoorL0a
namespace Go.AEv
theorem ch0:Jb CH.Q5 (List.range 8)=true:=by kernel_rfl
theorem chz:CH.VZ=true:=by kernel_rfl
theorem zww:CH.zz 0 0=true:=by kernel_rfl
theorem zwv:CH.zz 0 1=true:=by kernel_rfl
theorem zwu:CH.zz 0 2=true:=by kernel_rfl
theorem zwt:CH.zz 0 3=true:=by kernel_rfl
theorem zws:CH.zz 0 4=true:=by kernel_rfl
theorem zwr:CH.zz 0 5=true:=by kernel_rfl
theorem zwq:CH.zz 1 0=true:=by kernel_rfl
theorem zwp:CH.zz 1 1=true:=by kernel_rfl
theorem zwo:CH.zz 1 2=true:=by kernel_rfl
theorem zwn:CH.zz 1 3=true:=by kernel_rfl
theorem zwm:CH.zz 1 4=true:=by kernel_rfl
theorem zwl:CH.zz 1 5=true:=by kernel_rfl
theorem zwk:CH.zz 2 0=true:=by kernel_rfl
theorem zwj:CH.zz 2 1=true:=by kernel_rfl
theorem zwi:CH.zz 2 2=true:=by kernel_rfl
theorem zwh:CH.zz 2 3=true:=by kernel_rfl
theorem zwg:CH.zz 2 4=true:=by kernel_rfl
theorem zwf:CH.zz 2 5=true:=by kernel_rfl
end Go.AEv
namespace Go.AEv
theorem kp1:KP.chk=true:=by kernel_rfl
end Go.AEv
