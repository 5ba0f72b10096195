/- Trails of an audit: calls and runs (H0x20). Conditions: those of each theorem. -/
import Derived.Test.YtaffhpgaagnjfaaGreatDoorL0a
namespace Go.AEv
theorem zy4:KV.Qq ((List.range 4).map fun k=>Nat.add 121 k)=true:=by kernel_rfl
theorem zy3:KV.Qq ((List.range 4).map fun k=>Nat.add 125 k)=true:=by kernel_rfl
theorem zBs:TC.zdz 0=true:=by kernel_rfl
theorem zBr:TC.zdz 1=true:=by kernel_rfl
theorem zBq:TC.zdz 2=true:=by kernel_rfl
theorem zBp:TC.zdz 3=true:=by kernel_rfl
theorem zBo:TC.zdz 4=true:=by kernel_rfl
theorem zBn:TC.zdz 5=true:=by kernel_rfl
theorem zBm:TC.zdz 6=true:=by kernel_rfl
theorem zBl:TC.zdz 7=true:=by kernel_rfl
theorem zBk:TC.zdz 8=true:=by kernel_rfl
theorem tcw:TC.JL=true:=by kernel_rfl
theorem tcr:AP.yP TC.zk7=true:=by kernel_rfl
end Go.AEv
