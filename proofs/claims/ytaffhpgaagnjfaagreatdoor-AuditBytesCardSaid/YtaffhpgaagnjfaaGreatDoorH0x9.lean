/- Trails of an audit: calls and runs (H0x9). Conditions: those of each theorem. -/
import Derived.Test.YtaffhpgaagnjfaaGreatDoorL0a
namespace Go.AEv
theorem zBL:KV.chk 6=true:=by kernel_rfl
theorem zy8:KV.Qq ((List.range 4).map fun k=>Nat.add 105 k)=true:=by kernel_rfl
theorem zy7:KV.Qq ((List.range 4).map fun k=>Nat.add 109 k)=true:=by kernel_rfl
end Go.AEv
