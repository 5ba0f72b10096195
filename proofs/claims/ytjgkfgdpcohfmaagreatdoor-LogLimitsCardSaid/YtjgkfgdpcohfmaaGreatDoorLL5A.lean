/- A transaction whose frame would be too long: cases by the lengths of the texts. Conditions: none. -/
import Derived.Test.YtjgkfgdpcohfmaaGreatDoorLL0
namespace Go.AEv
open Go.Proofs
theorem lv00 : chkP 0 0 false = true := by kernel_rfl
theorem lv01 : chkP 0 1 false = true := by kernel_rfl
end Go.AEv
