/- A transaction whose frame would be too long: cases by the lengths of the texts. Conditions: none. -/
import Derived.Test.YtjgkfgdpcohfmaaGreatDoorLL0
namespace Go.AEv
open Go.Proofs
theorem lv11 : chkP 1 1 false = true := by kernel_rfl
theorem lv12 : chkP 1 2 false = true := by kernel_rfl
end Go.AEv
