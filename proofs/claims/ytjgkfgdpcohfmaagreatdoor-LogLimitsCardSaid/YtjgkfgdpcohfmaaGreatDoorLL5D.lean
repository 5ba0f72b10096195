/- A transaction whose frame would be too long: cases by the lengths of the texts. Conditions: none. -/
import Derived.Test.YtjgkfgdpcohfmaaGreatDoorLL0
namespace Go.AEv
open Go.Proofs
theorem lv20 : chkP 2 0 false = true := by kernel_rfl
theorem lv21 : chkP 2 1 false = true := by kernel_rfl
end Go.AEv
