/- A transaction whose frame would be too long: cases by the lengths of the texts. Conditions: none. -/
import Derived.Test.YtjgkfgdpcohfmaaGreatDoorLL0
namespace Go.AEv
open Go.Proofs
theorem lv22 : chkP 2 2 false = true := by kernel_rfl
theorem lv22b : chkP 2 2 true = true := by kernel_rfl
end Go.AEv
