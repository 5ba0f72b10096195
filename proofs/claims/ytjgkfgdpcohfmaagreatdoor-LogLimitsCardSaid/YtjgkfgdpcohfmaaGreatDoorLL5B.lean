/- A transaction whose frame would be too long: cases by the lengths of the texts. Conditions: none. -/
import Derived.Test.YtjgkfgdpcohfmaaGreatDoorLL0
namespace Go.AEv
open Go.Proofs
theorem lv02 : chkP 0 2 false = true := by kernel_rfl
theorem lv10 : chkP 1 0 false = true := by kernel_rfl
end Go.AEv
