/- A transaction whose frame would be too long: the opening call. Conditions: none. -/
import Derived.Test.YtjgkfgdpcohfmaaGreatDoorLL0
namespace Go.AEv
open Go.Proofs
theorem chk1 : chkLit E1 1000000 4 [] 60 (.bool true) = true := by kernel_rfl
end Go.AEv
