/- A transaction whose frame would be too long: a new state. Conditions: none. -/
import Derived.Test.YtjgkfgdpcohfmaaGreatDoorLL0
namespace Go.AEv
open Go.Proofs
theorem chk0 : chkMake E0 1000000 47 [] 60 stateNewN stateNewRows stateNewVal = true := by kernel_rfl
end Go.AEv
