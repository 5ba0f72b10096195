/- A great house has a snapshot of several parts: transactions, one after the other. Conditions: none. -/
import Derived.Test.YtgmnkhopdoiegaaGreatDoorLS0
namespace Go.AEv
open Go.Proofs
theorem applyC : allB chkApply (rng 100 50) = true := by kernel_rfl
end Go.AEv
