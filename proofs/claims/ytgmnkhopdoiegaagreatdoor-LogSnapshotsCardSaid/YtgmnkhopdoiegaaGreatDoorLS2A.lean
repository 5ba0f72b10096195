/- A great house has a snapshot of several parts: names that are valid. Conditions: none. -/
import Derived.Test.YtgmnkhopdoiegaaGreatDoorLS0
namespace Go.AEv
open Go.Proofs
theorem validA : allB chkValid (rng 0 67) = true := by kernel_rfl
end Go.AEv
