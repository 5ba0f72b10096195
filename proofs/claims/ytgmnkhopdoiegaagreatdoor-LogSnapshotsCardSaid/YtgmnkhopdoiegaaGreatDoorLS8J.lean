/- A great house has a snapshot of several parts: the law, by the number of tenants and where the cut is. Conditions: none. -/
import Derived.Test.YtgmnkhopdoiegaaGreatDoorLS0
namespace Go.AEv
open Go.Proofs
theorem law53 : chkLaw 5 3 = true := by kernel_rfl
end Go.AEv
