/- A great house has a snapshot of several parts: the law, by the number of tenants and where the cut is. Conditions: none. -/
import Derived.Test.YtgmnkhopdoiegaaGreatDoorLS0
namespace Go.AEv
open Go.Proofs
theorem law10 : chkLaw 1 0 = true := by kernel_rfl
theorem law11 : chkLaw 1 1 = true := by kernel_rfl
theorem law20 : chkLaw 2 0 = true := by kernel_rfl
theorem law21 : chkLaw 2 1 = true := by kernel_rfl
end Go.AEv
