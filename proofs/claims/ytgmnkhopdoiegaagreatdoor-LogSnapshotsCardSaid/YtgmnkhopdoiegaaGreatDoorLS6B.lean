/- A great house has a snapshot of several parts: the payloads of two tenants, the bytes of a state that was read, equal states. Conditions: none. -/
import Derived.Test.YtgmnkhopdoiegaaGreatDoorLS0
namespace Go.AEv
open Go.Proofs
theorem payB : allB chkPay (rng 3 2) = true := by kernel_rfl
theorem rb1 : chkRb = true := by kernel_rfl
theorem eq1 : chkEq = true := by kernel_rfl
end Go.AEv
