/- A great house has a snapshot of several parts: the payloads of three tenants. Conditions: none. -/
import Derived.Test.YtgmnkhopdoiegaaGreatDoorLS0
namespace Go.AEv
open Go.Proofs
theorem payA : allB chkPay (rng 0 3) = true := by kernel_rfl
end Go.AEv
