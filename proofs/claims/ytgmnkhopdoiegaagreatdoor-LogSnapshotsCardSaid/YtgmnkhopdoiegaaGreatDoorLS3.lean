/- A great house has a snapshot of several parts: changes whose form is right. Conditions: none. -/
import Derived.Test.YtgmnkhopdoiegaaGreatDoorLS0
namespace Go.AEv
open Go.Proofs
theorem check1 : allB chkCheck (rng 0 200) = true := by kernel_rfl
end Go.AEv
