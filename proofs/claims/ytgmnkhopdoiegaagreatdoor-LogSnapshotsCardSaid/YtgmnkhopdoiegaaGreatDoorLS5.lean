/- A great house has a snapshot of several parts: all transactions, the bytes of a change. Conditions: none. -/
import Derived.Test.YtgmnkhopdoiegaaGreatDoorLS0
namespace Go.AEv
open Go.Proofs
theorem all1 : chkAll = true := by kernel_rfl
theorem cb1 : allB chkCb (rng 0 200) = true := by kernel_rfl
end Go.AEv
