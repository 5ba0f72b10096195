/- A great house has a snapshot of several parts: the order, the new state, the examples, the bytes of a state. Conditions: none. -/
import Derived.Test.YtgmnkhopdoiegaaGreatDoorLS0
namespace Go.AEv
open Go.Proofs
theorem ord1 : chkOrd = true := by kernel_rfl
theorem new1 : chkNew = true := by kernel_rfl
theorem awake1 : chkAwake = true := by kernel_rfl
theorem sb1 : chkSb = true := by kernel_rfl
end Go.AEv
