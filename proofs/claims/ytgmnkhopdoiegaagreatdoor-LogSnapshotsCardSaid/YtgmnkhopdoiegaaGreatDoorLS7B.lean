/- A great house has a snapshot of several parts: a table of names is made, a state is read. Conditions: none. -/
import Derived.Test.YtgmnkhopdoiegaaGreatDoorLS0
namespace Go.AEv
open Go.Proofs
theorem of1 : chkOf = true := by kernel_rfl
theorem read1 : chkRead = true := by kernel_rfl
end Go.AEv
