/- A great house has a snapshot of several parts: the names of a state are read. Conditions: none. -/
import Derived.Test.YtgmnkhopdoiegaaGreatDoorLS0
namespace Go.AEv
open Go.Proofs
theorem nr1 : chkNr = true := by kernel_rfl
end Go.AEv
