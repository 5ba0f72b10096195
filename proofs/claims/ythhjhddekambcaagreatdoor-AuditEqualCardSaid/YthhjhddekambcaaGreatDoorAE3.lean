/- Which records are equal: the opening call out of its pieces. Conditions: none. -/
import Derived.Test.YthhjhddekambcaaGreatDoorAE0
namespace Go.AEv
open Go.Proofs
theorem awake1 : chkAwake = true := by kernel_rfl
end Go.AEv
