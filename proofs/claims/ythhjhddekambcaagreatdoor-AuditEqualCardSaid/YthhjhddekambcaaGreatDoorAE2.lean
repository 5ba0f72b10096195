/- Which records are equal: the new state and the new trail. Conditions: none. -/
import Derived.Test.YthhjhddekambcaaGreatDoorAE0
namespace Go.AEv
open Go.Proofs
theorem new1 : chkNew = true := by kernel_rfl
theorem trail1 : chkTrail = true := by kernel_rfl
end Go.AEv
