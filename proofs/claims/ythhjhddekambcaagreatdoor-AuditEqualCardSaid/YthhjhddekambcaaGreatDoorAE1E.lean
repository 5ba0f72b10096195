/- Which records are equal: a piece of the opening call (the permutation). Conditions: none. -/
import Derived.Test.YthhjhddekambcaaGreatDoorAE0
namespace Go.AEv
open Go.Proofs
theorem perm4 : chkPermI 4 = true := by kernel_rfl
end Go.AEv
