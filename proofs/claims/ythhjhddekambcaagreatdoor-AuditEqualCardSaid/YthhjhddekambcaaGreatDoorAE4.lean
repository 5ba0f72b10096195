/- Which records are equal: texts by their number, requests. Conditions: none. -/
import Derived.Test.YthhjhddekambcaaGreatDoorAEL
namespace Go.AEv
open Go.Proofs
theorem word1 : allN (chkStr 61) (rng 0 256) = true := by kernel_rfl
theorem act1 : allN (chkStr 59) (rng 0 256) = true := by kernel_rfl
theorem path1 : allN (chkStr 60) (rng 0 256) = true := by kernel_rfl
theorem pm1 : allN chkPm (rng 0 256) = true := by kernel_rfl
theorem ask1 : chkAsks = true := by kernel_rfl
end Go.AEv
