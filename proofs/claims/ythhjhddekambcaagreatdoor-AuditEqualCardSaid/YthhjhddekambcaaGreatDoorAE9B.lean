/- Which records are equal: two records are compared. Conditions: none. -/
import Derived.Test.YthhjhddekambcaaGreatDoorAEX
namespace Go.AEv
open Go.Proofs
theorem eq1000 : chkEqs 1 0 0 0 = true := by kernel_rfl
theorem eq1001 : chkEqs 1 0 0 1 = true := by kernel_rfl
theorem eq1010 : chkEqs 1 0 1 0 = true := by kernel_rfl
theorem eq1011 : chkEqs 1 0 1 1 = true := by kernel_rfl
theorem eq1100 : chkEqs 1 1 0 0 = true := by kernel_rfl
theorem eq1101 : chkEqs 1 1 0 1 = true := by kernel_rfl
theorem eq1110 : chkEqs 1 1 1 0 = true := by kernel_rfl
theorem eq1111 : chkEqs 1 1 1 1 = true := by kernel_rfl
end Go.AEv
