/- Which records are equal: two records are compared. Conditions: none. -/
import Derived.Test.YthhjhddekambcaaGreatDoorAEX
namespace Go.AEv
open Go.Proofs
theorem eq0000 : chkEqs 0 0 0 0 = true := by kernel_rfl
theorem eq0001 : chkEqs 0 0 0 1 = true := by kernel_rfl
theorem eq0010 : chkEqs 0 0 1 0 = true := by kernel_rfl
theorem eq0011 : chkEqs 0 0 1 1 = true := by kernel_rfl
theorem eq0100 : chkEqs 0 1 0 0 = true := by kernel_rfl
theorem eq0101 : chkEqs 0 1 0 1 = true := by kernel_rfl
theorem eq0110 : chkEqs 0 1 1 0 = true := by kernel_rfl
theorem eq0111 : chkEqs 0 1 1 1 = true := by kernel_rfl
end Go.AEv
