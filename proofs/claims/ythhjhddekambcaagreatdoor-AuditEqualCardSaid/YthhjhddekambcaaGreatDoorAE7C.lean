/- Which records are equal: items with one role more. Conditions: none. -/
import Derived.Test.YthhjhddekambcaaGreatDoorAEL
namespace Go.AEv
open Go.Proofs
theorem six20 : chkItem6s 2 0 = true := by kernel_rfl
theorem six21 : chkItem6s 2 1 = true := by kernel_rfl
theorem six22 : chkItem6s 2 2 = true := by kernel_rfl
theorem six23 : chkItem6s 2 3 = true := by kernel_rfl
theorem six24 : chkItem6s 2 4 = true := by kernel_rfl
end Go.AEv
