/- Which records are equal: items with one role more. Conditions: none. -/
import Derived.Test.YthhjhddekambcaaGreatDoorAEL
namespace Go.AEv
open Go.Proofs
theorem six10 : chkItem6s 1 0 = true := by kernel_rfl
theorem six11 : chkItem6s 1 1 = true := by kernel_rfl
theorem six12 : chkItem6s 1 2 = true := by kernel_rfl
theorem six13 : chkItem6s 1 3 = true := by kernel_rfl
theorem six14 : chkItem6s 1 4 = true := by kernel_rfl
end Go.AEv
