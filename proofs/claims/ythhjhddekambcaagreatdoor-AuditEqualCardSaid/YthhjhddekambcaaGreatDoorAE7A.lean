/- Which records are equal: items with one role more. Conditions: none. -/
import Derived.Test.YthhjhddekambcaaGreatDoorAEL
namespace Go.AEv
open Go.Proofs
theorem six00 : chkItem6s 0 0 = true := by kernel_rfl
theorem six01 : chkItem6s 0 1 = true := by kernel_rfl
theorem six02 : chkItem6s 0 2 = true := by kernel_rfl
theorem six03 : chkItem6s 0 3 = true := by kernel_rfl
theorem six04 : chkItem6s 0 4 = true := by kernel_rfl
end Go.AEv
