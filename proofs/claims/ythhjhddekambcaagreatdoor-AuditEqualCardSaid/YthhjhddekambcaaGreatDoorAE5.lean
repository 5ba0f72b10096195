/- Which records are equal: chains. Conditions: none. -/
import Derived.Test.YthhjhddekambcaaGreatDoorAEL
namespace Go.AEv
open Go.Proofs
theorem fl0 : chkFls 0 = true := by kernel_rfl
theorem fl1 : chkFls 1 = true := by kernel_rfl
theorem fl2 : chkFls 2 = true := by kernel_rfl
theorem fl3 : chkFls 3 = true := by kernel_rfl
theorem fl4 : chkFls 4 = true := by kernel_rfl
end Go.AEv
