/- A great house has a snapshot of several parts: the checksums of what is written. Conditions: none. -/
import Derived.Test.YtgmnkhopdoiegaaGreatDoorLS0
namespace Go.AEv
open Go.Proofs
theorem okA1 : allB okA (rng 0 5) = true := by kernel_rfl
theorem okP10 : okP 1 0 = true := by kernel_rfl
theorem okP20 : okP 2 0 = true := by kernel_rfl
theorem okP30 : okP 3 0 = true := by kernel_rfl
theorem okP40 : okP 4 0 = true := by kernel_rfl
theorem okP41 : okP 4 1 = true := by kernel_rfl
theorem okP50 : okP 5 0 = true := by kernel_rfl
theorem okP51 : okP 5 1 = true := by kernel_rfl
end Go.AEv
