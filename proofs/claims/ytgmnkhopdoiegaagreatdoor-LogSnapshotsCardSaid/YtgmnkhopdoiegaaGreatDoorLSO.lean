/- The bytes that are summed are bytes. Conditions: none. -/
import Derived.Test.YtgmnkhopdoiegaaGreatDoorLSF
namespace Go.AEv
theorem okT1 : okT 1 = true := by kernel_rfl
theorem okT2 : okT 2 = true := by kernel_rfl
theorem okT3 : okT 3 = true := by kernel_rfl
theorem okT4 : okT 4 = true := by kernel_rfl
theorem okT5 : okT 5 = true := by kernel_rfl
end Go.AEv
