/- A closed fact of the tie: the listed package variables hold what the program's text lays. Conditions: none. -/
import Derived.Test.YtgmnkhopdoiegaaGreatDoorRows
import Derived.LaidOnce
namespace Go.Proofs.YtgmnkhopdoiegaaGreatDoor
open Go
theorem tw1 : Tryz.prog.worded (varsWordLater true) = true := by kernel_rfl
theorem tw2 : Tryz.prog.worded (varsWordLater !true) = false := by kernel_rfl
theorem tw3 : Tryz.prog.worded rootWordLater = true := by kernel_rfl
end Go.Proofs.YtgmnkhopdoiegaaGreatDoor
