/- Which records are equal: closed facts of one start of the row (the world in which the listed variables are laid). Conditions: none. -/
import Derived.Test.YthhjhddekambcaaGreatDoorRows
import Derived.LaidMore
import Derived.Lay
import Derived.LaidLaws
import Derived.Stop.Joined
import Derived.KernelRfl
namespace Go.Proofs.YthhjhddekambcaaGreatDoor
open Go
theorem wf (os : Os) : (World.holding Tryz.prog os ⟨#[], #[], []⟩).layFits Tryz.prog Rows.auditEqualRow.laid [] = true := by kernel_rfl
theorem wi (os : Os) : (World.holding Tryz.prog os ⟨#[], #[], []⟩).layIfaces Tryz.prog Rows.auditEqualRow.laid (World.laidAll Tryz.prog os Rows.auditEqualRow.laid) = true := by kernel_rfl
theorem wn : (Rows.auditEqualRow.laid.all fun x => x.2.handleName?.isNone) = true := by kernel_rfl
end Go.Proofs.YthhjhddekambcaaGreatDoor
