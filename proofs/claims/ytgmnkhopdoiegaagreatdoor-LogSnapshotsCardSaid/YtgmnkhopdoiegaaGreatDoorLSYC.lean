/- A great house has a snapshot of several parts: closed facts of one start of the row (the world in which the listed variables are laid). Conditions: none. -/
import Derived.Test.YtgmnkhopdoiegaaGreatDoorRows
import Derived.LaidMore
import Derived.Lay
import Derived.LaidLaws
import Derived.Stop.Joined
import Derived.KernelRfl
namespace Go.Proofs.YtgmnkhopdoiegaaGreatDoor
open Go
theorem wf (os : Os) : (World.holding Tryz.prog os ⟨#[], #[], []⟩).layFits Tryz.prog Rows.logSnapshotsRow.laid [] = true := by kernel_rfl
theorem wi (os : Os) : (World.holding Tryz.prog os ⟨#[], #[], []⟩).layIfaces Tryz.prog Rows.logSnapshotsRow.laid (World.laidAll Tryz.prog os Rows.logSnapshotsRow.laid) = true := by kernel_rfl
theorem wn : (Rows.logSnapshotsRow.laid.all fun x => x.2.handleName?.isNone) = true := by kernel_rfl
end Go.Proofs.YtgmnkhopdoiegaaGreatDoor
