/- A closed fact of the card. Conditions: none. -/
import Derived.Test.YtgmnkhopdoiegaaGreatDoorCards
import Derived.SevenTiedAt
namespace Go.Proofs.YtgmnkhopdoiegaaGreatDoor
theorem wfText : Rows.logSnapshotsRow.wfByText (OpenSpec.ofChange Rows.logSnapshotsSpec) = true := by kernel_rfl
theorem mainFact : Tryz.prog.mainIs = some (true, ("605948574d3985b4ee5fafdf2c3902ccbc9bbd54b73f06d48443bb19862fd310" : String).toList) := by kernel_rfl
theorem looksFact : true = Tryz.prog.looks [] := by kernel_rfl
end Go.Proofs.YtgmnkhopdoiegaaGreatDoor
