/- A closed fact of the card. Conditions: none. -/
import Derived.Test.YtnllgabplfojaaaGreatDoorCards
import Derived.SevenTiedAt
namespace Go.Proofs.YtnllgabplfojaaaGreatDoor
theorem wfText : Rows.assureCoversRow.wfByText (OpenSpec.ofChange Rows.assureCoversSpec) = true := by kernel_rfl
theorem mainFact : Tryz.prog.mainIs = some (true, ("1f460933dd6c9ad42d43f07d046eb188f0eee3ab43e1ac4b5048f2249b7dcbca" : String).toList) := by kernel_rfl
theorem looksFact : true = Tryz.prog.looks [] := by kernel_rfl
end Go.Proofs.YtnllgabplfojaaaGreatDoor
