/- A closed fact of the card. Conditions: none. -/
import Derived.Test.YtjgkfgdpcohfmaaGreatDoorCards
import Derived.SevenTiedAt
namespace Go.Proofs.YtjgkfgdpcohfmaaGreatDoor
theorem wfText : Rows.logLimitsRow.wfByText (OpenSpec.ofChange Rows.logLimitsSpec) = true := by kernel_rfl
theorem mainFact : Tryz.prog.mainIs = some (true, ("371e889c0417f76af27a16066544f45790112ff7f23e895e08218ea18bf7d484" : String).toList) := by kernel_rfl
theorem looksFact : true = Tryz.prog.looks [] := by kernel_rfl
end Go.Proofs.YtjgkfgdpcohfmaaGreatDoor
