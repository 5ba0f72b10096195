/- Which changes leave an assurance valid: a piece of the opening call (the permutation). Conditions: none. -/
import Derived.Test.YtnllgabplfojaaaGreatDoorAC0
namespace Go.AEv
open Go.Proofs
theorem pm3 : chkMemo E0 1000000 368 [.ptr 10369 0] 10371 Pm3In Pm3Out (.tuple []) 10419 = true := by kernel_rfl
end Go.AEv
