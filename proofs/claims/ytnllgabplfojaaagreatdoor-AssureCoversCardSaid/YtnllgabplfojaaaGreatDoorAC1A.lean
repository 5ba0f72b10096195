/- Which changes leave an assurance valid: a piece of the opening call (the permutation). Conditions: none. -/
import Derived.Test.YtnllgabplfojaaaGreatDoorAC0
namespace Go.AEv
open Go.Proofs
theorem pm0 : chkMemo E0 1000000 368 [.ptr 4436 0] 4438 Pm0In Pm0Out (.tuple []) 4486 = true := by kernel_rfl
end Go.AEv
