/- Which changes leave an assurance valid: a piece of the opening call (the permutation). Conditions: none. -/
import Derived.Test.YtnllgabplfojaaaGreatDoorAC0
namespace Go.AEv
open Go.Proofs
theorem pm1 : chkMemo E0 1000000 368 [.ptr 7190 0] 7192 Pm1In Pm1Out (.tuple []) 7240 = true := by kernel_rfl
end Go.AEv
