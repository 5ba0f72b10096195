/- Which changes leave an assurance valid: a piece of the opening call (the permutation). Conditions: none. -/
import Derived.Test.YtnllgabplfojaaaGreatDoorAC0
namespace Go.AEv
open Go.Proofs
theorem pm2 : chkMemo E0 1000000 368 [.ptr 7703 0] 7705 Pm2In Pm2Out (.tuple []) 7753 = true := by kernel_rfl
end Go.AEv
