/- Which changes leave an assurance valid: every case of some groups answers true in the evaluator. Conditions: none. -/
import Derived.Test.YtnllgabplfojaaaGreatDoorAC4
namespace Go.AEv
open Go.Proofs
theorem lv4a : (grps4.take 4).all chkP = true := by kernel_rfl
theorem lv4b : (grps4.drop 4).all chkP = true := by kernel_rfl
theorem lv5a : (grps5.take 4).all chkP = true := by kernel_rfl
theorem lv5b : (grps5.drop 4).all chkP = true := by kernel_rfl
theorem lv6a : (grps6.take 4).all chkP = true := by kernel_rfl
theorem lv6b : (grps6.drop 4).all chkP = true := by kernel_rfl
theorem lv7a : (grps7.take 4).all chkP = true := by kernel_rfl
theorem lv7b : (grps7.drop 4).all chkP = true := by kernel_rfl
end Go.AEv
