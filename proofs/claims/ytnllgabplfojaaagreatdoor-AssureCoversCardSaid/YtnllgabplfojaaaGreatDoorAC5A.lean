/- Which changes leave an assurance valid: every case of some groups answers true in the evaluator. Conditions: none. -/
import Derived.Test.YtnllgabplfojaaaGreatDoorAC4
namespace Go.AEv
open Go.Proofs
theorem lv0a : (grps0.take 4).all chkP = true := by kernel_rfl
theorem lv0b : (grps0.drop 4).all chkP = true := by kernel_rfl
theorem lv1a : (grps1.take 4).all chkP = true := by kernel_rfl
theorem lv1b : (grps1.drop 4).all chkP = true := by kernel_rfl
theorem lv2a : (grps2.take 4).all chkP = true := by kernel_rfl
theorem lv2b : (grps2.drop 4).all chkP = true := by kernel_rfl
theorem lv3a : (grps3.take 4).all chkP = true := by kernel_rfl
theorem lv3b : (grps3.drop 4).all chkP = true := by kernel_rfl
end Go.AEv
