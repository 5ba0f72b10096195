/- Which changes leave an assurance valid: every case of some groups answers true in the evaluator. Conditions: none. -/
import Derived.Test.YtnllgabplfojaaaGreatDoorAC4
namespace Go.AEv
open Go.Proofs
theorem lv12a : (grps12.take 4).all chkP = true := by kernel_rfl
theorem lv12b : (grps12.drop 4).all chkP = true := by kernel_rfl
theorem lv13a : (grps13.take 4).all chkP = true := by kernel_rfl
theorem lv13b : (grps13.drop 4).all chkP = true := by kernel_rfl
theorem lv14a : (grps14.take 4).all chkP = true := by kernel_rfl
theorem lv14b : (grps14.drop 4).all chkP = true := by kernel_rfl
theorem lv15a : (grps15.take 4).all chkP = true := by kernel_rfl
theorem lv15b : (grps15.drop 4).all chkP = true := by kernel_rfl
end Go.AEv
