/- Which changes leave an assurance valid: every case of some groups answers true in the evaluator. Conditions: none. -/
import Derived.Test.YtnllgabplfojaaaGreatDoorAC4
namespace Go.AEv
open Go.Proofs
theorem lv8a : (grps8.take 4).all chkP = true := by kernel_rfl
theorem lv8b : (grps8.drop 4).all chkP = true := by kernel_rfl
theorem lv9a : (grps9.take 4).all chkP = true := by kernel_rfl
theorem lv9b : (grps9.drop 4).all chkP = true := by kernel_rfl
theorem lv10a : (grps10.take 4).all chkP = true := by kernel_rfl
theorem lv10b : (grps10.drop 4).all chkP = true := by kernel_rfl
theorem lv11a : (grps11.take 4).all chkP = true := by kernel_rfl
theorem lv11b : (grps11.drop 4).all chkP = true := by kernel_rfl
end Go.AEv
