/- The forms of changes: every leaf of some kinds answers true in the evaluator. Conditions: none. -/
import Derived.Test.YteokcfkggfapkaaGreatDoorCC1
namespace Go.AEv
theorem lv10tt : chkLeaves 10 true true = true := by kernel_rfl
theorem lv10tf : chkLeaves 10 true false = true := by kernel_rfl
theorem lv10ft : chkLeaves 10 false true = true := by kernel_rfl
theorem lv10ff : chkLeaves 10 false false = true := by kernel_rfl
theorem lv11tt : chkLeaves 11 true true = true := by kernel_rfl
theorem lv11tf : chkLeaves 11 true false = true := by kernel_rfl
theorem lv11ft : chkLeaves 11 false true = true := by kernel_rfl
theorem lv11ff : chkLeaves 11 false false = true := by kernel_rfl
theorem lv12tt : chkLeaves 12 true true = true := by kernel_rfl
theorem lv12tf : chkLeaves 12 true false = true := by kernel_rfl
theorem lv12ft : chkLeaves 12 false true = true := by kernel_rfl
theorem lv12ff : chkLeaves 12 false false = true := by kernel_rfl
theorem lv13tt : chkLeaves 13 true true = true := by kernel_rfl
theorem lv13tf : chkLeaves 13 true false = true := by kernel_rfl
theorem lv13ft : chkLeaves 13 false true = true := by kernel_rfl
theorem lv13ff : chkLeaves 13 false false = true := by kernel_rfl
end Go.AEv
