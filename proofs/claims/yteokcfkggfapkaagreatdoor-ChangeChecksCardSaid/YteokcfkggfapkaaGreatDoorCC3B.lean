/- The forms of changes: every leaf of some kinds answers true in the evaluator. Conditions: none. -/
import Derived.Test.YteokcfkggfapkaaGreatDoorCC1
namespace Go.AEv
theorem lv6tt : chkLeaves 6 true true = true := by kernel_rfl
theorem lv6tf : chkLeaves 6 true false = true := by kernel_rfl
theorem lv6ft : chkLeaves 6 false true = true := by kernel_rfl
theorem lv6ff : chkLeaves 6 false false = true := by kernel_rfl
theorem lv7tt : chkLeaves 7 true true = true := by kernel_rfl
theorem lv7tf : chkLeaves 7 true false = true := by kernel_rfl
theorem lv7ft : chkLeaves 7 false true = true := by kernel_rfl
theorem lv7ff : chkLeaves 7 false false = true := by kernel_rfl
theorem lv8tt : chkLeaves 8 true true = true := by kernel_rfl
theorem lv8tf : chkLeaves 8 true false = true := by kernel_rfl
theorem lv8ft : chkLeaves 8 false true = true := by kernel_rfl
theorem lv8ff : chkLeaves 8 false false = true := by kernel_rfl
theorem lv9tt : chkLeaves 9 true true = true := by kernel_rfl
theorem lv9tf : chkLeaves 9 true false = true := by kernel_rfl
theorem lv9ft : chkLeaves 9 false true = true := by kernel_rfl
theorem lv9ff : chkLeaves 9 false false = true := by kernel_rfl
end Go.AEv
