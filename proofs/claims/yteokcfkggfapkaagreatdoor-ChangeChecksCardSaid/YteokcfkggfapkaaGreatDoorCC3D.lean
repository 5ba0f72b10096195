/- The forms of changes: every leaf of some kinds answers true in the evaluator. Conditions: none. -/
import Derived.Test.YteokcfkggfapkaaGreatDoorCC1
namespace Go.AEv
theorem lv14tt : chkLeaves 14 true true = true := by kernel_rfl
theorem lv14tf : chkLeaves 14 true false = true := by kernel_rfl
theorem lv14ft : chkLeaves 14 false true = true := by kernel_rfl
theorem lv14ff : chkLeaves 14 false false = true := by kernel_rfl
theorem lv15tt : chkLeaves 15 true true = true := by kernel_rfl
theorem lv15tf : chkLeaves 15 true false = true := by kernel_rfl
theorem lv15ft : chkLeaves 15 false true = true := by kernel_rfl
theorem lv15ff : chkLeaves 15 false false = true := by kernel_rfl
theorem lv16tt : chkLeaves 16 true true = true := by kernel_rfl
theorem lv16tf : chkLeaves 16 true false = true := by kernel_rfl
theorem lv16ft : chkLeaves 16 false true = true := by kernel_rfl
theorem lv16ff : chkLeaves 16 false false = true := by kernel_rfl
theorem lv17tt : chkLeaves 17 true true = true := by kernel_rfl
theorem lv17tf : chkLeaves 17 true false = true := by kernel_rfl
theorem lv17ft : chkLeaves 17 false true = true := by kernel_rfl
theorem lv17ff : chkLeaves 17 false false = true := by kernel_rfl
theorem lv18tt : chkLeaves 18 true true = true := by kernel_rfl
theorem lv18tf : chkLeaves 18 true false = true := by kernel_rfl
theorem lv18ft : chkLeaves 18 false true = true := by kernel_rfl
theorem lv18ff : chkLeaves 18 false false = true := by kernel_rfl
end Go.AEv
