/- The forms of changes: every leaf of some kinds answers true in the evaluator. Conditions: none. -/
import Derived.Test.YteokcfkggfapkaaGreatDoorCC1
namespace Go.AEv
theorem lv0tt : chkLeaves 0 true true = true := by kernel_rfl
theorem lv0tf : chkLeaves 0 true false = true := by kernel_rfl
theorem lv0ft : chkLeaves 0 false true = true := by kernel_rfl
theorem lv0ff : chkLeaves 0 false false = true := by kernel_rfl
theorem lv1tt : chkLeaves 1 true true = true := by kernel_rfl
theorem lv1tf : chkLeaves 1 true false = true := by kernel_rfl
theorem lv1ft : chkLeaves 1 false true = true := by kernel_rfl
theorem lv1ff : chkLeaves 1 false false = true := by kernel_rfl
theorem lv2tt : chkLeaves 2 true true = true := by kernel_rfl
theorem lv2tf : chkLeaves 2 true false = true := by kernel_rfl
theorem lv2ft : chkLeaves 2 false true = true := by kernel_rfl
theorem lv2ff : chkLeaves 2 false false = true := by kernel_rfl
theorem lv3tt : chkLeaves 3 true true = true := by kernel_rfl
theorem lv3tf : chkLeaves 3 true false = true := by kernel_rfl
theorem lv3ft : chkLeaves 3 false true = true := by kernel_rfl
theorem lv3ff : chkLeaves 3 false false = true := by kernel_rfl
theorem lv4tt : chkLeaves 4 true true = true := by kernel_rfl
theorem lv4tf : chkLeaves 4 true false = true := by kernel_rfl
theorem lv4ft : chkLeaves 4 false true = true := by kernel_rfl
theorem lv4ff : chkLeaves 4 false false = true := by kernel_rfl
theorem lv5tt : chkLeaves 5 true true = true := by kernel_rfl
theorem lv5tf : chkLeaves 5 true false = true := by kernel_rfl
theorem lv5ft : chkLeaves 5 false true = true := by kernel_rfl
theorem lv5ff : chkLeaves 5 false false = true := by kernel_rfl
theorem lv19tt : chkLeaves 19 true true = true := by kernel_rfl
theorem lv19tf : chkLeaves 19 true false = true := by kernel_rfl
theorem lv19ft : chkLeaves 19 false true = true := by kernel_rfl
theorem lv19ff : chkLeaves 19 false false = true := by kernel_rfl
theorem lv20tt : chkLeaves 20 true true = true := by kernel_rfl
theorem lv20tf : chkLeaves 20 true false = true := by kernel_rfl
theorem lv20ft : chkLeaves 20 false true = true := by kernel_rfl
theorem lv20ff : chkLeaves 20 false false = true := by kernel_rfl
end Go.AEv
