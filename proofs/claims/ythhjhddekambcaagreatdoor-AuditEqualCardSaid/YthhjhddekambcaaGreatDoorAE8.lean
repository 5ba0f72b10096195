/- Which records are equal: the bytes of a record. Conditions: none. -/
import Derived.Test.YthhjhddekambcaaGreatDoorAEM
namespace Go.AEv
open Go.Proofs
theorem put1 : chkPut 1 = true := by kernel_rfl
theorem put2 : chkPut 2 = true := by kernel_rfl
theorem put3 : chkPut 3 = true := by kernel_rfl
theorem strB : chkStrB = true := by kernel_rfl
theorem str0 : chkStr0 = true := by kernel_rfl
theorem putInt1 : allN chkPutInt (rng 0 6) = true := by kernel_rfl
theorem flagT : chkFlag true = true := by kernel_rfl
theorem flagF : chkFlag false = true := by kernel_rfl
theorem nums1 : chkNums 1 = true := by kernel_rfl
theorem nums2 : chkNums 2 = true := by kernel_rfl
theorem nums3 : chkNums 3 = true := by kernel_rfl
theorem nums4 : chkNums 4 = true := by kernel_rfl
theorem nums5 : chkNums 5 = true := by kernel_rfl
theorem nums64 : chkNums64 = true := by kernel_rfl
theorem nums0 : chkNums0 = true := by kernel_rfl
theorem bytes00 : chkBytes 0 0 = true := by kernel_rfl
theorem bytes01 : chkBytes 0 1 = true := by kernel_rfl
theorem bytes10 : chkBytes 1 0 = true := by kernel_rfl
theorem bytes11 : chkBytes 1 1 = true := by kernel_rfl
end Go.AEv
