/- Which records are equal: items. Conditions: none. -/
import Derived.Test.YthhjhddekambcaaGreatDoorAEL
namespace Go.AEv
open Go.Proofs
theorem ten00 : chkTen0 0 = true := by kernel_rfl
theorem ten20 : (fun b0 b1 => chkTen2 b0 b1 0) = fun _ _ => true := by kernel_rfl
theorem ten01 : chkTen0 1 = true := by kernel_rfl
theorem ten21 : (fun b0 b1 => chkTen2 b0 b1 1) = fun _ _ => true := by kernel_rfl
theorem ten02 : chkTen0 2 = true := by kernel_rfl
theorem ten22 : (fun b0 b1 => chkTen2 b0 b1 2) = fun _ _ => true := by kernel_rfl
end Go.AEv
