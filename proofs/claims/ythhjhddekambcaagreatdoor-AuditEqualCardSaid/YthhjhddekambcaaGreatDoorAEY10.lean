/- Which records are equal: the law out of its pieces. Conditions: none. -/
import Derived.Test.YthhjhddekambcaaGreatDoorAEX
namespace Go.AEv
open Go.Proofs
theorem law1000t : (fun b0 b1 b2 b3 => chkLaw b0 b1 b2 b3 1 0 0 0 true) = fun _ _ _ _ => true := by kernel_rfl
theorem law1000f : (fun b0 b1 b2 b3 => chkLaw b0 b1 b2 b3 1 0 0 0 false) = fun _ _ _ _ => true := by kernel_rfl
theorem law1001t : (fun b0 b1 b2 b3 => chkLaw b0 b1 b2 b3 1 0 0 1 true) = fun _ _ _ _ => true := by kernel_rfl
theorem law1001f : (fun b0 b1 b2 b3 => chkLaw b0 b1 b2 b3 1 0 0 1 false) = fun _ _ _ _ => true := by kernel_rfl
theorem law1010t : (fun b0 b1 b2 b3 => chkLaw b0 b1 b2 b3 1 0 1 0 true) = fun _ _ _ _ => true := by kernel_rfl
theorem law1010f : (fun b0 b1 b2 b3 => chkLaw b0 b1 b2 b3 1 0 1 0 false) = fun _ _ _ _ => true := by kernel_rfl
theorem law1011t : (fun b0 b1 b2 b3 => chkLaw b0 b1 b2 b3 1 0 1 1 true) = fun _ _ _ _ => true := by kernel_rfl
theorem law1011f : (fun b0 b1 b2 b3 => chkLaw b0 b1 b2 b3 1 0 1 1 false) = fun _ _ _ _ => true := by kernel_rfl
end Go.AEv
