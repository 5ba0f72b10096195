/- Which records are equal: the law out of its pieces. Conditions: none. -/
import Derived.Test.YthhjhddekambcaaGreatDoorAEX
namespace Go.AEv
open Go.Proofs
theorem law0000t : (fun b0 b1 b2 b3 => chkLaw b0 b1 b2 b3 0 0 0 0 true) = fun _ _ _ _ => true := by kernel_rfl
theorem law0000f : (fun b0 b1 b2 b3 => chkLaw b0 b1 b2 b3 0 0 0 0 false) = fun _ _ _ _ => true := by kernel_rfl
theorem law0001t : (fun b0 b1 b2 b3 => chkLaw b0 b1 b2 b3 0 0 0 1 true) = fun _ _ _ _ => true := by kernel_rfl
theorem law0001f : (fun b0 b1 b2 b3 => chkLaw b0 b1 b2 b3 0 0 0 1 false) = fun _ _ _ _ => true := by kernel_rfl
theorem law0010t : (fun b0 b1 b2 b3 => chkLaw b0 b1 b2 b3 0 0 1 0 true) = fun _ _ _ _ => true := by kernel_rfl
theorem law0010f : (fun b0 b1 b2 b3 => chkLaw b0 b1 b2 b3 0 0 1 0 false) = fun _ _ _ _ => true := by kernel_rfl
theorem law0011t : (fun b0 b1 b2 b3 => chkLaw b0 b1 b2 b3 0 0 1 1 true) = fun _ _ _ _ => true := by kernel_rfl
theorem law0011f : (fun b0 b1 b2 b3 => chkLaw b0 b1 b2 b3 0 0 1 1 false) = fun _ _ _ _ => true := by kernel_rfl
end Go.AEv
