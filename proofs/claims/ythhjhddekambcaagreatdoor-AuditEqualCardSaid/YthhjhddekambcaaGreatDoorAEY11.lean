/- Which records are equal: the law out of its pieces. Conditions: none. -/
import Derived.Test.YthhjhddekambcaaGreatDoorAEX
namespace Go.AEv
open Go.Proofs
theorem law1100t : (fun b0 b1 b2 b3 => chkLaw b0 b1 b2 b3 1 1 0 0 true) = fun _ _ _ _ => true := by kernel_rfl
theorem law1100f : (fun b0 b1 b2 b3 => chkLaw b0 b1 b2 b3 1 1 0 0 false) = fun _ _ _ _ => true := by kernel_rfl
theorem law1101t : (fun b0 b1 b2 b3 => chkLaw b0 b1 b2 b3 1 1 0 1 true) = fun _ _ _ _ => true := by kernel_rfl
theorem law1101f : (fun b0 b1 b2 b3 => chkLaw b0 b1 b2 b3 1 1 0 1 false) = fun _ _ _ _ => true := by kernel_rfl
theorem law1110t : (fun b0 b1 b2 b3 => chkLaw b0 b1 b2 b3 1 1 1 0 true) = fun _ _ _ _ => true := by kernel_rfl
theorem law1110f : (fun b0 b1 b2 b3 => chkLaw b0 b1 b2 b3 1 1 1 0 false) = fun _ _ _ _ => true := by kernel_rfl
theorem law1111t : (fun b0 b1 b2 b3 => chkLaw b0 b1 b2 b3 1 1 1 1 true) = fun _ _ _ _ => true := by kernel_rfl
theorem law1111f : (fun b0 b1 b2 b3 => chkLaw b0 b1 b2 b3 1 1 1 1 false) = fun _ _ _ _ => true := by kernel_rfl
end Go.AEv
