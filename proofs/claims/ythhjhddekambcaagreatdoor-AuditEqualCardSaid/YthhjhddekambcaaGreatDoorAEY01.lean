/- Which records are equal: the law out of its pieces. Conditions: none. -/
import Derived.Test.YthhjhddekambcaaGreatDoorAEX
namespace Go.AEv
open Go.Proofs
theorem law0100t : (fun b0 b1 b2 b3 => chkLaw b0 b1 b2 b3 0 1 0 0 true) = fun _ _ _ _ => true := by kernel_rfl
theorem law0100f : (fun b0 b1 b2 b3 => chkLaw b0 b1 b2 b3 0 1 0 0 false) = fun _ _ _ _ => true := by kernel_rfl
theorem law0101t : (fun b0 b1 b2 b3 => chkLaw b0 b1 b2 b3 0 1 0 1 true) = fun _ _ _ _ => true := by kernel_rfl
theorem law0101f : (fun b0 b1 b2 b3 => chkLaw b0 b1 b2 b3 0 1 0 1 false) = fun _ _ _ _ => true := by kernel_rfl
theorem law0110t : (fun b0 b1 b2 b3 => chkLaw b0 b1 b2 b3 0 1 1 0 true) = fun _ _ _ _ => true := by kernel_rfl
theorem law0110f : (fun b0 b1 b2 b3 => chkLaw b0 b1 b2 b3 0 1 1 0 false) = fun _ _ _ _ => true := by kernel_rfl
theorem law0111t : (fun b0 b1 b2 b3 => chkLaw b0 b1 b2 b3 0 1 1 1 true) = fun _ _ _ _ => true := by kernel_rfl
theorem law0111f : (fun b0 b1 b2 b3 => chkLaw b0 b1 b2 b3 0 1 1 1 false) = fun _ _ _ _ => true := by kernel_rfl
end Go.AEv
