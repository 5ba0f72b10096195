/- Many tenants: for every rest of the number, and either choice, the function answers true in the evaluator. Conditions: none. -/
import Derived.Test.YtfkigkddlgnmcaaGreatDoorTM1
namespace Go.AEv
open Go.Proofs
def factsK (k : Nat) : List Fact := [factNew, .call 4 [] (.bool true), .conv .i64 (.sym 60) (.sym 61), .bin .rem (.sym 61) (.int .i64 (.ofNat 18)) (.int .i64 (.ofNat k))]
noncomputable def E2 (k : Nat) : Env := mkEnv Tryz.prog specs (factsK k) tabs
theorem many0t : chkLit (E2 0) 1000000 3 [.sym 60, .bool true] 62 (.bool true) = true := by kernel_rfl
theorem many0f : chkLit (E2 0) 1000000 3 [.sym 60, .bool false] 62 (.bool true) = true := by kernel_rfl
theorem many1t : chkLit (E2 1) 1000000 3 [.sym 60, .bool true] 62 (.bool true) = true := by kernel_rfl
theorem many1f : chkLit (E2 1) 1000000 3 [.sym 60, .bool false] 62 (.bool true) = true := by kernel_rfl
theorem many2t : chkLit (E2 2) 1000000 3 [.sym 60, .bool true] 62 (.bool true) = true := by kernel_rfl
theorem many2f : chkLit (E2 2) 1000000 3 [.sym 60, .bool false] 62 (.bool true) = true := by kernel_rfl
theorem many3t : chkLit (E2 3) 1000000 3 [.sym 60, .bool true] 62 (.bool true) = true := by kernel_rfl
theorem many3f : chkLit (E2 3) 1000000 3 [.sym 60, .bool false] 62 (.bool true) = true := by kernel_rfl
theorem many4t : chkLit (E2 4) 1000000 3 [.sym 60, .bool true] 62 (.bool true) = true := by kernel_rfl
theorem many4f : chkLit (E2 4) 1000000 3 [.sym 60, .bool false] 62 (.bool true) = true := by kernel_rfl
theorem many5t : chkLit (E2 5) 1000000 3 [.sym 60, .bool true] 62 (.bool true) = true := by kernel_rfl
theorem many5f : chkLit (E2 5) 1000000 3 [.sym 60, .bool false] 62 (.bool true) = true := by kernel_rfl
theorem many6t : chkLit (E2 6) 1000000 3 [.sym 60, .bool true] 62 (.bool true) = true := by kernel_rfl
theorem many6f : chkLit (E2 6) 1000000 3 [.sym 60, .bool false] 62 (.bool true) = true := by kernel_rfl
theorem many7t : chkLit (E2 7) 1000000 3 [.sym 60, .bool true] 62 (.bool true) = true := by kernel_rfl
theorem many7f : chkLit (E2 7) 1000000 3 [.sym 60, .bool false] 62 (.bool true) = true := by kernel_rfl
theorem many8t : chkLit (E2 8) 1000000 3 [.sym 60, .bool true] 62 (.bool true) = true := by kernel_rfl
theorem many8f : chkLit (E2 8) 1000000 3 [.sym 60, .bool false] 62 (.bool true) = true := by kernel_rfl
theorem many9t : chkLit (E2 9) 1000000 3 [.sym 60, .bool true] 62 (.bool true) = true := by kernel_rfl
theorem many9f : chkLit (E2 9) 1000000 3 [.sym 60, .bool false] 62 (.bool true) = true := by kernel_rfl
theorem many10t : chkLit (E2 10) 1000000 3 [.sym 60, .bool true] 62 (.bool true) = true := by kernel_rfl
theorem many10f : chkLit (E2 10) 1000000 3 [.sym 60, .bool false] 62 (.bool true) = true := by kernel_rfl
theorem many11t : chkLit (E2 11) 1000000 3 [.sym 60, .bool true] 62 (.bool true) = true := by kernel_rfl
theorem many11f : chkLit (E2 11) 1000000 3 [.sym 60, .bool false] 62 (.bool true) = true := by kernel_rfl
theorem many12t : chkLit (E2 12) 1000000 3 [.sym 60, .bool true] 62 (.bool true) = true := by kernel_rfl
theorem many12f : chkLit (E2 12) 1000000 3 [.sym 60, .bool false] 62 (.bool true) = true := by kernel_rfl
theorem many13t : chkLit (E2 13) 1000000 3 [.sym 60, .bool true] 62 (.bool true) = true := by kernel_rfl
theorem many13f : chkLit (E2 13) 1000000 3 [.sym 60, .bool false] 62 (.bool true) = true := by kernel_rfl
theorem many14t : chkLit (E2 14) 1000000 3 [.sym 60, .bool true] 62 (.bool true) = true := by kernel_rfl
theorem many14f : chkLit (E2 14) 1000000 3 [.sym 60, .bool false] 62 (.bool true) = true := by kernel_rfl
theorem many15t : chkLit (E2 15) 1000000 3 [.sym 60, .bool true] 62 (.bool true) = true := by kernel_rfl
theorem many15f : chkLit (E2 15) 1000000 3 [.sym 60, .bool false] 62 (.bool true) = true := by kernel_rfl
theorem many16t : chkLit (E2 16) 1000000 3 [.sym 60, .bool true] 62 (.bool true) = true := by kernel_rfl
theorem many16f : chkLit (E2 16) 1000000 3 [.sym 60, .bool false] 62 (.bool true) = true := by kernel_rfl
theorem many17t : chkLit (E2 17) 1000000 3 [.sym 60, .bool true] 62 (.bool true) = true := by kernel_rfl
theorem many17f : chkLit (E2 17) 1000000 3 [.sym 60, .bool false] 62 (.bool true) = true := by kernel_rfl
end Go.AEv
