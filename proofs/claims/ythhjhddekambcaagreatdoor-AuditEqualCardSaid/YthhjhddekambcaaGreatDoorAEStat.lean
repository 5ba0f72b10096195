/- For every two items, AuditEqual returns true and leaves what was there as it was: two records are equal where their bytes are, and a record equals itself. Conditions: the listed package variables hold what the text lays (tied by the card). -/
import Derived.Test.YthhjhddekambcaaGreatDoorAERow
import Derived.Test.YthhjhddekambcaaGreatDoorAEVA
import Derived.Test.YthhjhddekambcaaGreatDoorAEVB
import Derived.Test.YthhjhddekambcaaGreatDoorAEVC
import Derived.Test.YthhjhddekambcaaGreatDoorAEGO
import Derived.Test.YthhjhddekambcaaGreatDoorAECF
import Derived.Test.YthhjhddekambcaaGreatDoorTie
import Derived.SevenTiedAt
namespace Go.Proofs.YthhjhddekambcaaGreatDoor
open Go.ChangeShapes Go.WideShapes Go.ChangeAt Go.RowKit
set_option maxRecDepth 100000 in
theorem closedFacts : joinedFacts Tryz.prog 3 Tryz.f3 Rows.auditEqualSpec Rows.auditEqualRow = true := by
  unfold joinedFacts
  exact AEv.and2 (AEv.and2 (AEv.and2 (AEv.and2 (AEv.and2 (AEv.and2 (AEv.and2 (AEv.and2 (AEv.and2 (AEv.and2 (AEv.and2 (AEv.and2 (AEv.and2 (AEv.and2 (AEv.and2 (AEv.and2 (AEv.and2 (AEv.and2 (AEv.and2 (AEv.and2 (AEv.and2 (AEv.and2 (AEv.and2 (AEv.and2 (AEv.and2 (AEv.and2 (AEv.and2 (AEv.and2 (AEv.and2 (AEv.and2 (AEv.and2 (cf1) cf2) cf3) cf4) cf5) cf6) cf7) cf8) cf9) cf10) cf11) cf12) cf13) cf14) cf15) cf16) cf17) cf18) cf19) cf20) cf21) cf22) cf23) cf24) cf25) cf26) cf27) cf28) cf29) cf30) cf31) cf32
set_option maxRecDepth 100000 in
theorem row_holds : Rows.AuditEqualSaid :=
  OpenClaim.holds_of_wide 3 Tryz.f3 rfl rfl rfl rfl rfl rfl rfl ⟨rfl, rfl, rfl, rfl, rfl⟩ rfl rfl rfl rfl rfl (by kernel_rfl) Tryz.func3 closedFacts
    (of_decide_eq_true (by kernel_rfl)) (by unfold Func.isWrapper; first | (rw [if_pos (by decide +kernel)]; kernel_rfl) | (rw [if_neg (by decide +kernel)]; exact ⟨rfl, rfl⟩))
    (fun os started H enc _ => lifted os started H enc)

/-- THE STATEMENT -/
theorem auditEqual_holds : Rows.AuditEqualCardSaid :=
  Claim7.holds_tied_plain_at .later [] [.data, .data, .data, .data, .data, .data, .pinned] true (true, "4be49f62d20758eb405c635094e4d6f18a5fc6c96b980572e342777d42d7e219") true
    row_holds (fun _ h => by cases h) wfText (fun _ h => by cases h) auditEqual_row_tie rfl ⟨rfl, rfl⟩ mainFact rfl
    (fun f fn hf hfn => by
      obtain rfl : f = 3 := Option.some.inj ((show Tryz.prog.funcNamed "arbac/arbaclaw54.AuditEqual" = some 3 by kernel_rfl).symm.trans hf) |>.symm
      obtain rfl : fn = Tryz.f3 := (Option.some.inj (Tryz.func3.symm.trans hfn)).symm
      exact ⟨looksFact, fun j t ht => by
        rw [Tryz.params3] at ht
        have hm : t ∈ [28, 28] := by simpa using Array.mem_of_getElem? ht
        have hall : ([28, 28].all fun u => !Tryz.prog.wantsStandIn u) = true := by kernel_rfl
        exact (show Tryz.prog.wantsStandIn t = false by simpa using List.all_eq_true.1 hall t hm)⟩)
    goesFact
#print axioms auditEqual_holds
end Go.Proofs.YthhjhddekambcaaGreatDoor
