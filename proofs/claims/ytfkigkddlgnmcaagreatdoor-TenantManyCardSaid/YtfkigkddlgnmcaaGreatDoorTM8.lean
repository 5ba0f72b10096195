/- For every number and choice, TenantMany returns true and leaves what was there as it was: as many tenants as permitted can be founded, and one more is refused. Conditions: the listed package variables hold what the text lays (tied by the card). -/
import Derived.Test.YtfkigkddlgnmcaaGreatDoorTM3
import Derived.Test.YtfkigkddlgnmcaaGreatDoorTM4
import Derived.Test.YtfkigkddlgnmcaaGreatDoorTM5
import Derived.Test.YtfkigkddlgnmcaaGreatDoorTM6
import Derived.Test.YtfkigkddlgnmcaaGreatDoorTM7
import Derived.SevenTiedAt
namespace Go.Proofs.YtfkigkddlgnmcaaGreatDoor
open Go.ChangeShapes Go.WideShapes Go.ChangeAt Go.RowKit
set_option maxRecDepth 100000 in
theorem closedFacts : joinedFacts Tryz.prog 3 Tryz.f3 Rows.tenantManySpec Rows.tenantManyRow = true := by
  unfold joinedFacts
  exact AEv.and2 (AEv.and2 (AEv.and2 (AEv.and2 (AEv.and2 (AEv.and2 (AEv.and2 (AEv.and2 (AEv.and2 (AEv.and2 (AEv.and2 (AEv.and2 (AEv.and2 (AEv.and2 (AEv.and2 (AEv.and2 (AEv.and2 (AEv.and2 (AEv.and2 (AEv.and2 (AEv.and2 (AEv.and2 (AEv.and2 (AEv.and2 (AEv.and2 (AEv.and2 (AEv.and2 (AEv.and2 (AEv.and2 (AEv.and2 (AEv.and2 (cf1) cf2) cf3) cf4) cf5) cf6) cf7) cf8) cf9) cf10) cf11) cf12) cf13) cf14) cf15) cf16) cf17) cf18) cf19) cf20) cf21) cf22) cf23) cf24) cf25) cf26) cf27) cf28) cf29) cf30) cf31) cf32
set_option maxRecDepth 100000 in
theorem row_holds : Rows.TenantManySaid :=
  OpenClaim.holds_of_wide 3 Tryz.f3 rfl rfl rfl rfl rfl rfl rfl ⟨rfl, rfl, rfl, rfl, rfl⟩ rfl rfl rfl rfl rfl (by kernel_rfl) Tryz.func3 closedFacts
    (of_decide_eq_true (by kernel_rfl)) (by unfold Func.isWrapper; first | (rw [if_pos (by decide +kernel)]; kernel_rfl) | (rw [if_neg (by decide +kernel)]; exact ⟨rfl, rfl⟩))
    (fun os started H enc _ => lifted os started H enc)

/-- THE STATEMENT -/
theorem tenantMany_holds : Rows.TenantManyCardSaid :=
  Claim7.holds_tied_plain_at .later [] [.data, .data, .data, .data, .pinned] true (true, "68814b7a9b093e5e3bb9b817f7d6b4787d19dc806367cec289ea39c79c42ae9c") true
    row_holds (fun _ h => by cases h) wfText (fun _ h => by cases h) tenantMany_row_tie rfl ⟨rfl, rfl⟩ mainFact rfl
    (fun f fn hf hfn => by
      obtain rfl : f = 3 := Option.some.inj ((show Tryz.prog.funcNamed "arbac/arbaclaw26.TenantMany" = some 3 by kernel_rfl).symm.trans hf) |>.symm
      obtain rfl : fn = Tryz.f3 := (Option.some.inj (Tryz.func3.symm.trans hfn)).symm
      exact ⟨looksFact, fun j t ht => by
        rw [Tryz.params3] at ht
        have hm : t ∈ [5, 4] := by simpa using Array.mem_of_getElem? ht
        have hall : ([5, 4].all fun u => !Tryz.prog.wantsStandIn u) = true := by kernel_rfl
        exact (show Tryz.prog.wantsStandIn t = false by simpa using List.all_eq_true.1 hall t hm)⟩)
    goesFact
#print axioms tenantMany_holds
end Go.Proofs.YtfkigkddlgnmcaaGreatDoor
