/- For every input, ChangeReads returns true and leaves what was there as it was. Conditions: the listed package variables hold what the text lays (tied by the card). -/
import Derived.Test.YtmlimgmmpjhifaaGreatDoorL11a
import Derived.Test.YtmlimgmmpjhifaaGreatDoorH0x0
import Derived.Test.YtmlimgmmpjhifaaGreatDoorH0x3
import Derived.Test.YtmlimgmmpjhifaaGreatDoorTie
set_option maxRecDepth 100000
set_option linter.all false
namespace Go.Proofs.YtmlimgmmpjhifaaGreatDoor
open Go.ChangeShapes Go.WideShapes Go.ChangeAt Go.RowKit
theorem closedFacts:joinedFacts Tryz.prog 4 Tryz.f4 Rows.changeReadsSpec Rows.changeReadsRow=true:=by
 unfold joinedFacts
 exact AEv.and2 (AEv.and2 (AEv.and2 (AEv.and2 (AEv.and2 (AEv.and2 (AEv.and2 (AEv.and2 (AEv.and2 (AEv.and2 (AEv.and2 (AEv.and2 (AEv.and2 (AEv.and2 (AEv.and2 (AEv.and2 (AEv.and2 (AEv.and2 (AEv.and2 (AEv.and2 (AEv.and2 (AEv.and2 (AEv.and2 (AEv.and2 (AEv.and2 (AEv.and2 (AEv.and2 (AEv.and2 (AEv.and2 (AEv.and2 (AEv.and2 (cf1) cf2) cf3) cf4) cf5) cf6) cf7) cf8) cf9) cf10) cf11) cf12) cf13) cf14) cf15) cf16) cf17) cf18) cf19) cf20) cf21) cf22) cf23) cf24) cf25) cf26) cf27) cf28) cf29) cf30) cf31) cf32
theorem row_holds:Rows.ChangeReadsSaid:=
 OpenClaim.holds_of_wide 4 Tryz.f4 rfl rfl rfl rfl rfl rfl rfl ⟨rfl,rfl,rfl,rfl,rfl⟩ rfl rfl rfl rfl rfl (by kernel_rfl) Tryz.func4 closedFacts
  (of_decide_eq_true (by kernel_rfl)) (by unfold Func.isWrapper;first | (rw [if_pos (by decide +kernel)];kernel_rfl) | (rw [if_neg (by decide +kernel)];exact ⟨rfl,rfl⟩))
  (fun os started H enc _=>lifted os started H enc)
theorem changeReads_holds:Rows.ChangeReadsCardSaid:=
 Claim7.holds_tied_plain_at .later [] [.data,.data,.data,.data,.pinned] true (true, "296bbd89bbe506208b0cdd6df61ca08f6f487751c8f9b9554573fc59e6eaccfc") true
  row_holds (fun _ h=>by cases h) wfText (fun _ h=>by cases h) changeReads_row_tie rfl ⟨rfl,rfl⟩ mainFact rfl
  (fun f fn hf hfn=>by
   obtain rfl:f=4:=Option.some.inj ((show Tryz.prog.funcNamed "arbac/arbaclaw25.ChangeReads" = some 4 by kernel_rfl).symm.trans hf) |>.symm
   obtain rfl:fn=Tryz.f4:=(Option.some.inj (Tryz.func4.symm.trans hfn)).symm
   exact ⟨looksFact,fun j t ht=>by
    rw [Tryz.params4]at ht
    have hm:t∈[24,46,22]:=by simpa using Array.mem_of_getElem? ht
    have hall:([24,46,22].all fun u=>!Tryz.prog.wantsStandIn u)=true:=by kernel_rfl
    exact (show Tryz.prog.wantsStandIn t=false by simpa using List.all_eq_true.1 hall t hm)⟩)
  goesFact
#print axioms changeReads_holds
end Go.Proofs.YtmlimgmmpjhifaaGreatDoor
