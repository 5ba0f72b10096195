/- For every input, ChangeBytes returns true and leaves what was there as it was. Conditions: the listed package variables hold what the text lays (tied by the card). -/
import Derived.Test.YtmlimgmmpjhifaaGreatDoorL14a
import Derived.Test.YtmlimgmmpjhifaaGreatDoorTie
set_option maxRecDepth 100000
set_option linter.all false
namespace Go.Proofs.YtmlimgmmpjhifaaGreatDoor
open Go.ChangeShapes Go.WideShapes Go.ChangeAt Go.RowKit
theorem eu:joinedFacts Tryz.prog 3 Tryz.f3 Rows.changeBytesSpec Rows.changeBytesRow=true:=by
 unfold joinedFacts
 exact AEv.kM (AEv.kM (AEv.kM (AEv.kM (AEv.kM (AEv.kM (AEv.kM (AEv.kM (AEv.kM (AEv.kM (AEv.kM (AEv.kM (AEv.kM (AEv.kM (AEv.kM (AEv.kM (AEv.kM (AEv.kM (AEv.kM (AEv.kM (AEv.kM (AEv.kM (AEv.kM (AEv.kM (AEv.kM (AEv.kM (AEv.kM (AEv.kM (AEv.kM (AEv.kM (AEv.kM (cf1) cf2) cf3) cf4) cf5) cf6) cf7) cf8) cf9) Gl) Gk) Gj) Gi) Gh) Gg) Gf) Ge) Gc) Gb) Ga) F9) F8) F7) F6) F4) FZ) FW) FV) FR) FQ) FO) FN
theorem mZ:Rows.ChangeBytesSaid:=
 OpenClaim.holds_of_wide 3 Tryz.f3 rfl rfl rfl rfl rfl rfl rfl ⟨rfl,rfl,rfl,rfl,rfl⟩ rfl rfl rfl rfl rfl (by kernel_rfl) Tryz.func3 eu
  (of_decide_eq_true (by kernel_rfl)) (by unfold Func.isWrapper;first | (rw [if_pos (by decide +kernel)];kernel_rfl) | (rw [if_neg (by decide +kernel)];exact ⟨rfl,rfl⟩))
  (fun os started H enc _=>lifted os started H enc)
theorem changeBytes_holds:Rows.ChangeBytesCardSaid:=
 Claim7.holds_tied_plain_at .later [] [.data,.data,.data,.data,.pinned] true (true, "296bbd89bbe506208b0cdd6df61ca08f6f487751c8f9b9554573fc59e6eaccfc") true
  mZ (fun _ h=>by cases h) wJ (fun _ h=>by cases h) changeBytes_row_tie rfl ⟨rfl,rfl⟩ rE rfl
  (fun f fn hf hfn=>by
   obtain rfl:f=3:=Option.some.inj ((show Tryz.prog.funcNamed "arbac/arbaclaw25.ChangeBytes" = some 3 by kernel_rfl).symm.trans hf) |>.symm
   obtain rfl:fn=Tryz.f3:=(Option.some.inj (Tryz.func3.symm.trans hfn)).symm
   exact ⟨ny,fun j t ht=>by
    rw [Tryz.params3]at ht
    have hm:t∈[24]:=by simpa using Array.mem_of_getElem? ht
    have hall:([24].all fun u=>!Tryz.prog.wantsStandIn u)=true:=by kernel_rfl
    exact (show Tryz.prog.wantsStandIn t=false by simpa using List.all_eq_true.1 hall t hm)⟩)
  sy
#print axioms changeBytes_holds
end Go.Proofs.YtmlimgmmpjhifaaGreatDoor
