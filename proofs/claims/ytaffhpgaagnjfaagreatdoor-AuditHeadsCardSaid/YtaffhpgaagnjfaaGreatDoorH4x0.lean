/- For every input, AuditHeads returns true and leaves what was there as it was. Conditions: the listed package variables hold what the text lays (tied by the card). -/
import Derived.Test.YtaffhpgaagnjfaaGreatDoorH3x0
import Derived.Test.YtaffhpgaagnjfaaGreatDoorH0x1
import Derived.Test.YtaffhpgaagnjfaaGreatDoorH0x0
import Derived.Test.YtaffhpgaagnjfaaGreatDoorH0x12
import Derived.Test.YtaffhpgaagnjfaaGreatDoorH0x34
import Derived.Test.YtaffhpgaagnjfaaGreatDoorH0x15
import Derived.Test.YtaffhpgaagnjfaaGreatDoorTie
import Derived.SevenTiedAt
namespace Go.Proofs.YtaffhpgaagnjfaaGreatDoor
open Go.ChangeShapes Go.WideShapes Go.ChangeAt Go.RowKit
set_option maxRecDepth 100000 in
theorem zgy:joinedFacts Tryz.prog 3 Tryz.f3 Rows.auditHeadsSpec Rows.auditHeadsRow=true:=by
 unfold joinedFacts
 exact AEv.yS (AEv.yS (AEv.yS (AEv.yS (AEv.yS (AEv.yS (AEv.yS (AEv.yS (AEv.yS (AEv.yS (AEv.yS (AEv.yS (AEv.yS (AEv.yS (AEv.yS (AEv.yS (AEv.yS (AEv.yS (AEv.yS (AEv.yS (AEv.yS (AEv.yS (AEv.yS (AEv.yS (AEv.yS (AEv.yS (AEv.yS (AEv.yS (AEv.yS (AEv.yS (AEv.yS (cf1) cf2) cf3) cf4) cf5) cf6) cf7) cf8) cf9) zyn) zym) zyl) zyk) zyj) zyi) zyh) zyg) zyf) zye) zyd) zyc) zyb) zya) zx9) zx8) zx7) zx6) zx5) zx4) zx3) zx2) zx1
set_option maxRecDepth 100000 in
theorem zkI:Rows.AuditHeadsSaid:=
 OpenClaim.holds_of_wide 3 Tryz.f3 rfl rfl rfl rfl rfl rfl rfl ⟨rfl,rfl,rfl,rfl,rfl⟩ rfl rfl rfl rfl rfl (by kernel_rfl) Tryz.func3 zgy
  (of_decide_eq_true (by kernel_rfl)) (by unfold Func.isWrapper;first | (rw [if_pos (by decide +kernel)];kernel_rfl) | (rw [if_neg (by decide +kernel)];exact ⟨rfl,rfl⟩))
  (fun os started H enc _=>lifted os started H enc)
theorem auditHeads_holds:Rows.AuditHeadsCardSaid:=
 Claim7.holds_tied_plain_at .later [] [.data,.data,.data,.data,.data,.data,.pinned] true (true, "0c87422db3d29feb9bc90f90323f6172cda45bea840dfa60a054d18854ce3ea6") true
  zkI (fun _ h=>by cases h) zrz (fun _ h=>by cases h) auditHeads_row_tie rfl ⟨rfl,rfl⟩ zm8 rfl
  (fun f fn hf hfn=>by
   obtain rfl:f=3:=Option.some.inj ((show Tryz.prog.funcNamed "arbac/arbaclaw54.AuditHeads" = some 3 by kernel_rfl).symm.trans hf) |>.symm
   obtain rfl:fn=Tryz.f3:=(Option.some.inj (Tryz.func3.symm.trans hfn)).symm
   exact ⟨zk4,fun j t ht=>by
    rw [Tryz.params3]at ht
    have hm:t∈[22,3]:=by simpa using Array.mem_of_getElem? ht
    have hall:([22,3].all fun u=>!Tryz.prog.wantsStandIn u)=true:=by kernel_rfl
    exact (show Tryz.prog.wantsStandIn t=false by simpa using List.all_eq_true.1 hall t hm)⟩)
  znM
#print axioms auditHeads_holds
end Go.Proofs.YtaffhpgaagnjfaaGreatDoor
