/- Closed facts of the row. Conditions: none. -/
import Derived.Test.YtaffhpgaagnjfaaGreatDoorRows
import Derived.JoinedOf
namespace Go.Proofs.YtaffhpgaagnjfaaGreatDoor
theorem cf1:(Rows.auditHeadsRow.wf (OpenSpec.ofChange Rows.auditHeadsSpec))=true:=by kernel_rfl
theorem cf2:(laidOutB Tryz.prog)=true:=by kernel_rfl
theorem cf3:(mapsRowed Tryz.prog)=true:=by kernel_rfl
theorem cf4:(Tryz.f3.params.all (Tryz.prog.readableRec ·))=true:=by kernel_rfl
theorem cf5:(namedTie Tryz.prog Rows.auditHeadsRow.named Rows.auditHeadsSpec.vars)=true:=by kernel_rfl
theorem cf6:((Rows.auditHeadsRow.stops==[]))=true:=by kernel_rfl
theorem cf7:((Tryz.prog.stops==[]))=true:=by kernel_rfl
theorem cf8:((Rows.auditHeadsRow.knobs==[]))=true:=by kernel_rfl
theorem cf9:((Tryz.prog.stopKnobs==[]))=true:=by kernel_rfl
theorem zyj:((Rows.auditHeadsRow.maps==(Tryz.f3.params.toList++Rows.auditHeadsSpec.plain.varTypes Tryz.prog).any (Tryz.prog.mapsRec ·)))=true:=by kernel_rfl
theorem zyi:((Rows.auditHeadsRow.ifaces==(Tryz.f3.params.toList++Rows.auditHeadsSpec.plain.varTypes Tryz.prog).any (Tryz.prog.ifacesRec ·)))=true:=by kernel_rfl
theorem zyh:((Rows.auditHeadsRow.mapsOut==Tryz.prog.mapsAmong Tryz.f3.resultTypes.toList))=true:=by kernel_rfl
theorem zyg:((Rows.auditHeadsRow.loops==(Tryz.f3.params.toList++Rows.auditHeadsSpec.plain.varTypes Tryz.prog).any (Tryz.prog.loopsFrom ·)))=true:=by kernel_rfl
theorem zyf:((Rows.auditHeadsRow.wideKeys==(Tryz.f3.params.toList++Rows.auditHeadsSpec.plain.varTypes Tryz.prog++Tryz.f3.resultTypes.toList).any (Tryz.prog.wideKeysFrom ·)))=true:=by kernel_rfl
theorem zye:(Rows.auditHeadsSpec.vars.all (Tryz.prog.varReadable ·))=true:=by kernel_rfl
theorem zyd:(Tryz.f3.resultTypes.all (fun t=>Tryz.prog.readableRec t&&decide (t<Tryz.prog.types.size)))=true:=by kernel_rfl
theorem zyc:((Rows.auditHeadsRow.ifacesOut==Tryz.f3.resultTypes.toList.any (Tryz.prog.ifacesRec ·)))=true:=by kernel_rfl
theorem zyb:((Rows.auditHeadsRow.loopsOut==Tryz.f3.resultTypes.toList.any (Tryz.prog.loopsFrom ·)))=true:=by kernel_rfl
theorem zya:((Rows.auditHeadsRow.plainKeys==Tryz.prog.plainKeys))=true:=by kernel_rfl
theorem zx9:(Rows.auditHeadsRow.shortTexts.isNone)=true:=by kernel_rfl
theorem zx8:(Tryz.prog.stopsHeard)=true:=by kernel_rfl
theorem zx6:((Rows.auditHeadsRow.lifted==Tryz.prog.liftsFinal))=true:=by kernel_rfl
theorem zx5:((Tryz.prog.make==some Rows.auditHeadsRow.make))=true:=by kernel_rfl
theorem zx4:((Rows.auditHeadsRow.kinds==(if Rows.auditHeadsRow.domain.isEmpty then [] else Tryz.f3.params.toList.map fun t=>match Tryz.prog.underlying t with | some (.int k)=>some k | _=>none)))=true:=by kernel_rfl
theorem zx3:((Rows.auditHeadsRow.pinned==Rows.auditHeadsRow.pinnedBy))=true:=by kernel_rfl
theorem zx2:((Rows.auditHeadsRow.veiled==(Tryz.f3.params.toList++Rows.auditHeadsSpec.plain.varTypes Tryz.prog++Tryz.f3.resultTypes.toList).any (Tryz.prog.veiledRec ·)))=true:=by kernel_rfl
theorem zx1:(Rows.auditHeadsRow.veiledFits Tryz.prog Tryz.f3.params.toList (Tryz.f3.params.toList++Rows.auditHeadsSpec.plain.varTypes Tryz.prog++Tryz.f3.resultTypes.toList))=true:=by kernel_rfl
end Go.Proofs.YtaffhpgaagnjfaaGreatDoor
