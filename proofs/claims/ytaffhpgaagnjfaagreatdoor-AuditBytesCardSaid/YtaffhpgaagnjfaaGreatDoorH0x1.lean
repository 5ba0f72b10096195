/- Closed facts of the row. Conditions: none. -/
import Derived.Test.YtaffhpgaagnjfaaGreatDoorRows
import Derived.JoinedOf
open Go.Proofs.Tryz
namespace Go.Proofs.YtaffhpgaagnjfaaGreatDoor
theorem cf1:(Rows.auditBytesRow.wf (OpenSpec.ofChange Rows.auditBytesSpec))=true:=by kernel_rfl
theorem cf2:(laidOutB prog)=true:=by kernel_rfl
theorem cf3:(mapsRowed prog)=true:=by kernel_rfl
theorem cf4:(Tryz.f4.params.all (Tryz.prog.readableRec ·))=true:=by kernel_rfl
theorem cf5:(namedTie prog Rows.auditBytesRow.named Rows.auditBytesSpec.vars)=true:=by kernel_rfl
theorem cf6:((Rows.auditBytesRow.stops==[]))=true:=by kernel_rfl
theorem cf7:((Tryz.prog.stops==[]))=true:=by kernel_rfl
theorem cf8:((Rows.auditBytesRow.knobs==[]))=true:=by kernel_rfl
theorem cf9:((Tryz.prog.stopKnobs==[]))=true:=by kernel_rfl
theorem zCK:((Rows.auditBytesRow.maps==(Tryz.f4.params.toList++Rows.auditBytesSpec.plain.varTypes prog).any (Tryz.prog.mapsRec ·)))=true:=by kernel_rfl
theorem zCJ:((Rows.auditBytesRow.ifaces==(Tryz.f4.params.toList++Rows.auditBytesSpec.plain.varTypes prog).any (Tryz.prog.ifacesRec ·)))=true:=by kernel_rfl
theorem zCI:((Rows.auditBytesRow.mapsOut==Tryz.prog.mapsAmong Tryz.f4.resultTypes.toList))=true:=by kernel_rfl
theorem zCH:((Rows.auditBytesRow.loops==(Tryz.f4.params.toList++Rows.auditBytesSpec.plain.varTypes prog).any (Tryz.prog.loopsFrom ·)))=true:=by kernel_rfl
theorem zCG:((Rows.auditBytesRow.wideKeys==(Tryz.f4.params.toList++Rows.auditBytesSpec.plain.varTypes prog++Tryz.f4.resultTypes.toList).any (Tryz.prog.wideKeysFrom ·)))=true:=by kernel_rfl
theorem zCF:(Rows.auditBytesSpec.vars.all (Tryz.prog.varReadable ·))=true:=by kernel_rfl
theorem zCE:(Tryz.f4.resultTypes.all (fun t=>Tryz.prog.readableRec t&&decide (t<Tryz.prog.types.size)))=true:=by kernel_rfl
theorem zCD:((Rows.auditBytesRow.ifacesOut==Tryz.f4.resultTypes.toList.any (Tryz.prog.ifacesRec ·)))=true:=by kernel_rfl
theorem zCC:((Rows.auditBytesRow.loopsOut==Tryz.f4.resultTypes.toList.any (Tryz.prog.loopsFrom ·)))=true:=by kernel_rfl
theorem zCB:((Rows.auditBytesRow.plainKeys==Tryz.prog.plainKeys))=true:=by kernel_rfl
theorem zCA:(Rows.auditBytesRow.shortTexts.isNone)=true:=by kernel_rfl
theorem zCz:(Tryz.prog.stopsHeard)=true:=by kernel_rfl
theorem zCx:((Rows.auditBytesRow.lifted==Tryz.prog.liftsFinal))=true:=by kernel_rfl
theorem zCw:((Tryz.prog.make==some Rows.auditBytesRow.make))=true:=by kernel_rfl
theorem zCv:((Rows.auditBytesRow.kinds==(if Rows.auditBytesRow.domain.isEmpty then[] else Tryz.f4.params.toList.map fun t=>match Tryz.prog.underlying t with|some (.int k)=>some k|_=>none)))=true:=by kernel_rfl
theorem zCu:((Rows.auditBytesRow.pinned==Rows.auditBytesRow.pinnedBy))=true:=by kernel_rfl
theorem zCt:((Rows.auditBytesRow.veiled==(Tryz.f4.params.toList++Rows.auditBytesSpec.plain.varTypes prog++Tryz.f4.resultTypes.toList).any (Tryz.prog.veiledRec ·)))=true:=by kernel_rfl
theorem zCs:(Rows.auditBytesRow.veiledFits prog Tryz.f4.params.toList (Tryz.f4.params.toList++Rows.auditBytesSpec.plain.varTypes prog++Tryz.f4.resultTypes.toList))=true:=by kernel_rfl
end Go.Proofs.YtaffhpgaagnjfaaGreatDoor
