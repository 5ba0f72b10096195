/- Changes, their encodings and texts: calls and runs (H0x2). Conditions: those of each theorem. -/
import Derived.Test.YtmlimgmmpjhifaaGreatDoorL0a
import Derived.JoinedOf
set_option linter.all false
namespace Go.AEv
section
open Go Go.Proofs
namespace MK
theorem new1:chkNew=true:=by kernel_rfl
end MK
end
end Go.AEv
namespace Go.Proofs.YtmlimgmmpjhifaaGreatDoor
theorem cf1:(Rows.changeReadsRow.wf (OpenSpec.ofChange Rows.changeReadsSpec))=true:=by kernel_rfl
theorem cf2:(laidOutB Tryz.prog)=true:=by kernel_rfl
theorem cf3:(mapsRowed Tryz.prog)=true:=by kernel_rfl
theorem cf4:(Tryz.f4.params.all (Tryz.prog.readableRec ·))=true:=by kernel_rfl
theorem cf5:(namedTie Tryz.prog Rows.changeReadsRow.named Rows.changeReadsSpec.vars)=true:=by kernel_rfl
theorem cf6:((Rows.changeReadsRow.stops==[]))=true:=by kernel_rfl
theorem cf7:((Tryz.prog.stops==[]))=true:=by kernel_rfl
theorem cf8:((Rows.changeReadsRow.knobs==[]))=true:=by kernel_rfl
theorem cf9:((Tryz.prog.stopKnobs==[]))=true:=by kernel_rfl
theorem cf14:((Rows.changeReadsRow.maps==(Tryz.f4.params.toList++Rows.changeReadsSpec.plain.varTypes Tryz.prog).any (Tryz.prog.mapsRec ·)))=true:=by kernel_rfl
theorem cf15:((Rows.changeReadsRow.ifaces==(Tryz.f4.params.toList++Rows.changeReadsSpec.plain.varTypes Tryz.prog).any (Tryz.prog.ifacesRec ·)))=true:=by kernel_rfl
theorem cf16:((Rows.changeReadsRow.mapsOut==Tryz.prog.mapsAmong Tryz.f4.resultTypes.toList))=true:=by kernel_rfl
theorem cf17:((Rows.changeReadsRow.loops==(Tryz.f4.params.toList++Rows.changeReadsSpec.plain.varTypes Tryz.prog).any (Tryz.prog.loopsFrom ·)))=true:=by kernel_rfl
theorem cf18:((Rows.changeReadsRow.wideKeys==(Tryz.f4.params.toList++Rows.changeReadsSpec.plain.varTypes Tryz.prog++Tryz.f4.resultTypes.toList).any (Tryz.prog.wideKeysFrom ·)))=true:=by kernel_rfl
theorem cf19:(Rows.changeReadsSpec.vars.all (Tryz.prog.varReadable ·))=true:=by kernel_rfl
theorem cf20:(Tryz.f4.resultTypes.all (fun t=>Tryz.prog.readableRec t&&decide (t<Tryz.prog.types.size)))=true:=by kernel_rfl
theorem cf21:((Rows.changeReadsRow.ifacesOut==Tryz.f4.resultTypes.toList.any (Tryz.prog.ifacesRec ·)))=true:=by kernel_rfl
theorem cf22:((Rows.changeReadsRow.loopsOut==Tryz.f4.resultTypes.toList.any (Tryz.prog.loopsFrom ·)))=true:=by kernel_rfl
theorem cf23:((Rows.changeReadsRow.plainKeys==Tryz.prog.plainKeys))=true:=by kernel_rfl
theorem cf24:(Rows.changeReadsRow.shortTexts.isNone)=true:=by kernel_rfl
theorem cf25:(Tryz.prog.stopsHeard)=true:=by kernel_rfl
theorem cf27:((Rows.changeReadsRow.lifted==Tryz.prog.liftsFinal))=true:=by kernel_rfl
theorem cf28:((Tryz.prog.make==some Rows.changeReadsRow.make))=true:=by kernel_rfl
theorem cf29:((Rows.changeReadsRow.kinds==(if Rows.changeReadsRow.domain.isEmpty then [] else Tryz.f4.params.toList.map fun t=>match Tryz.prog.underlying t with | some (.int k)=>some k | _=>none)))=true:=by kernel_rfl
theorem cf30:((Rows.changeReadsRow.pinned==Rows.changeReadsRow.pinnedBy))=true:=by kernel_rfl
theorem cf31:((Rows.changeReadsRow.veiled==(Tryz.f4.params.toList++Rows.changeReadsSpec.plain.varTypes Tryz.prog++Tryz.f4.resultTypes.toList).any (Tryz.prog.veiledRec ·)))=true:=by kernel_rfl
theorem cf32:(Rows.changeReadsRow.veiledFits Tryz.prog Tryz.f4.params.toList (Tryz.f4.params.toList++Rows.changeReadsSpec.plain.varTypes Tryz.prog++Tryz.f4.resultTypes.toList))=true:=by kernel_rfl
end Go.Proofs.YtmlimgmmpjhifaaGreatDoor
