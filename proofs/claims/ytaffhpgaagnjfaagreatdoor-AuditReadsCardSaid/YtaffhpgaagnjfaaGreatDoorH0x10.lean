/- Trails: H0x10. Conditions: each theorem's. -/
import Derived.Test.YtaffhpgaagnjfaaGreatDoorL0a
import Derived.JoinedOf
set_option linter.all false
open Go.Proofs.Tryz
open Go.Proofs
namespace Go.AEv
def zjZ:uu 76 Xp=true:=U
def zhL:CH.zD 3 0=true:=U
def zhK:CH.zD 3 1=true:=U
def zhJ:CH.zD 3 2=true:=U
def zhI:CH.zD 3 3=true:=U
def zhH:CH.zD 3 4=true:=U
def zhG:CH.zD 3 5=true:=U
def zhF:CH.zD 4 0=true:=U
def zhE:CH.zD 4 1=true:=U
def zhD:CH.zD 4 2=true:=U
def zhC:CH.zD 4 3=true:=U
def zhB:CH.zD 4 4=true:=U
def zhA:CH.zD 4 5=true:=U
def ziY:JS=true:=U
def zcO:uv=true:=U
end Go.AEv
namespace Go.Proofs.YtaffhpgaagnjfaaGreatDoor
def cf1:(Rows.auditReadsRow.wf (OpenSpec.ofChange Rows.auditReadsSpec))=true:=U
def cf2:(laidOutB prog)=true:=U
def cf3:(mapsRowed prog)=true:=U
def cf4:(Tryz.f5.params.all (Tryz.prog.readableRec ·))=true:=U
def cf5:(namedTie prog Rows.auditReadsRow.named Rows.auditReadsSpec.vars)=true:=U
def cf6:((Rows.auditReadsRow.stops==[]))=true:=U
def cf7:((Tryz.prog.stops==[]))=true:=U
def cf8:((Rows.auditReadsRow.knobs==[]))=true:=U
def cf9:((Tryz.prog.stopKnobs==[]))=true:=U
def zjS:((Rows.auditReadsRow.maps==(Tryz.f5.params.toList++Rows.auditReadsSpec.plain.varTypes prog).any (Tryz.prog.mapsRec ·)))=true:=U
def zjR:((Rows.auditReadsRow.ifaces==(Tryz.f5.params.toList++Rows.auditReadsSpec.plain.varTypes prog).any (Tryz.prog.ifacesRec ·)))=true:=U
def zjQ:((Rows.auditReadsRow.mapsOut==Tryz.prog.mapsAmong Tryz.f5.resultTypes.toList))=true:=U
def zjP:((Rows.auditReadsRow.loops==(Tryz.f5.params.toList++Rows.auditReadsSpec.plain.varTypes prog).any (Tryz.prog.loopsFrom ·)))=true:=U
def zjO:((Rows.auditReadsRow.wideKeys==(Tryz.f5.params.toList++Rows.auditReadsSpec.plain.varTypes prog++Tryz.f5.resultTypes.toList).any (Tryz.prog.wideKeysFrom ·)))=true:=U
def zjN:(Rows.auditReadsSpec.vars.all (Tryz.prog.varReadable ·))=true:=U
def zjM:(Tryz.f5.resultTypes.all (λt=>Tryz.prog.readableRec t&&decide (t<Tryz.prog.types.size)))=true:=U
def zjL:((Rows.auditReadsRow.ifacesOut==Tryz.f5.resultTypes.toList.any (Tryz.prog.ifacesRec ·)))=true:=U
def zjK:((Rows.auditReadsRow.loopsOut==Tryz.f5.resultTypes.toList.any (Tryz.prog.loopsFrom ·)))=true:=U
def zjJ:((Rows.auditReadsRow.plainKeys==Tryz.prog.plainKeys))=true:=U
def zjI:(Rows.auditReadsRow.shortTexts.isNone)=true:=U
def zjH:(Tryz.prog.stopsHeard)=true:=U
def zjF:((Rows.auditReadsRow.lifted==Tryz.prog.liftsFinal))=true:=U
def zjE:((Tryz.prog.make==some Rows.auditReadsRow.make))=true:=U
def zjD:((Rows.auditReadsRow.kinds==(if Rows.auditReadsRow.domain.isEmpty then[] else Tryz.f5.params.toList.map λt=>match Tryz.prog.underlying t with|some (.int k)=>some k|_=>none)))=true:=U
def zjC:((Rows.auditReadsRow.pinned==Rows.auditReadsRow.pinnedBy))=true:=U
def zjB:((Rows.auditReadsRow.veiled==(Tryz.f5.params.toList++Rows.auditReadsSpec.plain.varTypes prog++Tryz.f5.resultTypes.toList).any (Tryz.prog.veiledRec ·)))=true:=U
def zjA:(Rows.auditReadsRow.veiledFits prog Tryz.f5.params.toList (Tryz.f5.params.toList++Rows.auditReadsSpec.plain.varTypes prog++Tryz.f5.resultTypes.toList))=true:=U
end Go.Proofs.YtaffhpgaagnjfaaGreatDoor
