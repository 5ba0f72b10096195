/- Trails: H0x12. Conditions: each theorem's. -/
import Derived.Test.YtaffhpgaagnjfaaGreatDoorL0a
import Derived.JoinedOf
set_option linter.all false
open Go.Proofs
namespace Go.AEv
def zfp:jb 2 0=true:=U
def zfo:jb 2 1=true:=U
def zfn:jb 2 2=true:=U
def zfm:jb 2 3=true:=U
def zfl:jb 2 4=true:=U
end Go.AEv
namespace Go.Proofs.YtaffhpgaagnjfaaGreatDoor
def zjT:((Rows.auditReadsRow.named==Tryz.prog.varsNamed 5))=true:=U
def zjG:(Tryz.prog.mayEnter)=true:=U
end Go.Proofs.YtaffhpgaagnjfaaGreatDoor
