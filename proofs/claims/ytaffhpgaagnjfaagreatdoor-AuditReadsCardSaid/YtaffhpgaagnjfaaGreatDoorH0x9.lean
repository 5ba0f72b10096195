/- Trails: H0x9. Conditions: each theorem's. -/
import Derived.Test.YtaffhpgaagnjfaaGreatDoorL0a
import Derived.Test.YtaffhpgaagnjfaaGreatDoorCards
import Derived.SevenTiedAt
set_option linter.all false
namespace Go.AEv
def zgZ:CK.zD 5 0=true:=U
def zgY:CK.zD 5 1=true:=U
def zgX:CK.zD 5 2=true:=U
def zgW:CK.zD 5 3=true:=U
def zgV:CK.zD 5 4=true:=U
def zgU:CK.zD 5 5=true:=U
def ch0:J3 CH.JR (List.range 8)=true:=U
def chz:CH.UO=true:=U
def zh3:CH.zD 0 0=true:=U
def zh2:CH.zD 0 1=true:=U
def zh1:CH.zD 0 2=true:=U
def zh0:CH.zD 0 3=true:=U
def zhZ:CH.zD 0 4=true:=U
def zhY:CH.zD 0 5=true:=U
def zhX:CH.zD 1 0=true:=U
def zhW:CH.zD 1 1=true:=U
def zhV:CH.zD 1 2=true:=U
def zhU:CH.zD 1 3=true:=U
def zhT:CH.zD 1 4=true:=U
def zhS:CH.zD 1 5=true:=U
def zhR:CH.zD 2 0=true:=U
def zhQ:CH.zD 2 1=true:=U
def zhP:CH.zD 2 2=true:=U
def zhO:CH.zD 2 3=true:=U
def zhN:CH.zD 2 4=true:=U
def zhM:CH.zD 2 5=true:=U
def kp1:KP.chk=true:=U
end Go.AEv
namespace Go.Proofs.YtaffhpgaagnjfaaGreatDoor
def zcL:Rows.auditReadsRow.wfByText (OpenSpec.ofChange Rows.auditReadsSpec)=true:=U
def Nd:Tryz.prog.mainIs=some (true,("0c87422db3d29feb9bc90f90323f6172cda45bea840dfa60a054d18854ce3ea6" : String).toList):=U
def F4:true=Tryz.prog.looks []:=U
end Go.Proofs.YtaffhpgaagnjfaaGreatDoor
