/- Trails: H0x3. Conditions: each theorem's. -/
import Derived.Test.YtaffhpgaagnjfaaGreatDoorL0a
set_option linter.all false
open Go.Proofs
namespace Go.AEv
def ze1:J3 (oY 116) (rng 0 256)=true:=U
def zkF:J3 (oY 114) (rng 0 256)=true:=U
def zfX:J3 (oY 115) (rng 0 256)=true:=U
def pm1:J3 zcs (rng 0 256)=true:=U
def zj4:zbp=true:=U
def zhz:CH.zD 5 0=true:=U
def zhy:CH.zD 5 1=true:=U
def zhx:CH.zD 5 2=true:=U
def zhw:CH.zD 5 3=true:=U
def zhv:CH.zD 5 4=true:=U
def zhu:CH.zD 5 5=true:=U
def zaD:EN.qt 4 false false false=true:=U
def zaC:EN.qt 4 false false true=true:=U
def zaB:EN.qt 4 false true false=true:=U
def zaA:EN.qt 4 false true true=true:=U
def zaz:EN.qt 4 true false false=true:=U
def zay:EN.qt 4 true false true=true:=U
def zax:EN.qt 4 true true false=true:=U
def zaw:EN.qt 4 true true true=true:=U
end Go.AEv
