/- Trails: H0x6. Conditions: each theorem's. -/
import Derived.Test.YtaffhpgaagnjfaaGreatDoorL0a
set_option linter.all false
namespace Go.AEv
def ck0:J3 CK.JR (List.range 12)=true:=U
def ckz:CK.UO=true:=U
def zht:CK.zD 0 0=true:=U
def zhs:CK.zD 0 1=true:=U
def zhr:CK.zD 0 2=true:=U
def zhq:CK.zD 0 3=true:=U
def zhp:CK.zD 0 4=true:=U
def zho:CK.zD 0 5=true:=U
def zhn:CK.zD 1 0=true:=U
def zhm:CK.zD 1 1=true:=U
def zhl:CK.zD 1 2=true:=U
def zhk:CK.zD 1 3=true:=U
def zhj:CK.zD 1 4=true:=U
def zhi:CK.zD 1 5=true:=U
def zhh:CK.zD 2 0=true:=U
def zhg:CK.zD 2 1=true:=U
def zhf:CK.zD 2 2=true:=U
def zhe:CK.zD 2 3=true:=U
def zhd:CK.zD 2 4=true:=U
def zhc:CK.zD 2 5=true:=U
def zaL:EN.qt 3 false false false=true:=U
def zaK:EN.qt 3 false false true=true:=U
def zaJ:EN.qt 3 false true false=true:=U
def zaI:EN.qt 3 false true true=true:=U
def zaH:EN.qt 3 true false false=true:=U
def zaG:EN.qt 3 true false true=true:=U
def zaF:EN.qt 3 true true false=true:=U
def zaE:EN.qt 3 true true true=true:=U
end Go.AEv
