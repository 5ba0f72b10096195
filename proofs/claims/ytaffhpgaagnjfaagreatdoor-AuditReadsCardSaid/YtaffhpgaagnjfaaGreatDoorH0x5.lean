/- Trails: H0x5. Conditions: each theorem's. -/
import Derived.Test.YtaffhpgaagnjfaaGreatDoorL0a
set_option linter.all false
open Go.Proofs
namespace Go.AEv
def fl0:bp 0=true:=U
def fl1:bp 1=true:=U
def fl2:bp 2=true:=U
def fl3:bp 3=true:=U
def fl4:bp 4=true:=U
def zaT:EN.qt 2 false false false=true:=U
def zaS:EN.qt 2 false false true=true:=U
def zaR:EN.qt 2 false true false=true:=U
def zaQ:EN.qt 2 false true true=true:=U
def zaP:EN.qt 2 true false false=true:=U
def zaO:EN.qt 2 true false true=true:=U
def zaN:EN.qt 2 true true false=true:=U
def zaM:EN.qt 2 true true true=true:=U
end Go.AEv
