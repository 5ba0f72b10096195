/- Trails: H0x7. Conditions: each theorem's. -/
import Derived.Test.YtaffhpgaagnjfaaGreatDoorL0a
set_option linter.all false
open Go.Proofs
namespace Go.AEv
def ze9:dM 0=true:=U
def ze6:(λb a=>dL b a 0)=λ_ _=>true:=U
def ze8:dM 1=true:=U
def ze5:(λb a=>dL b a 1)=λ_ _=>true:=U
def ze7:dM 2=true:=U
def ze4:(λb a=>dL b a 2)=λ_ _=>true:=U
def za4:EN.qt 1 false false false=true:=U
def za3:EN.qt 1 false false true=true:=U
def zaZ:EN.qt 1 false true false=true:=U
def zaY:EN.qt 1 false true true=true:=U
def zaX:EN.qt 1 true false false=true:=U
def zaW:EN.qt 1 true false true=true:=U
def zaV:EN.qt 1 true true false=true:=U
def zaU:EN.qt 1 true true true=true:=U
end Go.AEv
