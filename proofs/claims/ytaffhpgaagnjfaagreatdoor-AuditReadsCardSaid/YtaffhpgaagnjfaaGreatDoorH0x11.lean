/- Trails: H0x11. Conditions: each theorem's. -/
import Derived.Test.YtaffhpgaagnjfaaGreatDoorL0a
set_option linter.all false
open Go.Proofs
namespace Go.AEv
def zbc:EN.qt 0 false false false=true:=U
def zbb:EN.qt 0 false false true=true:=U
def zba:EN.qt 0 false true false=true:=U
def za9:EN.qt 0 false true true=true:=U
def za8:EN.qt 0 true false false=true:=U
def za7:EN.qt 0 true false true=true:=U
def za6:EN.qt 0 true true false=true:=U
def za5:EN.qt 0 true true true=true:=U
def enz:EN.Sh.chk ⟨0,0,true,true,false,false⟩=true:=U
def zex:ux=true:=U
end Go.AEv
