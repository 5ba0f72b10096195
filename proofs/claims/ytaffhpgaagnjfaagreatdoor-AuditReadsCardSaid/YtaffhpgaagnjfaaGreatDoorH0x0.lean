/- Trails: H0x0. Conditions: each theorem's. -/
import Derived.Test.YtaffhpgaagnjfaaGreatDoorL0a
set_option linter.all false
namespace Go.AEv
def zav:EN.qt 5 false false false=true:=U
def zau:EN.qt 5 false false true=true:=U
def zat:EN.qt 5 false true false=true:=U
def zas:EN.qt 5 false true true=true:=U
def zar:EN.qt 5 true false false=true:=U
def zaq:EN.qt 5 true false true=true:=U
def zap:EN.qt 5 true true false=true:=U
def zao:EN.qt 5 true true true=true:=U
end Go.AEv
