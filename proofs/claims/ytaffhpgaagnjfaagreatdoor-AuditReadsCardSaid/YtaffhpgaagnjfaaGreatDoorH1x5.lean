/- Trails: H1x5. Conditions: each theorem's. -/
import Derived.Test.YtaffhpgaagnjfaaGreatDoorL1a
set_option linter.all false
namespace Go.AEv
def ziJ:TC.gK 0=true:=U
def ziI:TC.gK 1=true:=U
def ziH:TC.gK 2=true:=U
def ziG:TC.gK 3=true:=U
def ziF:TC.gK 4=true:=U
def ziE:TC.gK 5=true:=U
def ziD:TC.gK 6=true:=U
def ziC:TC.gK 7=true:=U
def ziB:TC.gK 8=true:=U
def tcw:TC.JS=true:=U
def tcr:AP.ZO TC.xF=true:=U
end Go.AEv
