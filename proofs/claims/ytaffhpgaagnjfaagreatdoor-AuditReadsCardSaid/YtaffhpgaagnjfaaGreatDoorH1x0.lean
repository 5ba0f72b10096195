/- Trails: H1x0. Conditions: each theorem's. -/
import Derived.Test.YtaffhpgaagnjfaaGreatDoorL1a
set_option linter.all false
namespace Go.AEv
def zi3:KS.Ha ((List.range 16).map λk=>Nat.add 89 k)=true:=U
def zkz:AP.JU 5=true:=U
def zky:AP.JU 6=true:=U
def zkx:AP.JU 7=true:=U
def zkw:AP.JU 8=true:=U
def zkp:AP.Yz 6=true:=U
def zko:AP.Yz 7=true:=U
end Go.AEv
