/- Trails: H1x1. Conditions: each theorem's. -/
import Derived.Test.YtaffhpgaagnjfaaGreatDoorL1a
set_option linter.all false
namespace Go.AEv
def zi0:KS.Ha ((List.range 12).map λk=>Nat.add 117 k)=true:=U
def zkd:AR.Yz 0=true:=U
def zkc:AR.Yz 1=true:=U
def zkb:AR.Yz 2=true:=U
def zka:AR.Yz 3=true:=U
def zj9:AR.Yz 4=true:=U
def zj8:AR.Yz 5=true:=U
def zj7:AR.Yz 6=true:=U
def zj6:AR.Yz 7=true:=U
def zj5:AR.Yz 8=true:=U
end Go.AEv
