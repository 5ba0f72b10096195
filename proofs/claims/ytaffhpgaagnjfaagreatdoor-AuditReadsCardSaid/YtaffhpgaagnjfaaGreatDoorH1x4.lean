/- Trails: H1x4. Conditions: each theorem's. -/
import Derived.Test.YtaffhpgaagnjfaaGreatDoorL1a
set_option linter.all false
namespace Go.AEv
def abv:((List.range 136).all λn=>(List.range 136).all λj=>Nat.blt (KS.WN n j) 18446744073709551616)=true:=U
def cns:((List.range 136).all λn=>(List.range 25).all λj=>Nat.blt (KS.bm n j) 18446744073709551616)=true:=U
def zgp:KT.gJ 31 82 29 KP.tabs ((List.range 24).map λk=>Nat.add 16 k)=true:=U
def zgo:KT.gJ 31 82 29 KP.tabs ((List.range 24).map λk=>Nat.add 40 k)=true:=U
def zgn:KT.gJ 31 82 29 KP.tabs ((List.range 24).map λk=>Nat.add 64 k)=true:=U
def zkn:AP.Yz 8=true:=U
def zkm:AR.JU 0=true:=U
def zkl:AR.JU 1=true:=U
def zkk:AR.JU 2=true:=U
def zkj:AR.JU 3=true:=U
def zki:AR.JU 4=true:=U
def zkh:AR.JU 5=true:=U
def zkg:AR.JU 6=true:=U
def zkf:AR.JU 7=true:=U
def zke:AR.JU 8=true:=U
end Go.AEv
