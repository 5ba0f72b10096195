/- Trails: H0x8. Conditions: each theorem's. -/
import Derived.Test.YtaffhpgaagnjfaaGreatDoorL0a
set_option linter.all false
open Go.Proofs
namespace Go.AEv
def zhb:CK.zD 3 0=true:=U
def zha:CK.zD 3 1=true:=U
def zg9:CK.zD 3 2=true:=U
def zg8:CK.zD 3 3=true:=U
def zg7:CK.zD 3 4=true:=U
def zg6:CK.zD 3 5=true:=U
def zg5:CK.zD 4 0=true:=U
def zg4:CK.zD 4 1=true:=U
def zg3:CK.zD 4 2=true:=U
def zg2:CK.zD 4 3=true:=U
def zg1:CK.zD 4 4=true:=U
def zg0:CK.zD 4 5=true:=U
noncomputable section
namespace KA
def s(a i:Nat):G:=.sym (Nat.add a i)
def is(lo n i:Nat):Bool:=L (Nat.ble lo i) (Nat.blt i (Nat.add lo n))
def u64z(v:G)(c:Nat):Bool:=match v with|.int .u64 (.ofNat n)=>Nat.beq n c|_=>false
def P2(j:Nat):Fact:=.conv .u64 (s 2000 j) (s 2200 j)
end KA
end
noncomputable section
namespace KQ
open KP
def rest:List G:=(List.range 138).map λi=>.sym (Nat.add 100 i)
def Qo(r:Nat):X:=.cells 303 163 (M.ofList ((r25.map λi=>Jj r i)++rest))
def zh4:Bool:=yT E 1000000 228 6000 [.ptr 6000 0] 6001 [(6000,Qo 0)] [(6000,Qo 24)] (.tuple []) 6049
end KQ
end
def kq0:KQ.zh4=true:=U
end Go.AEv
