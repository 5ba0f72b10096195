/- Trails: H1x2. Conditions: each theorem's. -/
import Derived.Test.YtaffhpgaagnjfaaGreatDoorL1a
set_option linter.all false
open Go.Proofs
namespace Go.AEv
open KA(s is u64z)
def zi4:KS.Ha ((List.range 16).map λk=>Nat.add 73 k)=true:=U
def zkE:AP.JU 0=true:=U
def zkD:AP.JU 1=true:=U
def zkC:AP.JU 2=true:=U
def zkB:AP.JU 3=true:=U
def zkA:AP.JU 4=true:=U
def zkv:AP.Yz 0=true:=U
def zku:AP.Yz 1=true:=U
def zkt:AP.Yz 2=true:=U
def zks:AP.Yz 3=true:=U
def zkr:AP.Yz 4=true:=U
def zkq:AP.Yz 5=true:=U
noncomputable section
namespace KQ
def gB(op:BinOp)(a b:G):Option G:=
 match op with
 | .or=>Z (KP.qZ b) none λi=>ifB (is 2200 136 i) (frc (Nat.sub i 2200) λj=>Z (KP.qZ a) (ifB (L (u64z a 0) (Nat.beq (Nat.mod j 8) 7)) (some (s 2600 j)) none) λi'=>ifB (L (kV (Nat.beq (Nat.mod j 8) 7)) (Nat.beq i' (Nat.add 2400 j))) (some (s 2600 j)) none) none
 | .shl=>Z (KP.qZ a) none λi=>ifB (L (is 2601 135 i) (u64z b 8)) (some (s 2400 (Nat.sub i 2601))) none
 | .xor=>Z (KP.qZ a) none λi=>Z (KP.qZ b) none λj=>ifB (is 1000 17 i) (frc (Nat.sub i 1000) λk=>ifB (Nat.beq j (Nat.add 2600 (Nat.mul 8 k))) (some (s 2800 k)) none) none
 | _=>none
def ZA:List G:=(List.range 136).map λj=>s 2000 j
def ins:List G:=(List.range 25).map λi=>s 1000 i
def oh:List G:=(List.range 25).map λi=>ifB (Nat.blt i 17) (s 2800 i) (s 1000 i)
def outs:List G:=(List.range 25).map λi=>s 3000 i
def two:List G:=[.sym 4000,.sym 4001]
def I8(l:List G):X:=.cells 303 163 (M.ofList (l++(ZA++two)))
def I2(l:List G):X:=.cells 300 25 (M.ofList l)
def zia:X:=.cells 301 136 (M.ofList ZA)
def sC(row:List G->X):Fact:=.memoG 228 6000 [⟨6000,6001,6000,0,0,0⟩] [.ptr 6000 0] 6001 [(6000,row oh)] [(6000,row outs)] (.tuple []) 6049
def EA(row:List G->X):Env:=Qm Tryz.prog [(228,.fact)] (.binF gB::sC row::(List.range 136).map KA.P2) KP.tabs
def JU:Bool:=yT (EA I8) 1000000 189 6000 [.ptr 6000 0,.slice 6000 25 136 136 true] 6001 [(6000,I8 ins)] [(6000,I8 outs)] (.tuple []) 6049
def zjz:Bool:=yT (EA I2) 1000000 189 6000 [.ptr 6000 0,.slice 6001 0 136 136 true] 6002 [(6000,I2 ins),(6001,zia)] [(6000,I2 outs),(6001,zia)] (.tuple []) 6050
end KQ
def kq2:KQ.JU=true:=U
def kq3:KQ.zjz=true:=U
end
end Go.AEv
