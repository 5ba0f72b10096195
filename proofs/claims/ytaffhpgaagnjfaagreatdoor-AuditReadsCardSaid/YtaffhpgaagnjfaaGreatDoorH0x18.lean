/- Trails: H0x18. Conditions: each theorem's. -/
import Derived.Test.YtaffhpgaagnjfaaGreatDoorL0a
import Derived.Test.YtaffhpgaagnjfaaGreatDoorCards
import Derived.SevenTiedAt
set_option linter.all false
open Bool
open Go.Proofs
namespace Go.AEv
noncomputable section
namespace GR
def q(a i:Nat):G:=.sym (Nat.add a (Nat.mul 10 i))
def zgS(c i:Nat):List Fact:=
 [.bin .and (q 100 i) (u64c 127) (q 101 i),.conv .u8 (q 101 i) (q 102 i),.bin .shr (q 100 i) (u64c 7) (q 110 i),.bin .shr (q 100 i) (qc 7) (q 110 i)]++jY i [] λ_=>[.bin .or (q 102 i) (u8c 128) (q 103 i),.bin .gtr (q 100 i) (u64c 0) (.bool true)]
def grF(c:Nat):List Fact:=zX ((List.range c).flatMap (zgS c)) [.bin .gtr (q 100 c) (u64c 0) (.bool false)]
def grL(c:Nat):List G:=jY c [] λc=>Nat.rec (motive:=λ_=>List G) [.sym 102] (λi ih=>q 113 i::ih) c
def WA(c:Nat):Bool:=Z5 (EN (grF c)) 86 [.sym 100] (dm (grL c))
end GR
def gr1:GR.WA 1=true:=U
def gr2:GR.WA 2=true:=U
def gr3:GR.WA 3=true:=U
def gr4:GR.WA 4=true:=U
def gr5:GR.WA 5=true:=U
def gr6:GR.WA 6=true:=U
def gr7:GR.WA 7=true:=U
def gr8:GR.WA 8=true:=U
def gr9:GR.WA 9=true:=U
def zjp:GR.WA 10=true:=U
end
namespace KP
def yQ:fp Tryz.prog=true:=U
def JL:Tryz.prog.follows .mixedOrders=true:=U
@[reducible] def unkK:Unk:={ val:=λ_=>.int .u8 0,plain:=λ_=>rfl,place:=λg=>(g,0,0),glob:=λ_ _=>rfl }
def Ma{v k:Nat}(hv:v<W)(j:k<64)(g:Ea):Calls Tryz.prog 277 #[.int .u64 (v:Nat),.int .i64 (k:Nat)] g λe w2=>e = .returned (.int .u64 (rotl v k:Nat))/\Grown g w2:=by
 letI:=unkK;have h:=zc7 j;unfold oZ at h
 cases i:qL (sm k) (kh (sm k) 1000000) 277 [.sym 100,.int .i64 (.ofNat k)] (jt (sm k) 6000) with
 | none=>rw[i]at h;cases h
 | some p=>
  obtain⟨u,H'⟩:=p;rw[i,ze]at h;have m:u = .sym 103:=zV _ _ h;subst m;let val:=zc8 v k;have c:∀id x,val id=x->yc x=true->100<=id->id<6000->J (BN 6000 val) (.sym id)=x:=λid x e j a b=>kp a b e j
  have d:zJ (sm k) (BN 6000 val):=by
   intro f d;have d:f∈zc9 k:=d;unfold zc9 at d;simp only[Lf,Lq,Lo]at d;rcases d with rfl|rfl|rfl
   .exact j8 (jd C C) trivial (jd C C) (c 100 _ rfl rfl C C) rfl (oC (x:=v) (k:=k) I) (c 101 _ rfl rfl C C).symm
   .exact j8 (jd C C) trivial (jd C C) (c 100 _ rfl rfl C C) rfl (CT (x:=v) (k:=64-k) I) (c 102 _ rfl rfl C C).symm
   .refine j8 (jd C C) (jd C C) (jd C C) (c 101 _ rfl rfl C C) (c 102 _ rfl rfl C C) (fP (Af _ C) (AX (Nat.div_le_self _ _) hv)) (c 103 _ rfl rfl C C).symm
  have:=jC (E:=sm k) (QA yQ JL (λp hp=>by cases hp)) (N:=6000) C ju d rfl i ⟨jd C C,trivial,trivial⟩ (w:=g) ko
  have r:(K (BN 6000 val) [.sym 100,.int .i64 (.ofNat k)]).toArray = #[.int .u64 (v:Nat),.int .i64 (k:Nat)]:=by
   simp only[K];rw[c 100 _ rfl rfl C C];rfl
  rw[r]at this;refine this.mono λe w2 hx=>?_;obtain⟨n,l,rfl,_,hlow,_⟩:=hx;refine⟨?_,n⟩;have:J l (.sym 103)=J (BN 6000 val) (.sym 103):=by rw[J,J,hlow 103 C]
  rw[this,c 103 _ rfl rfl C C];rfl
end KP
end Go.AEv
namespace Go.Proofs.YtaffhpgaagnjfaaGreatDoor
def mA{P:Ef}(h:P.funcs.any Func.goes=false)(f:Eu):P.goes f=false:=by
 have key:∀g:FuncId,(P.funcs[g]?).any Func.goes=false:=by
  intro g
  cases a:P.funcs[g]? with
  | none=>rfl
  | some fn=>
   rw[Array.any_eq_false]at h;obtain⟨b,rfl⟩:=LO.1 a;simpa using h g b
 unfold Program.goes;rw[h,Bool.and_false,Bool.or_false,eq_false_iff];intro hx;obtain⟨g,_,a⟩:=List.any_eq_true.1 hx;rw[key g]at a;cases a
def tV{P:Ef}(h:P.funcs.any Func.goes=false)(s:Start)(n:String):P.goesAt s n=false:=by
 unfold Program.goesAt Program.goesFrom
 have h1:∀o:Option FuncId,o.any P.goes=false:=by
  intro o
  cases o with
  | none=>rfl
  | some f=>exact mA h f
 have h2:∀l:List FuncId,l.any P.goes=false:=by
  intro l;rw[eq_false_iff];intro hx;obtain⟨f,_,a⟩:=List.any_eq_true.1 hx;rw[mA h f]at a;cases a
 rw[h1,Bool.false_or];split
 .rfl
 .exact h2 _
def Pj:Tryz.prog.funcs.any Func.goes=false:=U
def Pm:false=Rows.auditReadsRow.goesBy Tryz.prog:=(tV Pj Rows.auditReadsRow.start Rows.auditReadsRow.func).symm
end Go.Proofs.YtaffhpgaagnjfaaGreatDoor
