/- Trails: EvSb. Conditions: each theorem's. -/
import Derived.Test.YtaffhpgaagnjfaaGreatDoorEvSa
import Derived.Laws.Strings
import Derived.Laws.StructEq
import Derived.ChangeKeysEq
import GoSem.Dispatch
set_option linter.all false
open List Nat Int
set_option maxHeartbeats 1000000
namespace Go.AEv
variable{P:Ef}{a v x:G}{e t:Eg}{g β:Inj}{k:Et}{lo mx:Option G}{m:Nat}{w:Ea}
section
variable[Unk]
def QF{b:Bool}(h:asBool v=some b):v = .bool b:=by cases v<;>cases h;rfl
def jx{p:IntKind×Int}(h:asInt v=some p):v = .int p.1 p.2:=by cases v<;>cases h;rfl
def JY{i:Int}(h:WL v=some i):∃k,v = .int k i:=by cases v<;>cases h;exact⟨_,rfl⟩
def yU{p:Nat×Nat}(h:Yk v=some p):v = .ptr p.1 p.2:=by cases v<;>cases h;rfl
def kc{s:Sl}(h:yp v=some s):v = .slice s.b s.off s.len s.cap s.ex:=by cases v<;>cases h;rfl
def qU{s:Eb}(h:js v=some s):v = .str s:=by cases v<;>cases h;rfl
def uJ{s:List G}(h:asAgg v=some s):v = .agg s:=by cases v<;>cases h;rfl
def xX{s:List G}(h:asTuple v=some s):v = .tuple s:=by cases v<;>cases h;rfl
def gY{p:TypeId×G}(h:pC v=some p):v = .iface p.1 p.2:=by cases v<;>cases h;rfl
def U3{r:Nat}(h:uI v=some r):v = .map r:=by cases v<;>cases h;rfl
def jO(h:kH v=true):v = .nilslice:=by cases v<;>cases h;rfl
def NR(h:zci v=true):∃b o q,v = .esl b o q:=by cases v<;>cases h;exact⟨_,_,_,rfl⟩
def gX{p:Psl}(h:mY v=some p):v = .psl p.b p.o p.q p.c p.ex:=by cases v<;>cases h;rfl
def JX{p:Nat×G}(h:Q2 v=some p):v = .osl p.1 p.2:=by cases v<;>cases h;rfl
def Ga(h:wQ v=true):v = .nilp:=by cases v<;>cases h;rfl
def cB(h:UE v=true):v = .nilmap:=by cases v<;>first|rfl|(simp[UE]at h)
def j4{d:Es}(h:kD d=some e):d = .slice e:=by cases d<;>cases h;rfl
def QB{d:Es}{q:Nat×TypeId}(h:QC d=some q):d = .array q.1 q.2:=by cases d<;>cases h;rfl
def XC{d:Es}{l:List Field}(h:Z3 d=some l):∃a:Array Field,d = .struct a/\l=a.toList:=by
 cases d<;>cases h;exact⟨_,rfl,rfl⟩
def dI{d:Es}(h:xw d=some e):d = .pointer e:=by cases d<;>cases h;rfl
def XD{d:Es}(h:Wx d=some k):d = .int k:=by cases d<;>cases h;rfl
def dJ{d:Es}{q:TypeId×TypeId}(h:Gz d=some q):d = .map q.1 q.2:=by cases d<;>cases h;rfl
def jB{d:Es}(h:ye d=true):d = .string:=by cases d<;>cases h;rfl
def gD{d:Es}(h:oW d=true):d = .unsafePointer:=by cases d<;>cases h;rfl
def Vk(h:oB k=true):k = .u8:=by cases k<;>revert h<;>decide
def Zp(h:Wt k=true):k = .i64:=by cases k<;>revert h<;>decide
def UJ(k:Et):full k=2 ^ k.bits:=by cases k<;>rfl
def sV(k:Et):M5 k=k.bits:=by cases k<;>rfl
def gh(k:Et):0<full k:=by cases k<;>decide
def J7(k:Et)(n:Int):QR k n<full k:=by
 have h:=gh k
 cases n with
 | ofNat m=>exact Af _ h
 | negSucc m=>show full k-1-m % full k<full k;omega
def rz(k:Et)(n:Int):((QR k n:Nat):Int)=n % (2 ^ k.bits:Int):=by
 have h:=gh k;have e:(2 ^ k.bits:Int)=((full k:Nat):Int):=by rw[UJ];simp
 rw[e]
 cases n with
 | ofNat m=>show((m % full k:Nat):Int)=_;simp
 | negSucc m=>
  show((full k-1-m % full k:Nat):Int)=_;rw[negSucc_emod _ I];have h2:m % full k<full k:=Af _ h;have h3:((m:Int) % (full k:Int))=((m % full k:Nat):Int):=by simp
  rw[h3];omega
def Ju(k : IntKind)(m : Nat)(h : m < full k) : back k m = k.wrap m := by
  unfold back IntKind.wrap;rw[zo, zW];have e : (2 ^ k.bits : Int) = ((full k : Nat) : Int) := by rw[UJ]; simp
  have hm : (m : Int) % (2 ^ k.bits : Int) = m := by rw[e]; exact emod_eq_of_lt I I
  simp only[hm]
  have key : ∀a b : Nat, half k = a -> full k = b -> (k.signed = true -> a + a = b /\ (2 ^ (k.bits - 1) : Int) = a) -> (k.signed = false -> a = b) ->
      (if decide (m < a) = true then Int.ofNat m else Int.negSucc (Nat.sub (Nat.sub b 1) m)) =
      if k.signed && decide ((m : Int) ≥ (2 ^ (k.bits - 1) : Int)) then(m : Int) - (2 ^ k.bits : Int) else m := by
    intro a b h1 h2 h3 f;rw[h2] at h e;rw[e]
    cases hs : k.signed with
    | false =>
      have := f hs
      rw[Y (by simp; omega), O Oc]; rfl
    | true =>
      obtain⟨g, d⟩ := h3 hs;rw[d];by_cases c : m < a
      · rw[Y (by simp; omega), O (by simp; omega)]; rfl
      · rw[O (by simp; omega), Y (by simp; omega), negSucc_eq]
        show -(((b - 1 - m : Nat) : Int) + 1) = _;omega
  exact key _ _ rfl rfl (by cases k <;> simp[IntKind.signed, half, full, IntKind.bits]) (by cases k <;> simp[IntKind.signed, half, full])
def yn(k:Et)(n:Int):Q1 k n=k.wrap n:=by
 unfold Q1;rw[Ju _ _ (J7 k n)];unfold IntKind.wrap;rw[rz];simp only[emod_emod]
def XZ(m n:Nat):XM m n=(m:Int)-n:=by
 unfold XM;rw[zo,zK];by_cases h:n<=m
 .rw[Y (by simp[h])];show((m-n:Nat):Int)=_;omega
 .rw[O (by simp[h]),negSucc_eq];show -(((n-m-1:Nat):Int)+1)=_;omega
def CW(a:Int):zdY a = -a:=by
 cases a with
 | ofNat m=>show XM 0 m=_;rw[XZ];simp
 | negSucc m=>show Int.ofNat (m+1)=_;rw[neg_negSucc];rfl
def dE(a b:Int):Gd a b=a+b:=by
 cases a<;>cases b<;>simp only[Gd,Qy,yZ,XZ]
 .rfl
 .rename_i m n;rw[negSucc_eq];show(m:Int)-((n+1:Nat):Int)=Int.ofNat m+_;simp;omega
 .rename_i m n;rw[negSucc_eq];show(n:Int)-((m+1:Nat):Int)=_+Int.ofNat n;simp;omega
 .rename_i m n;rw[negSucc_eq,negSucc_eq,negSucc_eq];show -(((m+n+1:Nat):Int)+1)=_;omega
def CS(a b:Int):TG a b=a-b:=by unfold TG;rw[dE,CW];omega
def oF(a b:Int):wU a b=a*b:=by
 cases a<;>cases b<;>simp only[wU,Qy,yZ,XZ]
 .rfl
 .rename_i m n;rw[negSucc_eq];show((0:Nat):Int)-((m*(n+1):Nat):Int)=Int.ofNat m*_;rw[natCast_mul];simp[Int.mul_neg]
 .rename_i m n;rw[negSucc_eq];show((0:Nat):Int)-(((m+1)*n:Nat):Int)=_*Int.ofNat n;rw[natCast_mul];simp[Int.neg_mul]
 .rename_i m n;rw[negSucc_eq,negSucc_eq];show(((m+1)*(n+1):Nat):Int)=_;rw[Int.neg_mul_neg,natCast_mul];rfl
def NL(a b:Int):NM a b=a.tdiv b:=by
 cases a<;>cases b<;>simp only[NM,Qy,yZ,XZ]
 .rfl
 .rename_i m n;show((0:Nat):Int)-((m / (n+1):Nat):Int) = -((m / (n+1):Nat):Int);simp
 .rename_i m n;show((0:Nat):Int)-(((m+1) / n:Nat):Int) = -(((m+1) / n:Nat):Int);simp
 .rfl
def tD(a b:Int):tE a b=a.tmod b:=by
 cases a<;>cases b<;>simp only[tE,Qy,yZ,XZ]
 .rfl
 .rename_i m n;rfl
 .rename_i m n;show((0:Nat):Int)-(((m+1) % n:Nat):Int) = -(((m+1) % n:Nat):Int);simp
 .rename_i m n;show((0:Nat):Int)-(((m+1) % (n+1):Nat):Int) = -(((m+1) % (n+1):Nat):Int);simp
@[simp] theorem kM (k:Et) (n:Int):mkInt k n = .int k n:=by cases n<;>rfl
@[simp] theorem yx (b:Bool):j7 b = .bool b:=by cases b<;>rfl
@[simp] theorem zgf (n:Nat):mkNat n = .int .i64 n:=rfl
def ZH(k:Et)(x:Int):(BitVec.ofInt k.bits x).toNat=QR k x:=by
 have h:=rz k x;rw[BitVec.toNat_ofInt];have e:((2 ^ k.bits:Nat):Int)=(2 ^ k.bits:Int):=by simp
 rw[e,<- h];simp
def kZ{j:Et}{u:G}(h:same k j u=some v):k=j/\u=v:=by
 obtain⟨h1,h2⟩:=zh h;exact⟨(Xs _ _).1 h1,by injection h2⟩
def CO(k:Et)(a b:Nat)(h:a<full k):a &&& b<full k:=AX Nat.and_le_left h
def zdP(k:Et)(a b:Nat)(ha:a<full k)(hb:b<full k):a ||| b<full k:=by
 rw[UJ]at *;exact or_lt_two_pow ha hb
def kx(k:Et)(a b:Nat)(ha:a<full k)(hb:b<full k):a ^^^ b<full k:=by
 rw[UJ]at *;exact xor_lt_two_pow ha hb
def FT(k:Et)(b:Int):(~~~ (BitVec.ofInt k.bits b)).toNat=Nat.xor (QR k b) (Nat.sub (full k) 1):=by
 rw[<- BitVec.xor_allOnes,BitVec.toNat_xor,ZH,BitVec.toNat_allOnes,UJ];rfl
def lF{op:BinOp}{j:Et}{a b:Int}(h:YV op k a j b=some v)(t:Eg)(c:Inj)(w:Ea) :
  (Go.binOp op t (.int k a) (.int j b)).run P w = .ok (J c v) w/\WF c v:=by
 cases op
 case add=>obtain⟨rfl,rfl⟩:=kZ h;simp[Go.binOp,Op.intArith,J,WF,yn,dE]
 case sub=>obtain⟨rfl,rfl⟩:=kZ h;simp[Go.binOp,Op.intArith,J,WF,yn,CS]
 case mul=>obtain⟨rfl,rfl⟩:=kZ h;simp[Go.binOp,Op.intArith,J,WF,yn,oF]
 case quo=>
  obtain⟨h1,h⟩:=Za h;obtain⟨rfl,rfl⟩:=kZ h;rw[QK]at h1;have h1:b≠0:=by simpa using h1
  simp[Go.binOp,Op.intDiv,J,WF,yn,NL,h1]
 case rem=>
  obtain⟨h1,h⟩:=Za h;obtain⟨rfl,rfl⟩:=kZ h;rw[QK]at h1;have h1:b≠0:=by simpa using h1
  simp[Go.binOp,Op.intDiv,J,WF,tD,h1]
 case and=>
  obtain⟨rfl,rfl⟩:=kZ h;refine⟨?_,by simp[WF]⟩;rw[kM,Ju _ _ (show land _ _<full k from CO _ _ _ (J7 _ _))];simp only[Go.binOp,Op.intBits,ne_eq,not_true_eq_false,LY,Ln,J,BitVec.toNat_and,ZH];rfl
 case or=>
  obtain⟨rfl,rfl⟩:=kZ h;refine⟨?_,by simp[WF]⟩;rw[kM,Ju _ _ (show lor _ _<full k from zdP _ _ _ (J7 _ _) (J7 _ _))];simp only[Go.binOp,Op.intBits,ne_eq,not_true_eq_false,LY,Ln,J,BitVec.toNat_or,ZH];rfl
 case xor=>
  obtain⟨rfl,rfl⟩:=kZ h;refine⟨?_,by simp[WF]⟩;rw[kM,Ju _ _ (show Nat.xor _ _<full k from kx _ _ _ (J7 _ _) (J7 _ _))];simp only[Go.binOp,Op.intBits,ne_eq,not_true_eq_false,LY,Ln,J,BitVec.toNat_xor,ZH];rfl
 case andNot=>
  obtain⟨rfl,rfl⟩:=kZ h;refine⟨?_,by simp[WF]⟩;rw[kM,Ju _ _ (show land _ _<full k from CO _ _ _ (J7 _ _))];simp only[Go.binOp,Op.intBits,ne_eq,not_true_eq_false,LY,Ln,J,BitVec.toNat_and,ZH,FT];rfl
 case shl=>
  cases b with
  | negSucc n=>cases h
  | ofNat n=>
   cases h
   have e:min n k.bits=shN k n:=by
    unfold shN;rw[zo,zK,sV];by_cases h:n<=k.bits
    .rw[Y (by simp[h])];omega
    .rw[O (by simp[h])];omega
   simp only[Go.binOp,Op.shift];rw[O Oc];simp[J,WF,yn,oF,e]
 case shr=>
  cases b with
  | negSucc n=>cases h
  | ofNat n=>
   cases h
   have e:min n k.bits=shN k n:=by
    unfold shN;rw[zo,zK,sV];by_cases h:n<=k.bits
    .rw[Y (by simp[h])];omega
    .rw[O (by simp[h])];omega
   simp only[Go.binOp,Op.shift];rw[O Oc];refine⟨?_,by simp[WF]⟩
   have f:a.fdiv ((2:Int) ^ shN k n)=Qi a (λm=>.ofNat (Nat.div m (Nat.pow 2 (shN k n)))) λm=>.negSucc (Nat.div m (Nat.pow 2 (shN k n))):=by
    have hp:(2:Int) ^ shN k n=((2 ^ shN k n:Nat):Int):=by simp
    rw[hp];have d:0<2 ^ shN k n:=Nat.pow_pos C;show a.fdiv _=Qi (α:=Int) a (λm=>Int.ofNat (m / 2 ^ shN k n)) λm=>Int.negSucc (m / 2 ^ shN k n);generalize 2 ^ shN k n=q at *;obtain⟨q,rfl⟩:∃r,q=r+1:=⟨q-1,I⟩
    cases a with
    | ofNat m=>
     cases m with
     | zero=>show(0:Int)=Int.ofNat (0 / (q+1));rw[Nat.zero_div];rfl
     | succ m=>rfl
    | negSucc m=>rfl
   simp[J,e,f]
 case eql=>obtain⟨rfl,rfl⟩:=kZ h;simp[Go.binOp,Op.intCmp,J,WF,QK]
 case neq=>obtain⟨rfl,rfl⟩:=kZ h;simp[Go.binOp,Op.intCmp,J,WF,QK,qW];rfl
 case lss=>obtain⟨rfl,rfl⟩:=kZ h;simp[Go.binOp,Op.intCmp,J,WF,Zi]
 case leq=>obtain⟨rfl,rfl⟩:=kZ h;simp[Go.binOp,Op.intCmp,J,WF,Zi,qW,<- Int.not_lt]
 case gtr=>obtain⟨rfl,rfl⟩:=kZ h;simp[Go.binOp,Op.intCmp,J,WF,Zi]
 case geq=>obtain⟨rfl,rfl⟩:=kZ h;simp[Go.binOp,Op.intCmp,J,WF,Zi,qW,<- Int.not_lt]
def X1(s:Eb):(str s).data.toList=s.map UInt8.ofNat:=by simp[str]
theorem qA(s:Eb):(str s).size=s.length:=by simp[str,ByteArray.size]
def Qr(s:Eb):(str s).toList=s.map UInt8.ofNat:=by
 rw[ByteArray.toList_eq];exact X1 s
def ofNat_inj{a b:Nat}(ha:a<256)(hb:b<256)(h:UInt8.ofNat a=UInt8.ofNat b):a=b:=by
 have:=congrArg UInt8.toNat h;simp at this;omega
def Ys:∀ {s t:Eb},(∀b∈s,b<256)->(∀b∈t,b<256)->s.map UInt8.ofNat=t.map UInt8.ofNat->s=t
 | [],[],_,_,_=>rfl
 | [],_::_,_,_,h=>by simp at h
 | _::_,[],_,_,h=>by simp at h
 | a::s,b::t,hs,ht,h=>by
  simp only[Aw,List.cons.injEq]at h;rw[ofNat_inj (hs a Oc) (ht b Oc) h.1,Ys (λx hx=>hs x (by simp[hx])) (λx hx=>ht x (by simp[hx])) h.2]
theorem str_inj{s t:Eb}(hs:∀b∈s,b<256)(a:∀b∈t,b<256)(h:str s=str t):s=t:=by
 have:=congrArg (λx:ByteArray=>x.data.toList) h;simp only[X1]at this;exact Ys hs a this
def fE{s t:Eb}(hs:∀b∈s,b<256)(a:∀b∈t,b<256):iP s t=((str s).toList==(str t).toList):=by
 rw[Uv,Bool.eq_iff_iff,Ll,Ll,Qr,Qr];exact⟨λh=>by rw[h],Ys hs a⟩
def fB:∀ {s t:Eb},(∀b∈s,b<256)->(∀b∈t,b<256)->Uu s t=Op.bytesLess (s.map UInt8.ofNat) (t.map UInt8.ofNat)
 | [],[],_,_=>rfl
 | [],_::_,_,_=>rfl
 | _::_,[],_,_=>rfl
 | a::s,b::t,hs,ht=>by
  have e:Uu (a::s) (b::t)=ifB (Nat.blt a b) true (ifB (Nat.beq a b) (Uu s t) false):=rfl;rw[e,fB (λx hx=>hs x (by simp[hx])) (λx hx=>ht x (by simp[hx])),zo,zo,zW,zA];simp only[Aw,Op.bytesLess];have ha:=hs a Oc;have hb:=ht b Oc
  have d:(UInt8.ofNat a<UInt8.ofNat b)↔a<b:=by
   rw[UInt8.lt_iff_toNat_lt];simp;omega
  have c:(UInt8.ofNat a==UInt8.ofNat b)=(a==b):=by
   rw[Bool.eq_iff_iff,Ll,Ll];exact⟨ofNat_inj ha hb,λh=>by rw[h]⟩
  simp only[d,c];by_cases h1:a<b<;>by_cases h2:a=b<;>simp[h1,h2]
def VS(s t:Eb):str s++str t=str (s++t):=by
 apply ByteArray.ext;simp[str,ByteArray.data_append]
def tt:∀a b:List Nat,(Uu a b||(a==b))=kV (Uu b a)
 | [],[]=>rfl
 | [],_::_=>rfl
 | _::_,[]=>rfl
 | a::s,b::t=>by
  have e:∀a b s t,Uu (a::s) (b::t)=ifB (Nat.blt a b) true (ifB (Nat.beq a b) (Uu s t) false):=λ_ _ _ _=>rfl;have c:=tt s t;rw[e,e,qW,zo,zo,zo,zo,zW,zA,zW,zA];rw[qW]at c;rcases Nat.lt_trichotomy a b with h|h|h
  .have h1:¬b<a:=by omega
   have h2:¬b=a:=by omega
   simp[h,h1,h2]
  .subst h;simp[<- c]
  .have h1:¬a<b:=by omega
   have h2:¬a=b:=by omega
   simp[h,h1,h2]
def Fs{op:BinOp}{a b:Eb}(h:zb4 op a b=some v)(ha:∀x∈a,x<256)(hb:∀x∈b,x<256)(t:Eg)(g:Inj)(w:Ea) :
  (Go.binOp op t (.string (str a)) (.string (str b))).run P w = .ok (J g v) w/\WF g v:=by
 have hl:=fE ha hb;have f:=fB ha hb;have e:=fB hb ha;have c:Op.bytesLess (str a).toList (str b).toList=Uu a b:=by rw[Qr,Qr,f]
 have i:Op.bytesLess (str b).toList (str a).toList=Uu b a:=by rw[Qr,Qr,e]
 have d:(Op.bytesLess (str a).toList (str b).toList||((str a).toList==(str b).toList))=kV (Uu b a):=by
  rw[c,<- hl,Uv,tt]
 cases op<;>first|(cases h;done)|skip
 case add=>
  obtain⟨h1,h⟩:=zh h;cases h;rw[zK,Lk,CN,jV]at h1;refine⟨?_,?_⟩
  .simp only[Go.binOp,Op.stringOp];rw[O (by rw[qA,qA];show ¬(((a.length+b.length:Nat)):Int) > IntKind.i64.max;simp[IntKind.max,IntKind.signed,IntKind.bits];omega)];simp[J,VS]
  .intro x hx;simp only[zZ,LJ]at hx;exact hx.elim (ha x) (hb x)
 case eql=>cases h;simp[Go.binOp,Op.stringOp,J,WF,hl]
 case neq=>cases h;simp[Go.binOp,Op.stringOp,J,WF,hl,qW]
 case lss=>cases h;simp[Go.binOp,Op.stringOp,J,WF,c]
 case leq=>cases h;simp only[Go.binOp,Op.stringOp,Ln,d,yx,J];exact⟨trivial,trivial⟩
 case gtr=>cases h;simp only[Go.binOp,Op.stringOp,Ln,d,yx,J,qW,Bool.not_not];exact⟨trivial,trivial⟩
 case geq=>cases h;simp[Go.binOp,Op.stringOp,J,WF,c,qW]
end
section
variable[Unk]
def eR(x:Ei):Bool:=match x with|.int _ _=>false|.float _ _=>false|.complex _ _ _=>false|.string _=>false|_=>true
section
variable{E:Env}(hE:yF E)
include hE
theorem ZG{a:Inj}{cs:List G}{off:Nat}(h:E.apart t cs off=some v)(hw:WFs a cs)(w:Ea) :
  (part t (K a cs).toArray off).run E.P w = .ok (J a v) w/\WF a v:=by
 obtain⟨g,b,h⟩:=D h;unfold part;rw[Lg,lE hE b]
 cases g with
 | true=>
  obtain⟨n,hn,h⟩:=D h;cases h;refine⟨?_,?_⟩
  .simp only[Li,if_true,Lg,qK hE hn,Ln,J];congr 2
   apply Array.toList_inj.1;simp[zC,K0,gu,map_drop,map_take]
  .rw[WF,qb];intro v hv;rw[K0,gu]at hv
   exact(qb _ _).1 hw v (mem_of_mem_drop (mem_of_mem_take hv))
 | false=>
  have h:yG off cs=some v:=h;rw[yY]at h;refine⟨?_,(qb _ _).1 hw v (LX h)⟩;simp[zC,h]
omit hE in
theorem Yn(s u:Ee):(s.toList==u.toList)=decide (s=u):=by
 rw[ByteArray.toList_eq,ByteArray.toList_eq,Bool.eq_iff_iff,Lk,Ll];obtain⟨⟨x⟩⟩:=s;obtain⟨⟨y⟩⟩:=u;simp
theorem rI(hF:zJ E g){y:G}{r:Bool}(h:Ix E t x y=some r)(d:Nat) :
  (Op.equalIn (d+1) t (J g x) (J g y)).run E.P w = .ok r w:=by
 replace h:=D h;obtain⟨c,hd,h⟩:=h;replace h:=D h;obtain⟨sh,hs,h⟩:=h;obtain⟨f,i,e⟩:=qD h;obtain rfl:=wK e;obtain⟨h1,h2,h3⟩:=hF _ i;rcases h3 with⟨rfl,k,m,n,b,a,rfl⟩|⟨rfl,s,u,b,a,rfl⟩|⟨rfl,s,u,b,a,rfl⟩
 .cases c<;>simp[shapeOf]at hs;simp[b,a,Op.equalIn,zr hE hd]
 .cases c<;>simp[shapeOf]at hs;simp[b,a,Op.equalIn,zr hE hd,beq_toListBytes,Yn]
 .cases c<;>simp[shapeOf]at hs;simp[b,a,Op.equalIn,zr hE hd]
theorem U7(c:Inj)(hF:zJ E c)(H:Heap)(w:Ea):∀f,
  (∀t x y r,YC E H f t x y=some r->WF c x->WF c y->∀d,f<=d->(Op.equalIn d t (J c x) (J c y)).run E.P w = .ok r w) /\
  (∀Q xs g r,Jv E H f Q xs g=some r->WFs c xs->WFs c g->∀d,f<=d->(Op.eqFields d (K c xs).toArray (K c g).toArray Q).run E.P w = .ok r w) /\
  (∀e s is xs g r,Y9 E H f e s is xs g=some r->WFs c xs->WFs c g->∀d,f<=d->(Op.eqItems d e s (K c xs).toArray (K c g).toArray is).run E.P w = .ok r w):=by
 intro f
 induction f with
 | zero=>exact⟨λ_ _ _ _ h=>by simp[YC]at h,λ_ _ _ _ h=>by simp[Jv]at h,λ_ _ _ _ _ _ h=>by simp[Y9]at h⟩
 | succ f ih=>
  obtain⟨m,ih2,T⟩:=ih;refine⟨?_,?_,?_⟩
  .intro t x y r h hx l d hd;obtain⟨d,rfl⟩:∃e,d=e+1:=⟨d-1,I⟩
   have z:f<=d:=by omega
   unfold YC at h;rw[zo]at h;split at h
   case isFalse=>exact rI hE hF h d
   rename_i hs;clear hs;split at h
   .rename_i e;cases h;simp[J,Op.equalIn,zr hE e,XJ]
   .rename_i k a j b e;split at h
    .rename_i hk;cases h;obtain rfl:=(Xs _ _).1 hk;simp[J,Op.equalIn,zr hE e,QK]
    .cases h
   .rename_i a b e;cases h;rw[fE hx l];simp[J,Op.equalIn,zr hE e,beq_toListBytes]
   .rename_i e;cases h;(simp only[J,Op.equalIn,Lg,zr hE e,Li,Ln])<;>first|done|rfl|simp
   .rename_i e;cases h;(simp only[J,Op.equalIn,Lg,zr hE e,Li,Ln])<;>first|done|rfl|simp
   .rename_i e;cases h;(simp only[J,Op.equalIn,Lg,zr hE e,Li,Ln])<;>first|done|rfl|simp
   .rename_i elem a i b j e;split at h
    .cases h
    .cases h
    .rename_i n hn;split at h
     .split at h
      .rename_i hb;rw[zA,Ll]at hb;cases h;subst hb
       have e1:(sameAddr (c.addr a i) (c.addr a j)).run E.P w = .ok (Nat.beq i j) w:=by
        have e2:(c.addr a i==c.addr a j)=Nat.beq i j:=by
         rw[zA,Bool.eq_iff_iff,Ll,Ll];simp[Inj.addr]
        unfold sameAddr;rw[e2];simp[Inj.addr]
       simp[J,Op.equalIn,zr hE e,qK hE hn,e1]
      .cases h
     .cases h
   .rename_i e;cases h;(simp only[J,Op.equalIn,Lg,zr hE e,Li,Ln])<;>first|done|rfl|simp
   .rename_i e;cases h;(simp only[J,Op.equalIn,Lg,zr hE e,Li,Ln])<;>first|done|rfl|simp
   .rename_i e;cases h;(simp only[J,Op.equalIn,Lg,zr hE e,Li,Ln])<;>first|done|rfl|simp
   .rename_i e;cases h;(simp only[J,Op.equalIn,Lg,zr hE e,Li,Ln])<;>first|done|rfl|simp
   .rename_i e;cases h;(simp only[J,Op.equalIn,Lg,zr hE e,Li,Ln])<;>first|done|rfl|simp
   .rename_i e;cases h;(simp only[J,Op.equalIn,Lg,zr hE e,Li,Ln])<;>first|done|rfl|simp
   .rename_i e;cases h;(simp only[J,Op.equalIn,Lg,zr hE e,Li,Ln])<;>first|done|rfl|simp
   .rename_i e;cases h;(simp only[J,Op.equalIn,Lg,zr hE e,Li,Ln])<;>first|done|rfl|simp
   .rename_i e;cases h;(simp only[J,Op.equalIn,Lg,zr hE e,Li,Ln])<;>first|done|rfl|simp
   .rename_i e;cases h;(simp only[J,Op.equalIn,Lg,zr hE e,Li,Ln])<;>first|done|rfl|simp
   .rename_i e;cases h;(simp only[J,Op.equalIn,Lg,zr hE e,Li,Ln])<;>first|done|rfl|simp
   .rename_i e;cases h;(simp only[J,Op.equalIn,Lg,zr hE e,Li,Ln])<;>first|done|rfl|simp
   .rename_i e;cases h;(simp only[J,Op.equalIn,Lg,zr hE e,Li,Ln])<;>first|done|rfl|simp
   .rename_i e;cases h;(simp only[J,Op.equalIn,Lg,zr hE e,Li,Ln])<;>first|done|rfl|simp
   .rename_i e;cases h;(simp only[J,Op.equalIn,Lg,zr hE e,Li,Ln])<;>first|done|rfl|simp
   .rename_i e;cases h;(simp only[J,Op.equalIn,Lg,zr hE e,Li,Ln])<;>first|done|rfl|simp
   .rename_i e;cases h;(simp only[J,Op.equalIn,Lg,zr hE e,Li,Ln])<;>first|done|rfl|simp
   .rename_i e;cases h;(simp only[J,Op.equalIn,Lg,zr hE e,Li,Ln])<;>first|done|rfl|simp
   .rename_i ms ta va tb vb e;split at h
    .rename_i hb;cases h
     have v:ta≠tb:=by
      intro hab;rw[hab,zA]at hb;simp at hb
     simp[J,Op.equalIn,zr hE e,v]
    .rename_i hb;rw[zA,Ll]at hb;subst hb;split at h
     .cases h
     .rename_i i hi;split at h
      .rename_i hc;have:=m _ _ _ _ h hx l d z;simp[J,Op.equalIn,zr hE e,yJ hE hi,hc,this]
      .cases h
   .rename_i Q xs g e;split at h
    .cases h
    .rename_i hp;have hu:=yE hE e;have hf:E.P.fieldsOf t=Q:=by simp[Program.fieldsOf,hu]
     rw[J,J,run_equalIn_struct w d t _ _ (by rw[hf];exact hu) (by simpa using hp),hf];exact ih2 _ _ _ _ h hx l d z
   .rename_i n elem xs g e;split at h
    .cases h
    .rename_i s hs;obtain⟨i,h1,h2,h3,h4⟩:=QI hE hs;rw[J,J,run_equalIn_array w d _ _ (yE hE e) h1];have:E.P.cellsOf elem=s:=by simp[Program.cellsOf,h1,h3]
     rw[this];exact T _ _ _ _ _ _ h hx l d z
   .cases h
  .intro Q xs g r h hx l d hd
   cases Q with
   | nil=>simp only[Jv]at h;cases h;simp[Op.eqFields]
   | cons fl Q=>
    simp only[Jv]at h;obtain⟨h1,h⟩:=Za h;obtain⟨a,ha,h⟩:=D h;obtain⟨b,hb,h⟩:=D h;obtain⟨q,hq,h⟩:=D h;obtain⟨a1,a2⟩:=ZG hE ha hx w;obtain⟨b1,b2⟩:=ZG hE hb l w;have p:=m _ _ _ _ hq a2 b2 d I;have v:fl.name ≠ "_" := by simpa using h1
    simp only[Op.eqFields,v,ne_eq,not_false_eq_true,if_true,Lg,a1,b1,Li,p]
    cases q with
    | true=>simpa using ih2 _ _ _ _ h hx l d I
    | false=>cases h;simp
  .intro e s is xs g r h hx l d hd
   cases is with
   | nil=>simp only[Y9]at h;cases h;simp[Op.eqItems]
   | cons i is=>
    simp only[Y9]at h;obtain⟨a,ha,h⟩:=D h;obtain⟨b,hb,h⟩:=D h;obtain⟨q,hq,h⟩:=D h;obtain⟨a1,a2⟩:=ZG hE ha hx w;obtain⟨b1,b2⟩:=ZG hE hb l w;have p:=m _ _ _ _ hq a2 b2 d I;have a1:(part e (K c xs).toArray (i*s)).run E.P w = .ok (J c a) w:=a1;have b1:(part e (K c g).toArray (i*s)).run E.P w = .ok (J c b) w:=b1;simp only[Op.eqItems,Lg,a1,b1,Li,p]
    cases q with
    | true=>simpa using T _ _ _ _ _ _ h hx l d I
    | false=>cases h;simp
theorem jN(op:BinOp)(t:Eg)(x y:Ev)(a b:Ei)(w:Ea)(ha:(match a with|.nilIface=>false|.agg _=>false|_=>true)=true) :
  (eqGuard op t x y a b).run E.P w = .ok () w:=by
 have _:=hE;unfold eqGuard;cases op<;>first|rfl|(cases a<;>first|rfl|(simp at ha;done)|simp)
theorem iH(op:BinOp)(t:Eg)(x y:Ev)(b:Ei)(w:Ea)(h:ifB (isConst x) true (isConst y)=true) :
  (eqGuard op t x y .nilIface b).run E.P w = .ok () w:=by
 have _:=hE
 have hc:(isConst x||isConst y)=true:=by
  rw[zo]at h;cases hx:isConst x
  .rw[hx]at h;simpa using h
  .rfl
 unfold eqGuard;cases op<;>first|rfl|(cases b<;>first|rfl|(cases x<;>cases y<;>first|rfl|(simp[isConst]at hc)))
omit hE in
theorem binOp_eql(t:Eg)(x y:Ei)(h:eR x=true):Go.binOp .eql t x y=(do pure (.bool (<- Op.equal t x y)):Sem Value):=by
 cases x<;>first|(simp[eR]at h;done)|rfl
omit hE in
theorem binOp_neq(t:Eg)(x y:Ei)(h:eR x=true):Go.binOp .neq t x y=(do pure (.bool (!(<- Op.equal t x y))):Sem Value):=by
 cases x<;>first|(simp[eR]at h;done)|rfl
theorem nq{l:Inj}(hF:zJ E l){op:BinOp}{x y:Ev}{b:G}(h:vr E op t a b=some v) :
  (do eqGuard op t x y (J l a) (J l b);Go.binOp op t (J l a) (J l b)).run E.P w = .ok (J l v) w/\WF l v:=by
 unfold vr at h
 cases hb:findF (fx op a b) E.facts with
 | some r=>
  rw[hb,ze]at h;cases h;obtain⟨f,H,e⟩:=qD hb;obtain⟨h1,h2,h3,T,Q⟩:=Ve e (hF _ H);refine⟨?_,h3⟩
  rw[Lg,jN hE op t x y _ _ w T,Li,Q]
 | none=>
  rw[hb,zn]at h;replace h:=D h;obtain⟨g,c,h⟩:=h;replace h:=D h;obtain⟨r,i,h⟩:=h;cases h;refine⟨?_,by rw[yx];trivial⟩;replace i:=D i;obtain⟨dd,hd,i⟩:=i;replace i:=D i;obtain⟨sh,hs,i⟩:=i;obtain⟨f,H,e⟩:=qD i;obtain rfl:=wK e;obtain⟨h1,h2,h3⟩:=hF _ H;unfold C9 at c;rcases h3 with⟨rfl,k,m,n,j,z,rfl⟩|⟨rfl,s,u,j,z,rfl⟩|⟨rfl,s,u,j,z,rfl⟩
  rotate_left 2
  .cases dd<;>simp[shapeOf]at hs
   have p:∀d (s u:Bool),(Op.equalIn (d+1) t (.bool s) (.bool u)).run E.P w = .ok (s==u) w:=by
    intro d s u;simp[Op.equalIn,zr hE hd]
   rw[Lg,jN hE op t x y _ _ w (by rw[j]),Li,j,z]
   have heq:(Op.equal t (.bool s) (.bool u)).run E.P w = .ok (s==u) w:=by
    exact p 9999 s u
   split at c
   .cases c;rw[binOp_eql _ _ _ rfl,Lg,heq];cases s<;>cases u<;>rfl
   .cases c;rw[binOp_neq _ _ _ rfl,Lg,heq];cases s<;>cases u<;>rfl
   .cases c
  .rw[Lg,jN hE op t x y _ _ w (by rw[j]),Li,j,z];split at c
   .cases c;simp[Go.binOp,Op.intCmp,J]
   .cases c;simp[Go.binOp,Op.intCmp,J,qW];rfl
   .cases c
  .rw[Lg,jN hE op t x y _ _ w (by rw[j]),Li,j,z];split at c
   .cases c;simp[Go.binOp,Op.stringOp,J,Yn]
   .cases c;simp[Go.binOp,Op.stringOp,J,qW,Yn]
   .cases c
theorem Bo(hF:zJ E g){H:Heap}{op:BinOp}{x y:Ev}{b:G}(h:zeL E H op t x y a b=some v)(ha:WF g a)(hb:WF g b) :
  (do eqGuard op t x y (J g a) (J g b);Go.binOp op t (J g a) (J g b)).run E.P w = .ok (J g v) w/\WF g v:=by
 unfold zeL at h;rw[zo]at h;split at h
 case isFalse=>exact nq hE hF h
 rename_i e;have d:=e;rw[zl,qW,qW,Le]at d
 cases hi:asInt a with
 | some p=>
  obtain rfl:=jx hi;rw[Lg,jN hE op t x y _ _ w rfl,Li];rw[hi,ze]at h
  cases z:asInt b with
  | some q=>
   obtain rfl:=jx z;rw[z,ze]at h
   exact lF h t g w
  | none=>
   rw[z,zn]at h;obtain⟨h1,h⟩:=zh h;have h1:=Zp h1;cases b<;>simp only[zct]at h<;>first|(cases h;done)|skip
   rename_i q c;obtain⟨h2,h⟩:=zh h
   cases hm:p.2 with
   | negSucc m=>rw[hm]at h;cases h
   | ofNat m=>
    rw[hm]at h;obtain⟨h3,h⟩:=zh h;cases h;rw[zK,Lk]at h3;cases op<;>simp[zch]at h2;refine⟨?_,trivial⟩;rw[h1];simp[J,Go.binOp,Op.intCmp]
    omega
 | none=>
  rw[hi,zn]at h;unfold zcy at h
  cases hs:js a with
  | some s=>
   obtain rfl:=qU hs;rw[hs,ze]at h;obtain⟨u,hu,h⟩:=D h;obtain rfl:=qU hu;rw[Lg,jN hE op t x y _ _ w rfl,Li]
   exact Fs h ha hb t g w
  | none=>
   rw[hs,zn]at h;obtain⟨f,n,h⟩:=D h;obtain⟨Q,h⟩:=zh h;obtain⟨r,k,h⟩:=D h;cases h;have heq:=(U7 hE g hF H w 10000).1 _ _ _ _ k ha hb Op.maxDepth C;refine⟨?_,by rw[yx];trivial⟩
   have guard:(eqGuard op t x y (J g a) (J g b)).run E.P w = .ok () w:=by
    cases a
    case agg l=>
     have T:∃m,b = .agg m:=by
      cases b<;>first|exact⟨_,rfl⟩|(exfalso;unfold YC at k;rw[e,qX]at k;clear e d;split at k<;>simp_all)
     obtain⟨m,rfl⟩:=T;simp only[mL,qW,Bool.not_eq_true']at Q;exact run_eqGuard_agg w op t x y _ _ Q
    case niliface=>exact iH hE op t x y (J g b) w Q
    case sym i=>exact Ld d.1 (by simp[Yd])
    all_goals exact jN hE op t x y _ _ w rfl
   rw[Lg,guard,Li]
   have hx:eR (J g a)=true:=by
    cases a
    case sym i=>simp[Yd]at d
    all_goals first|rfl|(cases hi;done)|(cases hs;done)|(exfalso;unfold YC at k;rw[e,qX]at k;clear e d;split at k<;>simp_all;done)
   have j:(Op.equal t (J g a) (J g b)).run E.P w = .ok r w:=heq;unfold C9 at n;split at n
   .cases n;rw[binOp_eql _ _ _ hx];simp[j,J]
   .cases n;rw[binOp_neq _ _ _ hx];simp[j,J,qW]
   .cases n
end
end
section
variable[Unk]
def qk(P:Ef)(β:Inj)(w:Ea)(m:Sem Value)(v:G):Prop:=m.run P w = .ok (J β v) w/\WF β v
def UG{a:Type}{v:Option G}{d:Nat}{f:Nat->Option a}{r:a}(h:jJ v d m f=some r) :
  (v=none/\f d=some r)\/∃k n,v=some (.int k (.ofNat n))/\n<=m/\f n=some r:=by
 cases v with
 | none=>exact .inl ⟨rfl,h⟩
 | some v=>
  obtain⟨i,hi,h⟩:=D h;obtain⟨k,rfl⟩:=JY hi
  cases i with
  | negSucc n=>cases h
  | ofNat n=>
   obtain⟨h1,h⟩:=zh h;rw[zK,Lk]at h1;exact .inr ⟨k,n,rfl,h1,h⟩
def W0(k:Et){n:Nat}(h:n<=m)(c:BoundsCode) :
  (Instr.sliceBound (J β (.int k (.ofNat n))) m c).run P w = .ok n w:=by
 unfold Instr.sliceBound;simp[J,asIntOf];omega
def Qt{P : Program}{w : World}{β : Inj}{isSlice : Bool}{len cap cap' : Nat}{lo hi mx : Option G}{α : Type}{f : Nat -> Nat -> Nat -> Option α}{r : α}
    (ho : ML hi mx = true) (hc : cap <= cap') (hl : len <= cap) (h : (jJ mx cap cap λm => jJ hi len m λh => jJ lo 0 h λl => f m h l) = some r) :
    ∃m h l, f m h l = some r /\ l <= h /\ h <= m /\ m <= cap /\
      (Instr.sliceBounds isSlice len cap' (lo.map (J β)) (hi.map (J β)) (mx.map (J β))).run P w = .ok (l, h, if mx.isSome then m else cap') w /\ (mx = none -> m = cap) := by
  have low : ∀m h, (jJ lo 0 h λl => f m h l) = some r -> ∃l, f m h l = some r /\ l <= h /\
      ∀c K, (match lo.map (J β) with
        | some v => do
          let l <- Instr.sliceBound v h c
          pure (l, h, K)
        | none => do
          let l <- pure 0
          pure (l, h, K) : Sem (Nat × Nat × Nat)).run P w = .ok (l, h, K) w := by
    intro m h hh;rcases UG hh with⟨e, hh⟩|⟨k3, l, e, h3, hh⟩
    · exact⟨0, hh, zero_le _, λc K => by rw[e]; rfl⟩
    · refine⟨l, hh, h3, λc K => ?_⟩
      rw[e, Ac];simp only[Lg, W0 k3 h3 c, Li, Ln]
  rcases UG h with⟨b, h⟩|⟨j, m, b, h1, h⟩
  · rcases UG (show(jJ hi len cap λh => jJ lo 0 h λl => f cap h l) = some r from h) with⟨a, h⟩|⟨k2, n, a, h2, h⟩
    · obtain⟨l, g1, g, d⟩ := low _ _ h
      refine⟨cap, len, l, g1, g, hl, Lh _, ?_, λ_ => rfl⟩;subst b; subst a;simp only[Instr.sliceBounds, Option.map_none, Lg, Ln, Li, AH];exact d _ _
    · obtain⟨l, g1, g, d⟩ := low _ _ h
      refine⟨cap, n, l, g1, g, h2, Lh _, ?_, λ_ => rfl⟩;subst b; subst a;simp only[Instr.sliceBounds, Option.map_none, Ac, Lg, Ln, Li, W0 k2 (Lj h2 hc), AH];exact d _ _
  · rcases UG (show(jJ hi len m λh => jJ lo 0 h λl => f m h l) = some r from h) with⟨a, h⟩|⟨k2, n, a, h2, h⟩
    · subst b; subst a; simp[ML] at ho
    · obtain⟨l, g1, g, d⟩ := low _ _ h
      refine⟨m, n, l, g1, g, h2, h1, ?_, λe => by rw[b] at e; cases e⟩;subst b; subst a;simp only[Instr.sliceBounds, Ac, Lg, Li, W0 j (Lj h1 hc), W0 k2 h2, Option.isSome_some];exact d _ _
def CC{b off h l j:Nat}{ex:Bool}(hh:Us b off h l m j ex=some v) :
  (m=l/\ex=true/\v = .slice b off (h-l) (m-l) true)\/(m=l/\ex=false/\v = .esl b off (off+l*j))\/(m≠l/\v = .slice b (off+l*j) (h-l) (m-l) ex):=by
 unfold Us at hh;rw[zo,zA]at hh;by_cases e:m=l
 .rw[Y (by simp[e])]at hh
  cases ex with
  | true=>cases hh;exact .inl ⟨e,rfl,rfl⟩
  | false=>cases hh;exact .inr (.inl ⟨e,rfl,rfl⟩)
 .rw[O (by simp[e])]at hh;cases hh;exact .inr (.inr ⟨e,rfl⟩)
section
variable{E:Env}(hE:yF E)
include hE
omit hE in
theorem Kc{o:Option G}(h:isZ o=true):o=none\/∃k,o=some (.int k 0):=by
 cases o with
 | none=>exact .inl rfl
 | some v=>
  replace h:Z (WL v) false (λi=>bd i (.ofNat 0))=true:=h
  cases hv:WL v with
  | none=>rw[hv]at h;cases h
  | some i=>
   rw[hv,ze,QK,Ll]at h;obtain⟨k,rfl⟩:=JY hv;subst h;exact .inr ⟨k,rfl⟩
theorem nm{β : Inj}(hF : zJ E β){w : World}{t : TypeId}(hd : E.desc t = some .string){x : G}{lo hi mx : Option G}{v : G}(h : vq E x lo hi mx = some v) :
    qk E.P β w (Instr.sliceAt t (J β x) (lo.map (J β)) (hi.map (J β)) (mx.map (J β))) v := by
  unfold vq at h
  cases mx with
  | some m => cases h
  | none =>
    cases hi with
    | none => cases h
    | some hh =>
      simp only[zn, ze] at h
      have key : ∀l, findF (Nh x l hh) E.facts = some v -> (lo = some l \/ (lo = none /\ l = .int .i64 (.ofNat 0))) ->
          qk E.P β w (Instr.sliceAt t (J β x) (lo.map (J β)) ((some hh).map (J β)) ((none : Option G).map (J β))) v := by
        intro l h hl;obtain⟨f, hf, e⟩ := qD h;have := Tq e;subst this;obtain⟨h1, h2, h3, y, s, j, n, k, m, H, a, z, e4, g, d⟩ := hF _ hf;refine⟨?_, y⟩
        have u : ∀c M, m <= M -> (Instr.sliceBound (.int k (Int.ofNat m)) M c).run E.P w = .ok m w := by
          intro c M T;unfold Instr.sliceBound;simp[asIntOf];omega
        have Q : ∀c, (Instr.sliceBound (.int j (Int.ofNat n)) m c).run E.P w = .ok n w := by
          intro c;unfold Instr.sliceBound;simp[asIntOf];omega
        unfold Instr.sliceAt;rw[Lg, zr hE hd];simp only[Li];unfold Instr.slice;rw[Lg, zr hE hd];simp only[Li, H, Ac, Option.map_none, z];rcases hl with rfl|⟨rfl, rfl⟩
        · simp only[Ac, AH, Ai, LY, a, Instr.sliceBounds, Lg, Ln, Li, u _ _ g, Q, d]
        · have hn : n = 0 := by
            simp only[J] at a;injection a with a b;have := Int.ofNat.inj b;omega
          subst hn;simp only[Option.map_none, AH, Ai, LY, Instr.sliceBounds, Lg, Ln, Li, u _ _ g, d]
      cases lo with
      | none => exact key _ h (.inr ⟨rfl, rfl⟩)
      | some l => exact key _ h (.inl rfl)
theorem Zl{j:Nat}(hd:E.desc t=some (.slice e))(c:E.size e=some j){s:Sl}{hi:Option G}(g:ML hi mx=true)
  (h:Ub s j lo hi mx=some v) (hx:WF β (.slice s.b s.off s.len s.cap s.ex)) :
  qk E.P β w (Instr.slice t (J β (.slice s.b s.off s.len s.cap s.ex)) (lo.map (J β)) (hi.map (J β)) (mx.map (J β))) v:=by
 unfold qk Instr.slice;rw[Lg,zr hE hd];have hl:=hx.2;obtain⟨m,hh,l,y,H,x,z,u,d⟩:=Qt (P:=E.P) (w:=w) (β:=β) (isSlice:=true) (cap':=if s.ex then s.cap else s.cap+β.ext s.b) g (by split<;>omega) hl h;simp only[J,Li,Lg,u,qK hE c,Ln];rcases CC y with⟨g1,a,rfl⟩|⟨g1,a,rfl⟩|⟨g1,rfl⟩
 .refine⟨?_,⟨hx.1,I⟩⟩
  cases mx with
  | none=>
   have:=d rfl;rw[zn]at a;simp only[a,AH,Ai,LY,if_true,J]
   rw[Y I,this]
  | some mx=>
   simp only[Option.isSome_some,if_true,J];rw[Y g1]
 .refine⟨?_,hx.1⟩
  cases mx with
  | some mx=>rw[ze]at a;cases a
  | none=>
   have:=d rfl;rw[zn]at a;simp only[a,AH,Ai,LY,J,Ac,Inj.jS];by_cases he:β.ext s.b=0
   .rw[Y I,Y he];congr 2<;>omega
   .rw[O I,O he];congr 2<;>omega
 .refine⟨?_,⟨hx.1,I⟩⟩
  cases mx with
  | none=>
   have:=d rfl;rw[this]at g1 x ⊢;simp only[AH,Ai,LY,J,zn,Ac,Inj.jS];cases hex:s.ex
   .simp only[Ai,LY];rw[O I];congr 2
    omega
   .simp only[if_true]
    rw[O g1]
  | some mx=>
   simp only[Option.isSome_some,if_true,J,ze,Ac,Inj.jS];rw[O g1]
omit hE in
theorem uH{q:Nat}(h:mX v=some q):v = .sym q:=by cases v<;>cases h;rfl
omit hE in
theorem Kb(hF:zJ E β){q:Nat}{n:Nat×Nat}(h:findF (Np q) E.facts=some n):WF β (.sym q)/\∃N:Nat,J β (.sym q) = .int .i64 (N:Int)/\n.1<=N/\N<=n.2:=by
 obtain⟨f,hf,e⟩:=qD h;cases f<;>try cases e
 rename_i p lo hi;obtain⟨h1,h2⟩:=zh e;rw[zA,Ll]at h1;subst h1;cases h2;exact hF _ hf
omit hE in
theorem te(hF:zJ E β){q r:Nat}(h:findF (Ns q m) E.facts=some r):WF β (.sym q)/\WF β (.sym r)/\∃N:Nat,J β (.sym q) = .int .i64 (N:Int)/\m<=N/\J β (.sym r) = .int .i64 ((N-m:Nat):Int):=by
 obtain⟨f,hf,e⟩:=qD h;cases f<;>try cases e
 rename_i p k r';obtain⟨h1,h2⟩:=zh e;rw[zl,Le,zA,zA,Ll,Ll]at h1;obtain⟨h1,h3⟩:=h1;subst h1;subst h3;cases h2;exact hF _ hf
theorem eA(hF:zJ E β){j:Nat}(hd:E.desc t=some (.slice e))(d:E.size e=some j){p:Psl}{hi:Option G}(ho:ML hi mx=true)
  (h:eB E p j lo hi mx=some v) (ex:x = .psl p.b p.o p.q p.c p.ex) (hx:WF β x) :
  qk E.P β w (Instr.slice t (J β x) (lo.map (J β)) (hi.map (J β)) (mx.map (J β))) v:=by
 subst ex;obtain⟨z,w2,N,y,w4⟩:=hx
 have cx:J β (.psl p.b p.o p.q p.c p.ex)=J β (.slice p.b p.o N p.c p.ex):=by
  simp only[J];rw[y];rfl
 have a:WF β (.slice p.b p.o N p.c p.ex):=⟨z,w4⟩
 rw[cx];unfold eB at h
 cases mx with
 | some m=>cases h
 | none=>
  rw[zn]at h
  cases hi with
  | some hh=>
   rw[ze]at h
   exact Zl (s:=⟨p.b,p.o,N,p.c,p.ex⟩) hE hd d rfl h a
  | none=>
   rw[zn,zo]at h;split at h
   .rename_i u;cases h;rw[zl,Le,zW,Lk]at u;obtain⟨u,hc⟩:=u
    have key:Ub ⟨p.b,p.o,N,p.c,p.ex⟩ j lo none none=some (.slice p.b p.o N p.c p.ex):=by
     have e2:Us p.b p.o N 0 p.c j p.ex=some (.slice p.b p.o N p.c p.ex):=by
      unfold Us;rw[zo,zA,O (by simp;omega)];simp only[qg];show some (G.slice p.b (p.o+0*j) (N-0) (p.c-0) p.ex)=_;simp
     rcases Kc u with rfl|⟨k,rfl⟩
     .exact e2
     .exact e2
    obtain⟨g1,g2⟩:=Zl (w:=w) hE hd d rfl key a;exact⟨by rw[cx];exact g1,⟨z,w2,N,y,w4⟩⟩
   .obtain⟨l,Q,h'⟩:=D h;clear h;subst Q;obtain⟨i,T,h⟩:=D h';clear h';obtain⟨k,rfl⟩:=JY T
    cases i with
    | negSucc m=>cases h
    | ofNat m=>
    replace h:(bnd (findF (Np p.q) E.facts) λn=>ifB (L (Nat.blt m p.c) (Nat.ble m n.1)) (bnd (findF (Ns p.q m) E.facts) λq=>frc (Nat.add p.o (Nat.mul m j)) λo=>frc (Nat.sub p.c m) λc=>some (G.psl p.b o q c p.ex)) none)=some v:=h;obtain⟨n,hn,h⟩:=D h;obtain⟨hc,h⟩:=zh h;simp only[zl,Le,zW,zK,Lk]at hc;obtain⟨hc1,hc2⟩:=hc;obtain⟨q',H,h⟩:=D h;simp only[qg]at h;cases h;obtain⟨k1,N1,k2,k3,k4⟩:=Kb hF hn;obtain⟨d1,d2,N2,d3,d4,d5⟩:=te hF H;have eN:qn ((β p.q).getD (0,0,0)) = .int .i64 (N1:Int):=k2;have g:qn ((β p.q).getD (0,0,0)) = .int .i64 (N2:Int):=d3;rw[y]at eN g;have h1:N=N1:=by injection eN with _ e;omega
    have h2:N=N2:=by injection g with _ e;omega
    subst h1;subst h2
    have key:Ub ⟨p.b,p.o,N,p.c,p.ex⟩ j (some (.int k (.ofNat m))) none none=some (.slice p.b (p.o+m*j) (N-m) (p.c-m) p.ex):=by
     show(jJ (some (.int k (.ofNat m))) 0 N λl=>Us p.b p.o N l p.c j p.ex)=_;show ifB (Nat.ble m N) (Us p.b p.o N m p.c j p.ex) none=_;rw[zo,zK,Y (Lx I)];unfold Us;rw[zo,zA,O (by simp;omega)];simp only[qg];rfl
    obtain⟨g1,g2⟩:=Zl (w:=w) hE hd d rfl key a;refine⟨?_,⟨z,d2,N-m,d5,by show N-m<=p.c-m;omega⟩⟩;rw[g1];simp only[J];rw[show qn ((β q').getD (0,0,0)) = .int .i64 ((N-m:Nat):Int) from d5];rfl
theorem py(hF:zJ E β){hi:Option G}(h:Rf E t x lo hi mx=some v)(hx:WF β x) :
  qk E.P β w (Instr.sliceAt t (J β x) (lo.map (J β)) (hi.map (J β)) (mx.map (J β))) v:=by
 obtain⟨ho,h⟩:=zh h;obtain⟨d,hd,h⟩:=D h;unfold qk Instr.sliceAt;rw[Lg,zr hE hd]
 cases h1:kD d with
 | some e=>
  obtain rfl:=j4 h1;rw[h1,ze]at h;obtain⟨sz,a,h⟩:=D h;simp only[Li]
  cases h2:yp x with
  | some s=>
   obtain rfl:=kc h2;rw[h2,ze]at h
   cases h4:bnd hi mX with
   | none=>
    rw[h4,zn]at h
    exact Zl hE hd a ho h hx
   | some q0=>
    rw[h4,ze]at h;unfold rT at h
    cases mx with
    | some m=>cases h
    | none=>
     rw[zn]at h;obtain⟨hh,hh0,h'⟩:=D h;clear h;subst hh0;obtain⟨q,hq,u⟩:=D h';obtain rfl:=uH hq;obtain⟨n,hn,u⟩:=D u;obtain⟨hc,u⟩:=zh u;cases u;simp only[zl,Le,zW,zK,Lk]at hc;obtain⟨hz,hc1,hc2⟩:=hc;obtain⟨k1,N,k2,k3,k4⟩:=Kb hF hn
     have key:Ub s sz lo (some (.int .i64 (.ofNat N))) none=some (.slice s.b s.off N s.cap s.ex):=by
      have y:∀f:Nat->Option G,jJ (some (.int .i64 (.ofNat N))) s.len s.cap f=f N:=λf=>by
       show ifB (Nat.ble N s.cap) (f N) none=f N;rw[zo,zK,Y (Lx I)]
      have H:Us s.b s.off N 0 s.cap sz s.ex=some (.slice s.b s.off N s.cap s.ex):=by
       unfold Us;rw[zo,zA,O (by simp;omega)];simp only[qg];show some (G.slice s.b (s.off+0*sz) (N-0) (s.cap-0) s.ex)=_;simp
      show(jJ (some (.int .i64 (.ofNat N))) s.len s.cap λh=>jJ lo 0 h λl=>Us s.b s.off h l s.cap sz s.ex)=_;rw[y];rcases Kc hz with rfl|⟨k,rfl⟩
      .exact H
      .exact H
     obtain⟨g1,g2⟩:=Zl (w:=w) hE hd a (lo:=lo) (hi:=some (.int .i64 (.ofNat N))) (mx:=none) rfl key hx;have e3:J β (.int .i64 (.ofNat N))=J β (.sym q):=by rw[k2];rfl
     refine⟨?_,⟨hx.1,k1,N,k2,I⟩⟩;simp only[Ac,e3]at g1 ⊢;rw[g1];simp only[J];rw[show qn ((β q).getD (0,0,0)) = .int .i64 (N:Int) from k2]
     rfl
  | none=>
   rw[h2,zn]at h
   cases h3:kH x with
   | false=>
    rw[h3,yy]at h
    cases hos:Q2 x with
    | none=>
     rw[hos,zn]at h
     cases hp:mY x with
     | some p=>
      rw[hp,ze]at h
      exact eA hE hF hd a ho h (gX hp) hx
     | none=>
      rw[hp,zn]at h;unfold rS at h
      cases mx with
      | some m=>cases h
      | none=>
       rw[zn]at h;obtain⟨hz,u⟩:=zh h;obtain⟨hh,hh0,hR⟩:=D u;subst hh0;obtain⟨f,hf,e0⟩:=qD hR;obtain rfl:=Ni e0;obtain⟨_,_,h3',p0,n0,c0,j0,k0,y,H,e3,e4⟩:=hF _ hf
       have b1:∀c,(Instr.sliceBound (.int j0 (Int.ofNat k0)) c0 c).run E.P w = .ok k0 w:=by
        intro c;unfold Instr.sliceBound;simp[asIntOf];omega
       have b2:∀j c,(Instr.sliceBound (.int j 0) k0 c).run E.P w = .ok 0 w:=by
        intro j c;unfold Instr.sliceBound;simp[asIntOf]
       refine⟨?_,h3'⟩;unfold Instr.slice;rw[Lg,zr hE hd];rcases Kc hz with rfl|⟨j,rfl⟩
       .simp only[y,H,Ac,Option.map_none,AH,Ai,LY,if_true,Instr.sliceBounds,Lg,Ln,Li,b1,qK hE a,e4];split<;>cases p0<;>simp[Addr.add]
       .simp only[y,H,J,Ac,Option.map_none,AH,Ai,LY,if_true,Instr.sliceBounds,Lg,Ln,Li,b1,b2,qK hE a,e4]
        split<;>cases p0<;>simp[Addr.add]
    | some p=>
    rw[hos,ze]at h;have u:=h;obtain rfl:=JX hos;unfold Instr.slice;rw[Lg,zr hE hd];obtain⟨hw1,hw2,g,T,Q⟩:=hx;obtain⟨hz,u⟩:=zh u
    cases mx with
    | none=>
     rw[zn]at u
     cases hi with
     | some _=>cases u
     | none=>
      cases u
      have key:(jJ (none:Option G) (β.ext p.1) (β.ext p.1) λm=>jJ (none:Option G) g.size m λh=>jJ lo 0 h λl=>some (m,h,l))=some (β.ext p.1,g.size,0):=by
       rcases Kc hz with rfl|⟨k,rfl⟩<;>rfl
      obtain⟨m,hh,l,y,H,e3,e4,z,e6⟩:=Qt (P:=E.P) (w:=w) (β:=β) (isSlice:=true) (len:=g.size) (cap:=β.ext p.1) (cap':=β.ext p.1) (f:=λm h l=>some (m,h,l)) ho (Lh _) Q key;cases y;refine⟨?_,hw1,hw2,g,T,Q⟩;simp only[J,T,sOf,Li,Lg,z,qK hE a,Ln,AH,Ai,LY,Ac,Inj.jS]
      split<;>simp
    | some mx=>
     rw[ze]at u
     cases hi with
     | none=>cases u
     | some hi=>
      rw[ze]at u;obtain⟨hz2,u⟩:=zh u;cases u;rw[zl,Le]at hz2;obtain⟨hm,hh⟩:=hz2;rcases Kc hm with hm|⟨k1,hm⟩
      .cases hm
      .cases hm;rcases Kc hh with hh|⟨k2,hh⟩
       .cases hh
       .cases hh
        have key:(jJ (some (G.int k1 0)) (β.ext p.1) (β.ext p.1) λm=>jJ (some (G.int k2 0)) g.size m λh=>jJ lo 0 h λl=>some (m,h,l))=some (0,0,0):=by
         rcases Kc hz with rfl|⟨k,rfl⟩<;>rfl
        obtain⟨m,hh,l,y,H,e3,e4,z,e6⟩:=Qt (P:=E.P) (w:=w) (β:=β) (isSlice:=true) (len:=g.size) (cap:=β.ext p.1) (cap':=β.ext p.1) (f:=λm h l=>some (m,h,l)) ho (Lh _) Q key;cases y;refine⟨?_,hw1,Lh _⟩
        simp only[J,T,sOf,Li,Lg,z,qK hE a,Ln,Option.isSome_some,if_true]
   | true=>
    rw[h3,qX]at h;have h':=h;clear h;obtain rfl:=jO h3;unfold Instr.slice;rw[Lg,zr hE hd]
    obtain⟨m,hh,l,y,H,e3,e4,z,e6⟩:=Qt (P:=E.P) (w:=w) (β:=β) (isSlice:=true) (len:=0) (cap:=0) (cap':=0) (f:=λ_ _ _=>some G.nilslice) ho (Lh _) (Lh _)
     (show rU lo hi mx=some v from h')
    cases y;refine⟨?_,trivial⟩;have hm:m=0:=by omega
    simp only[J,Li,Lg,z,qK hE a,Ln];have h0:hh=0:=by omega
    have l0:l=0:=by omega
    subst h0 l0
    cases mx<;>simp[hm]
 | none=>
  rw[h1,zn]at h
  cases h2:QC d with
  | some q=>
   obtain rfl:=QB h2;rw[h2,ze]at h;obtain⟨sz,a,h⟩:=D h;obtain⟨p,hp,h⟩:=D h;obtain rfl:=yU hp;obtain⟨m,hh,l,y,H,e3,e4,z,e6⟩:=Qt (P:=E.P) (w:=w) (β:=β) (isSlice:=false) (cap':=q.1) (f:=λm h l=>Us p.1 p.2 h l m sz true) ho (Lh _) (Lh _) h;simp only[J,Li,Lg,Instr.sureAddr,z,qK hE a,Ln]
   have hm:(if mx.isSome=true then m else q.1)=m:=by
    cases mx with
    | none=>simp[e6 rfl]
    | some _=>simp
   rw[hm];rcases CC y with⟨g1,g2,rfl⟩|⟨g1,g2,rfl⟩|⟨g1,rfl⟩
   .exact⟨by simp[J,g1],⟨hx,I⟩⟩
   .cases g2
   .exact⟨by simp[J,g1,Inj.jS],⟨hx,I⟩⟩
  | none=>
   rw[h2,zn]at h;obtain⟨h3,h⟩:=zh h;obtain rfl:=jB h3
   cases hs:js x with
   | none=>
    rw[hs,zn]at h;have:=nm (w:=w) hE hF hd h;unfold qk Instr.sliceAt at this;rw[Lg,zr hE hd]at this
    exact this
   | some s=>
   rw[hs,ze]at h;have h':=h;clear h;obtain rfl:=qU hs;simp only[Li];unfold Instr.slice;rw[Lg,zr hE hd]
   cases mx with
   | some mx=>cases h'
   | none=>
    have h:(jJ hi (je s 0) (je s 0) λh=>jJ lo 0 h λl=>some (G.str (mN l (ek h s))))=some v:=h'
    obtain⟨m,hh,l,y,H,e3,e4,z,e6⟩:=Qt (P:=E.P) (w:=w) (β:=β) (isSlice:=false) (len:=s.length) (cap:=s.length) (cap':=s.length) (mx:=none) (lo:=lo) (hi:=hi)
     (f:=λ_ h l=>some (G.str (mN l (ek h s)))) (r:=v) ho (Lh _) (Lh _) (by rw[jV]at h;exact h)
    cases y
    have e7:(str s).extract l hh=str ((s.take hh).drop l):=by
     apply ByteArray.ext;apply Array.toList_inj.1;simp[str,drop_take,extract_eq_take_drop]
    simp only[J,Li,Option.map_none,AH,Ai,LY,qA]at z ⊢;refine⟨?_,λb hb=>?_⟩
    .rw[Lg,z];simp[e7]
    .rw[gu,K0]at hb;exact hx b (mem_of_mem_take (mem_of_mem_drop hb))
end
end
section
variable[Unk]
def YO{c:Type}{n:Nat}{s:Nat->Option c}{a:c}(h:jY n none s=some a):∃m,n=m+1/\s m=some a:=by
 cases n with
 | zero=>cases h
 | succ m=>exact⟨m,rfl,h⟩
def jq{c:Type}{i:Int}{f:Nat->Option c}{a:c}(h:Wk i f=some a):∃n,i = .ofNat n/\f n=some a:=by
 cases i with
 | ofNat n=>exact⟨n,rfl,h⟩
 | negSucc n=>cases h
def fS{c:Type}{i:Int}{n:Nat}{f:Nat->Option c}{a:c}(h:inB i n f=some a):∃m,i = .ofNat m/\m<n/\f m=some a:=by
 cases i with
 | ofNat m=>
  replace h:=zh h;obtain⟨h1,h⟩:=h;rw[zW,Lk]at h1
  exact⟨m,rfl,h1,h⟩
 | negSucc m=>cases h
section
variable{E:Env}(hE:yF E)
include hE
theorem iR{s:Eg}{i:Nat}{d:Es}{a:List Field}{c:Field}{p:Nat×Nat}
  (hd:E.desc s=some d) (hs:Z3 d=some a) (hf:yG i a=some c) (hp:Yk x=some p) (h:C6 E p.1 p.2 c=some v) (hx:WF β x) :
  qk E.P β w (Instr.fieldAt s (J β x) i) v:=by
 obtain⟨f,rfl,rfl⟩:=XC hs;obtain rfl:=yU hp;replace h:=D h;obtain⟨n,hn,h⟩:=h;replace h:=YO h;obtain⟨m,rfl,h⟩:=h;cases h;rw[yY,LV]at hf;refine⟨?_,hx⟩;unfold Instr.fieldAt fieldPlace;simp[zr hE hd,hf,J,Instr.sureAddr,qK hE hn,Inj.jS]
theorem bH(hF:zJ E β){g:G}(h:ib E t x g=some v)(hx:WF β x) :
  qk E.P β w (Instr.indexAt t (J β x) (J β g)) v:=by
 replace h:=D h;obtain⟨i,hi,h⟩:=h;obtain⟨k,rfl⟩:=JY hi;replace h:=D h;obtain⟨d,hd,h⟩:=h
 cases h1:kD d with
 | some e=>
  obtain rfl:=j4 h1;rw[h1,ze]at h;replace h:=D h;obtain⟨s,hs,h⟩:=h
  cases hq:yp x with
  | some q=>
   rw[hq,ze]at h;obtain rfl:=kc hq;replace h:=fS h;obtain⟨m,rfl,hm,h⟩:=h;cases h;refine⟨?_,hx.1⟩;unfold Instr.indexAt
   simp[zr hE hd,J,asIntOf,qK hE hs,Inj.jS,hm]
  | none=>
   rw[hq,zn]at h;obtain⟨p,hp,h⟩:=D h;obtain rfl:=gX hp;obtain⟨u,w2,N,f,y⟩:=hx;obtain⟨m,c,a⟩:=jq h;subst c;obtain⟨n,hn,a⟩:=D a;obtain⟨hm,a⟩:=zh a;rw[zW,Lk]at hm;cases a;obtain⟨z,r,k2,k3,k4⟩:=Kb hF hn;have j:qn ((β p.q).getD (0,0,0)) = .int .i64 (r:Int):=k2;rw[f]at j;have h1:N=r:=by injection j with _ e;omega
   subst h1;have hlt:m<N:=by omega
   refine⟨?_,u⟩;unfold Instr.indexAt
   simp[zr hE hd,J,asIntOf,qK hE hs,Inj.jS,f,sW,hlt]
 | none=>
  rw[h1,zn]at h;replace h:=D h;obtain⟨q,hq,h⟩:=h;obtain rfl:=QB hq;replace h:=D h;obtain⟨p,hp,h⟩:=h;obtain rfl:=yU hp;replace h:=D h;obtain⟨s,hs,h⟩:=h;replace h:=fS h;obtain⟨m,rfl,hm,h⟩:=h;cases h;refine⟨?_,hx⟩;unfold Instr.indexAt;simp[zr hE hd,J,asIntOf,Instr.sureAddr,qK hE hs,Inj.jS,hm]
theorem eu(hF:zJ E β)(h:rH E t x a=some v) :
  qk E.P β w (Instr.index t (J β x) (J β a)) v:=by
 replace h:=D h;obtain⟨i,hi,h⟩:=h;obtain⟨k,rfl⟩:=JY hi;replace h:=D h;obtain⟨d,hd,h⟩:=h;replace h:=zh h;obtain⟨h2,h⟩:=h;obtain rfl:=jB h2;replace h:=jq h;obtain⟨n,rfl,h⟩:=h;obtain⟨f,g,e⟩:=qD h;obtain rfl:=zdO e;obtain⟨h1,h2,s,b,r,c,m⟩:=hF _ g;refine⟨?_,h2⟩
 have j:s[n]?=some b:=by
  have hlt:=(LO.1 c).1;rw[getElem?_pos s n hlt];congr 1;exact(LO.1 c).2
 unfold Instr.index;simp[zr hE hd,J,asIntOf,r,m,j]
theorem pI(h:Rw E t x a=some v)(hx:WF β x) :
  qk E.P β w (Instr.index t (J β x) (J β a)) v:=by
 replace h:=D h;obtain⟨i,hi,h⟩:=h;obtain⟨k,rfl⟩:=JY hi
 cases h1:js x with
 | some s=>
  obtain rfl:=qU h1;rw[h1,ze]at h;replace h:=D h;obtain⟨d,hd,h⟩:=h;replace h:=zh h;obtain⟨h2,h⟩:=h;obtain rfl:=jB h2;replace h:=jq h;obtain⟨n,rfl,h⟩:=h;replace h:=D h;obtain⟨b,hb,h⟩:=h;cases h;rw[yY]at hb;have c:b<256:=hx b (LX hb);refine⟨?_,trivial⟩;unfold Instr.index
  have e:(str s)[n]?=some (UInt8.ofNat b):=by
   have hlt:=(LL.1 hb).1;rw[getElem?_pos (str s) n (by rw[qA];exact hlt)];congr 1
   have:(str s)[n]'(by rw[qA];exact hlt)=UInt8.ofNat (s[n]' hlt):=by
    show(str s).data[n]' _=_;simp[str]
   rw[this,(LL.1 hb).2]
  simp[zr hE hd,J,asIntOf,e,u8]
  omega
 | none=>
  rw[h1,zn]at h;replace h:=D h;obtain⟨d,hd,h⟩:=h;replace h:=D h;obtain⟨q,hq,h⟩:=h;obtain rfl:=QB hq;replace h:=D h;obtain⟨cs,hc,h⟩:=h;obtain rfl:=uJ hc;replace h:=D h;obtain⟨s,hs,h⟩:=h;replace h:=fS h;obtain⟨m,rfl,hm,h⟩:=h;obtain⟨g1,g2⟩:=ZG hE h hx w;refine⟨?_,g2⟩;have g1:(part q.2 (K β cs).toArray (m*s)).run E.P w = .ok (J β v) w:=g1;unfold Instr.index;simp[zr hE hd,J,asIntOf,qK hE hs,hm,g1]
theorem pK{i:Nat}{d:Es}{c:List Field}{a:Field}{cs:List G}
  (hd:E.desc t=some d) (hs:Z3 d=some c) (hf:yG i c=some a) (hp:asAgg x=some cs) (h:E.apart a.type cs a.offset=some v) (hx:WF β x) :
  qk E.P β w (Instr.field t (J β x) i) v:=by
 obtain⟨f,rfl,rfl⟩:=XC hs;obtain rfl:=uJ hp;rw[yY,LV]at hf;obtain⟨g1,g2⟩:=ZG hE h hx w;refine⟨?_,g2⟩;unfold Instr.field;simp[zr hE hd,hf,J,Go.asAgg,g1]
omit hE in
theorem ie{i:Nat}{l:List G}(hp:asTuple x=some l)(h:yG i l=some v)(hx:WF β x) :
  qk P β w (Instr.extract (J β x) i) v:=by
 obtain rfl:=xX hp;rw[yY]at h;refine⟨?_,(qb _ _).1 hx v (LX h)⟩;unfold Instr.extract;simp[J,zC,h]
omit hE in
theorem UX{op:UnOp}(h:xW op x=some v):qk P β w (Op.unary op (J β x)) v:=by
 cases op with
 | neg=>
  replace h:=D h;obtain⟨p,hp,h⟩:=h;obtain rfl:=jx hp;cases h
  exact⟨by simp[Op.unary,J,Op.intArith,unNeg,yn,CW],by simp[unNeg,WF]⟩
 | xor=>
  replace h:=D h;obtain⟨p,hp,h⟩:=h;obtain rfl:=jx hp;cases h;obtain⟨k,n⟩:=p;refine⟨?_,by simp[unXor,WF]⟩;unfold unXor;have hlt:Nat.xor (QR k n) (Nat.sub (full k) 1)<full k:=kx k _ _ (J7 _ _) (by have:=gh k;show full k-1<full k;omega);rw[kM,Ju _ _ hlt];have e:QR k (if k.signed then -1 else k.max)=full k-1:=by cases k<;>rfl
  simp only[Op.unary,J,Op.intBits,Ln,BitVec.toNat_xor,ZH,e]
  rw[Nat.xor_comm];rfl
 | not=>
  replace h:=D h;obtain⟨b,hb,h⟩:=h;obtain rfl:=QF hb;cases h
  cases b<;>exact⟨rfl,trivial⟩
 | plus=>cases h
theorem Bk(hF:zJ E β){H:Heap}(hR:Rel E.P β H w)(h:zih E H t x=some v)(hx:WF β x)(ts:Array TypeId)(ty:Eg)(ht:ts[0]?=some t)(args:Eh)(ha:args[0]?=some (J β x)) :
  qk E.P β w (Builtin.len_ ts ty args) v:=by
 replace h:=D h;obtain⟨d,hd,h⟩:=h;unfold qk Builtin.len_;simp only[ht,ha,Lg,zr hE hd,Li]
 cases h1:kD d with
 | some e=>
  obtain rfl:=j4 h1;rw[h1,ze]at h
  cases h2:yp x with
  | some s=>
   obtain rfl:=kc h2;rw[h2,ze]at h;cases h
   exact⟨by simp[J,goInt],trivial⟩
  | none=>
   rw[h2,zn,zo]at h;split at h
   .rename_i h3;obtain rfl:=jO h3;cases h;exact⟨by simp[J,goInt],trivial⟩
   .rw[zo]at h;split at h
    .rename_i h3;obtain⟨b,o,q,rfl⟩:=NR h3;cases h;exact⟨by simp[J,goInt],trivial⟩
    .cases hp:Q2 x with
     | none=>
      rw[hp,zn]at h
      cases hp:mY x with
      | some p=>
       rw[hp,ze]at h;obtain rfl:=gX hp;cases h;obtain⟨w1,w2,N,w3,w4⟩:=hx
       exact⟨by simp[J,w3,sW,goInt],w2⟩
      | none=>
       rw[hp,zn]at h;obtain⟨f,c,e0⟩:=qD h;obtain rfl:=Nk e0;obtain⟨_,h2',p0,n0,c0,j,g⟩:=hF _ c
       exact⟨by simp[j,g,goInt],h2'⟩
     | some p=>
     rw[hp,ze]at h;obtain rfl:=JX hp
     cases hs:js p.2 with
     | some s=>
      rw[hs,ze]at h;have u:=qU hs;cases h;refine⟨?_,trivial⟩
      simp[J,u,sOf,goInt,qA]
     | none=>
      rw[hs,zn]at h;obtain⟨f,c,e⟩:=qD h;obtain rfl:=Vd e;obtain⟨h1,h2,s,j,g⟩:=hF _ c
      exact⟨by simp[J,j,g,sOf,goInt],h2⟩
 | none=>
  rw[h1,zn,zo]at h;split at h
  .rename_i h2;obtain rfl:=jB h2
   cases hs:js x with
   | some s=>
    rw[hs,ze]at h;obtain rfl:=qU hs;cases h
    exact⟨by simp[J,goInt,qA],trivial⟩
   | none=>
    rw[hs,zn]at h;obtain⟨f,c,e⟩:=qD h;obtain rfl:=Vd e;obtain⟨h1,h2,s,j,g⟩:=hF _ c;exact⟨by simp[j,g,goInt],h2⟩
  .unfold zgl at h
   cases h3:QC d with
   | some q=>
    obtain rfl:=QB h3;rw[h3,ze]at h;cases h
    exact⟨by simp[J,goInt],trivial⟩
   | none=>
    rw[h3,zn]at h
    cases T:Gz d with
    | some q=>
     obtain rfl:=dJ T;rw[T,ze,zo]at h;split at h
     .rename_i h5;obtain rfl:=cB h5;cases h;exact⟨by simp[J,goInt],trivial⟩
     .replace h:=D h;obtain⟨r,hr,h⟩:=h;obtain rfl:=U3 hr;replace h:=D h;obtain⟨b,hb,h⟩:=h;replace h:=D h;obtain⟨m,hm,h⟩:=h;cases h;cases b<;>cases hm;obtain⟨y,hy⟩:=LM.1 hx;obtain⟨arr,g1,g2,g3⟩:=hR.blk _ _ _ hb hy;refine⟨?_,trivial⟩;have e:β.blk r=y.1:=by simp[Inj.blk,hy]
      simp[J,getObj,Sem.run,e,g1,goInt,<- Array.length_toList,g2]
    | none=>
     rw[T,zn]at h;replace h:=D h;obtain⟨a,Q,h⟩:=h;obtain rfl:=dI Q;replace h:=D h;obtain⟨d',z,h⟩:=h;replace h:=D h;obtain⟨q,hq,h⟩:=h;obtain rfl:=QB hq;cases h;exact⟨by simp[J,goInt,zr hE z],trivial⟩
theorem Bl(h:zij E t x=some v)(hx:WF β x)(a:Array TypeId)(ty:Eg)(c:a[0]?=some t)(args:Eh)(ha:args[0]?=some (J β x)) :
  qk E.P β w (Builtin.cap_ a ty args) v:=by
 replace h:=D h;obtain⟨d,hd,h⟩:=h;replace h:=D h;obtain⟨e,he,h⟩:=h;obtain rfl:=j4 he;unfold qk Builtin.cap_;simp only[c,ha,Lg,zr hE hd,Li]
 cases h2:yp x with
 | some s=>
  obtain rfl:=kc h2;rw[h2,ze]at h;cases h;cases hs:s.ex
  .exact⟨by simp[J,goInt],hx.1⟩
  .exact⟨by simp[J,goInt],trivial⟩
 | none=>
  rw[h2,zn]at h;replace h:=zh h;obtain⟨h3,h⟩:=h;obtain rfl:=jO h3;cases h;exact⟨by simp[J,goInt],trivial⟩
omit hE in
theorem Bg:∀(l:List G) (x v:G),zeG l x=some v->WF β x->WFs β l->qk P β w ((K β l).foldlM Builtin.min2 (J β x)) v:=by
 intro l
 induction l with
 | nil=>intro x v h hx _;cases h;exact⟨by simp[K],hx⟩
 | cons b l ih=>
  intro x v h hx hl;replace h:=D h;obtain⟨p,hp,h⟩:=h;replace h:=D h;obtain⟨q,hq,h⟩:=h;obtain rfl:=jx hp;obtain rfl:=jx hq;obtain⟨g1,g2⟩:=ih _ _ h trivial hl.2;refine⟨?_,g2⟩;simp only[K,foldlM_cons,Lg]
  have:(Builtin.min2 (J β (.int p.1 p.2)) (J β (.int q.1 q.2))).run P w = .ok (J β (.int p.1 (ifB (ilt q.2 p.2) q.2 p.2))) w:=by
   simp[Builtin.min2,J,zo,Zi]
  rw[this];exact g1
omit hE in
theorem Bh:∀(l:List G) (x v:G),zeH l x=some v->WF β x->WFs β l->qk P β w ((K β l).foldlM Builtin.max2 (J β x)) v:=by
 intro l
 induction l with
 | nil=>intro x v h hx _;cases h;exact⟨by simp[K],hx⟩
 | cons b l ih=>
  intro x v h hx hl;replace h:=D h;obtain⟨p,hp,h⟩:=h;replace h:=D h;obtain⟨q,hq,h⟩:=h;obtain rfl:=jx hp;obtain rfl:=jx hq;obtain⟨g1,g2⟩:=ih _ _ h trivial hl.2;refine⟨?_,g2⟩;simp only[K,foldlM_cons,Lg]
  have:(Builtin.max2 (J β (.int p.1 p.2)) (J β (.int q.1 q.2))).run P w = .ok (J β (.int p.1 (ifB (ilt p.2 q.2) q.2 p.2))) w:=by
   simp[Builtin.max2,J,zo,Zi]
  rw[this];exact g1
end
end
section
variable[Unk]
theorem Qs(s:Ee):str (zG s)=s:=by
 apply ByteArray.ext;apply Array.toList_inj.1;have e:(UInt8.ofNat ∘ UInt8.toNat)=id:=funext λx=>by simp
 simp[str,zG,e]
theorem ZF(s:Ee):∀b∈zG s,b<256:=by
 intro b hb;simp only[zG,jI,Lv]at hb;obtain⟨x,_,rfl⟩:=hb;exact x.toNat_lt
def YN(e:Inj):∀n,(∀v a,ofV n v=some a->J e a=v/\WF e a)/\(∀l m,wj n l=some m->K e m=l/\WFs e m):=by
 intro n
 induction n with
 | zero=>exact⟨λv a h=>by simp[ofV]at h,λl m h=>by simp[wj]at h⟩
 | succ n f=>
  refine⟨λv a h=>?_,λl m h=>?_⟩
  .cases v with
   | bool b=>simp only[ofV]at h;cases h;exact⟨rfl,trivial⟩
   | int k n=>simp only[ofV]at h;cases h;exact⟨rfl,trivial⟩
   | string s=>simp only[ofV]at h;cases h;exact⟨by rw[J,Qs],ZF _⟩
   | pointer p=>cases p<;>simp only[ofV]at h<;>cases h;exact⟨rfl,trivial⟩
   | slice p l c=>
    cases p with
    | some p=>simp only[ofV]at h;cases h
    | none=>
     cases l with
     | succ l=>simp only[ofV]at h;cases h
     | zero=>
      cases c with
      | succ c=>simp only[ofV]at h;cases h
      | zero=>simp only[ofV]at h;cases h;exact⟨rfl,trivial⟩
   | map r=>cases r<;>simp only[ofV]at h<;>cases h;exact⟨rfl,trivial⟩
   | nilFunc=>simp only[ofV]at h;cases h;exact⟨rfl,trivial⟩
   | nilIface=>simp only[ofV]at h;cases h;exact⟨rfl,trivial⟩
   | agg cs=>
    simp only[ofV]at h;replace h:=D h;obtain⟨l,hl,h⟩:=h;cases h;obtain⟨g1,d⟩:=f.2 _ _ hl
    exact⟨by rw[J,g1],d⟩
   | tuple cs=>
    simp only[ofV]at h;replace h:=D h;obtain⟨l,hl,h⟩:=h;cases h;obtain⟨g1,d⟩:=f.2 _ _ hl
    exact⟨by rw[J,g1],d⟩
   | _=>simp only[ofV]at h;cases h
  .cases l with
   | nil=>simp only[wj]at h;cases h;exact⟨rfl,trivial⟩
   | cons v l=>
    simp only[wj]at h;obtain⟨a,ha,h⟩:=D h;obtain⟨j,hm,h⟩:=D h;cases h;obtain⟨g1,d⟩:=f.1 _ _ ha;obtain⟨i,g⟩:=f.2 _ _ hm;exact⟨by rw[K,g1,i],d,g⟩
section
variable{E:Env}(hE:yF E)
include hE
theorem yi{z:G}(h:E.zero t=some z)(a:Inj)(w:Ea):(zeroValue t).run E.P w = .ok (J a z) w/\WF a z:=by
 replace h:=D h;obtain⟨i,hi,h⟩:=h;replace h:=D h;obtain⟨v,hv,h⟩:=h;obtain⟨g1,b⟩:=(YN a _).1 _ _ h;refine⟨?_,b⟩;unfold zeroValue;rw[Lg,yJ hE hi];simp[hv,g1]
end
def nV:∀(n:Nat) (m l:List G),(Yb n m l).length=l.length:=by
 have zero:∀(m l:List G),(Yb 0 m l).length=l.length:=by
  intro m
  induction m with
  | nil=>intro l;rfl
  | cons a m c=>
   intro l
   cases l with
   | nil=>rfl
   | cons b l=>
    have e:Yb 0 (a::m) (b::l)=a::Yb 0 m l:=rfl;rw[e];simp[c]
 intro n
 induction n with
 | zero=>exact zero
 | succ n c=>
  intro m l
  cases l with
  | nil=>rfl
  | cons b l=>
   have e:Yb (n+1) m (b::l)=b::Yb n m l:=rfl;rw[e];simp[c]
def lV:∀(n:Nat) (m l:List G) (k:Nat),n+m.length<=l.length->(Yb n m l)[k]?=if n<=k/\k<n+m.length then m[k-n]? else l[k]?:=by
 have zero:∀(m l:List G) (k:Nat),m.length<=l.length->(Yb 0 m l)[k]?=if k<m.length then m[k]? else l[k]?:=by
  intro m
  induction m with
  | nil=>intro l k _;rw[O Oc];rfl
  | cons a m c=>
   intro l k h
   cases l with
   | nil=>simp at h
   | cons b l=>
    have e:Yb 0 (a::m) (b::l)=a::Yb 0 m l:=rfl;rw[e]
    cases k with
    | zero=>simp
    | succ k=>simp only[Ap,Am,Nat.add_lt_add_iff_right];exact c l k (by simpa using h)
 intro n
 induction n with
 | zero=>intro m l k h;rw[zero m l k I];simp
 | succ n c=>
  intro m l k h
  cases l with
  | nil=>simp at h
  | cons b l=>
   have e:Yb (n+1) m (b::l)=b::Yb n m l:=rfl;rw[e]
   cases k with
   | zero=>rw[O I];rfl
   | succ k=>
    simp only[Am]at h;rw[Ap,c m l k I];by_cases d:n<=k/\k<n+m.length
    .rw[Y d,Y I];congr 1;omega
    .rw[O d,O I];rfl
def zah(off:Nat):∀(a:Ec) (i:Nat) (arr:Eh),off+i+a.length<=arr.size ->
  ((a.zipIdx i).foldl (λcs x=>cs.setIfInBounds (off+x.2) x.1) arr).size=arr.size /\
  ∀k,((a.zipIdx i).foldl (λcs x=>cs.setIfInBounds (off+x.2) x.1) arr)[k]?=if off+i<=k/\k<off+i+a.length then a[k-(off+i)]? else arr[k]?:=by
 intro a
 induction a with
 | nil=>intro i arr _;exact⟨rfl,λk=>by rw[O Oc];rfl⟩
 | cons v a d=>
  intro i arr h;simp only[Am]at h;obtain⟨h1,h2⟩:=d (i+1) (arr.setIfInBounds (off+i) v) (by simp;omega);rw[zipIdx_cons,foldl_cons];refine⟨by rw[h1];simp,λk=>?_⟩;rw[h2 k];by_cases c:off+(i+1)<=k/\k<off+(i+1)+a.length
  .rw[Y c,Y (by simp;omega)];have:k-(off+i)=(k-(off+(i+1)))+1:=by omega
   rw[this,Ap]
  .rw[O c,AN];by_cases b:off+i=k
   .subst b;simp only[if_true];rw[Y I,Y Oc];simp
   .rw[O b,O (by simp;omega)]
def Xv{β : Inj}(place : Nat -> Option (Nat × Nat)) : ∀(b : List (Nat × G)) (cs l : List G), mH place cs.length b cs = some l -> (∀p ∈ b, WF β p.2) -> WFs β cs ->
    Instr.fill place (K β cs).toArray (b.map λp => (p.1, J β p.2)) = some (K β l).toArray /\ WFs β l /\ l.length = cs.length := by
  intro b
  induction b with
  | nil => intro cs l h _ hw; cases h; exact⟨rfl, hw, rfl⟩
  | cons p b r =>
    intro cs l h hp hw;replace h := D h;obtain⟨q, hq, h⟩ := h;replace h := zh h;obtain⟨h1, h⟩ := h;rw[zl, Le, zA, Ll, jV, zK, Lk] at h1;obtain⟨h2, h3⟩ := h1;have h3 : q.1 + q.2 <= cs.length := h3
    have f : WFs β (Yb q.1 (zU p.2) cs) := by
      rw[qb];intro v hv;obtain⟨k, d⟩ := List.mem_iff_getElem?.1 hv;rw[lV _ _ _ _ I] at d;split at d
      · have hc : WFs β (zU p.2) := by
          have := hp p Oc;cases h : p.2 <;> rw[h] at this <;> first|exact this|exact⟨this, trivial⟩
        exact(qb _ _).1 hc v (LX d)
      · exact(qb _ _).1 hw v (LX d)
    have hl := nV q.1 (zU p.2) cs;rw[<- hl] at h;obtain⟨g1, u, t⟩ := r _ _ h (λp j => hp p (by simp[j])) f;refine⟨?_, u, by rw[t, hl]⟩;rw[Aw];unfold Instr.fill;have i : place (p.1, J β p.2).1 = some q := hq;simp only;rw[i];obtain⟨q1, q2⟩ := q;simp only at h2 h3 g1 ⊢;have c : (J β p.2).cells = (K β (zU p.2)).toArray := jm β p.2;have g : (J β p.2).cells.size = q2 := by rw[c, zC]; simpa using h2
    rw[O (by rw[g]; simp[zC]; omega)];rw[<- g1];congr 1;apply Array.toList_inj.1;apply AF;intro k;obtain⟨w, m⟩ := zah q1 (K β (zU p.2)) 0 (K β cs).toArray (by simp[zC]; omega)
    have e : (J β p.2).cells.zipIdx.foldl (λcs x => cs.setIfInBounds (q1 + x.2) x.1) (K β cs).toArray =
        ((K β (zU p.2)).zipIdx 0).foldl (λcs x => cs.setIfInBounds (q1 + x.2) x.1) (K β cs).toArray := by
      rw[c, <- Array.foldl_toList]; simp
    have n := congrArg (λa : Array Value => a.toList[k]?) e;simp only[LV] at n m ⊢;refine Eq.trans n ?_;rw[m k, zC, zC, zC];simp only[AB, Lw, Ls, Nat.add_zero];rw[lV _ _ _ _ I];split <;> rfl
def Kj{T:M G}{ρ:Operand->Value}:∀(l:List (Nat×Operand)) (b:List (Nat×G)),oO T l=some b ->
  (∀x∈l.map (·.2),∀v,ev T x=some v->ρ x=J β v/\WF β v)->l.map (λx=>(x.1,ρ x.2))=b.map (λp=>(p.1,J β p.2))/\∀p∈b,WF β p.2:=by
 intro l
 induction l with
 | nil=>intro b h _;cases h;exact⟨rfl,Oc⟩
 | cons x l d=>
  intro b h c;replace h:=D h;obtain⟨a,ha,h⟩:=h;replace h:=D h;obtain⟨m,hm,h⟩:=h;cases h;obtain⟨g1,i⟩:=c x.2 Oc a ha;obtain⟨g,f⟩:=d m hm λy e=>c y (by simp only[Aw,Lf];exact .inr e);refine⟨by simp[g1,g],λp hp=>?_⟩;rcases Lf.1 hp with rfl|hp
  .exact i
  .exact f p hp
def oM{T:M G}{ρ:Operand->Value}:∀(l:List Operand) (b:List G),evs T l=some b ->
  (∀x∈l,∀v,ev T x=some v->ρ x=J β v/\WF β v)->l.map ρ=K β b/\WFs β b:=by
 intro l
 induction l with
 | nil=>intro b h _;cases h;exact⟨rfl,trivial⟩
 | cons x l d=>
  intro b h c;replace h:=D h;obtain⟨a,ha,h⟩:=h;replace h:=D h;obtain⟨m,hm,h⟩:=h;cases h;obtain⟨g1,i⟩:=c x Oc a ha;obtain⟨g,f⟩:=d m hm λy e=>c y (by simp[e]);exact⟨by simp[g1,g,K],i,f⟩
def j9(h:WF g v):WFs g (zU v):=by
 cases v<;>first|exact h|exact⟨h,trivial⟩
def SM(z:List G)(s:Nat)(c:z.length=s):∀(n k:Nat),k<n*s->(Jg z n)[k]?=z[k % s]?:=by
 intro n
 induction n with
 | zero=>intro k h;omega
 | succ n b=>
  intro k h
  have e:Jg z (n+1)=z++Jg z n:=by
   show zX z (Jg z n)=_;rw[zZ]
  rw[e,List.getElem?_append];by_cases d:k<s
  .rw[Y I,AA d]
  .have hs:0<s:=by
    rcases eq_zero_or_pos s with a|a
    .subst a;simp at h
    .exact a
   rw[succ_mul]at h;rw[O I,c,b (k-s) I];congr 1;conv=>rhs;rw[mod_eq_sub_mod I]
def Xl(z:List G)(s:Nat)(b:z.length=s)(n:Nat):(Jg z n).length=n*s:=by
 rw[Cg]
 induction n with
 | zero=>simp
 | succ n a=>rw[List.replicate_succ,AY,Lm,a,b,succ_mul];omega
def aD{z:List G}(h:WFs g z)(n:Nat):WFs g (Jg z n):=by
 rw[Cg,qb];intro v hv;obtain⟨l,hl,hv⟩:=List.mem_flatten.1 hv;rw[(List.mem_replicate.1 hl).2]at hv;exact(qb _ _).1 h v hv
def Jp(z:List G)(s n:Nat)(a:z.length=s)(b:Eh)(hv:n*s≠0->b=(K β z).toArray) :
  (Array.range (n*s)).map (λi=>b[i % b.size]!)=(K β (Jg z n)).toArray:=by
 apply Array.toList_inj.1;apply AF;intro k;rw[zC];simp only[Array.toList_map,Array.toList_range,Lw];by_cases c:k<n*s
 .have e:=hv I;subst e
  have hs:0<s:=by
   rcases eq_zero_or_pos s with d|d
   .subst d;simp at c
   .exact d
  have hm:k % s<z.length:=by rw[a];exact Af _ hs
  rw[Ah c,SM z s a n k c];simp only[Ac,zC,AQ,Ls,a];rw[Ly hm];simp[hm]
 .rw[Au (by simp;omega),Au (by rw[Xl z s a];omega)];rfl
end
end Go.AEv
