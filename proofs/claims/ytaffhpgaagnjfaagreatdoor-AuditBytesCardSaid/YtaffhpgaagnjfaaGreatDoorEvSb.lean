/- A verified evaluator of Go code, and its soundness (EvSb). Conditions: those of each theorem. -/
import Derived.Test.YtaffhpgaagnjfaaGreatDoorEvSa
import Derived.Laws.Strings
import Derived.Laws.StructEq
import Derived.ChangeKeysEq
import GoSem.Dispatch
open List Nat Array Int
set_option maxHeartbeats 1000000
set_option linter.unusedSectionVars false
namespace Go.AEv
section
variable[Unk]
theorem Qv{v:zb}{b:Bool}(h:asBool v=some b):v = .bool b:=by cases v<;>cases h;rfl
theorem jr{v:zb}{p:IntKind×Int}(h:asInt v=some p):v = .int p.1 p.2:=by cases v<;>cases h;rfl
theorem JP{v:zb}{i:Int}(h:Wv v=some i):∃k,v = .int k i:=by cases v<;>cases h;exact⟨_,rfl⟩
theorem yz{v:zb}{p:Nat×Nat}(h:Yg v=some p):v = .ptr p.1 p.2:=by cases v<;>cases h;rfl
theorem jP{v:zb}{s:Sl}(h:kN v=some s):v = .slice s.b s.off s.len s.cap s.ex:=by cases v<;>cases h;rfl
theorem qG{v:zb}{s:List Nat}(h:jm v=some s):v = .str s:=by cases v<;>cases h;rfl
theorem zjc{v:zb}{s:List zb}(h:asAgg v=some s):v = .agg s:=by cases v<;>cases h;rfl
theorem zlp{v:zb}{s:List zb}(h:asTuple v=some s):v = .tuple s:=by cases v<;>cases h;rfl
theorem zdL{v:zb}{p:TypeId×zb}(h:zgD v=some p):v = .iface p.1 p.2:=by cases v<;>cases h;rfl
theorem Uy{v:zb}{r:Nat}(h:zjb v=some r):v = .map r:=by cases v<;>cases h;rfl
theorem jB{v:zb}(h:ke v=true):v = .nilslice:=by cases v<;>cases h;rfl
theorem zrc{v:zb}(h:zvQ v=true):∃b o q,v = .esl b o q:=by cases v<;>cases h;exact⟨_,_,_,rfl⟩
theorem zdK{v:zb}{p:Psl}(h:zfp v=some p):v = .psl p.b p.o p.q p.c p.ex:=by cases v<;>cases h;rfl
theorem JO{v:zb}{p:Nat×zb}(h:QQ v=some p):v = .osl p.1 p.2:=by cases v<;>cases h;rfl
theorem zn1{v:zb}(h:zkE v=true):v = .nilp:=by cases v<;>cases h;rfl
theorem za3{v:zb}(h:Ub v=true):v = .nilmap:=by cases v<;>first|rfl|(simp[Ub]at h)
theorem jJ{d:TypeDesc}{e:TypeId}(h:j8 d=some e):d = .slice e:=by cases d<;>cases h;rfl
theorem Qo{d:TypeDesc}{q:Nat×TypeId}(h:Qp d=some q):d = .array q.1 q.2:=by cases d<;>cases h;rfl
theorem Xv{d:TypeDesc}{l:List Field}(h:ZS d=some l):∃a:Array Field,d = .struct a/\l=a.toList:=by
 cases d<;>cases h;exact⟨_,rfl,rfl⟩
theorem zbL{d:TypeDesc}{e:TypeId}(h:zkZ d=some e):d = .pointer e:=by cases d<;>cases h;rfl
theorem Xw{d:TypeDesc}{k:IntKind}(h:Wo d=some k):d = .int k:=by cases d<;>cases h;rfl
theorem zbM{d:TypeDesc}{q:TypeId×TypeId}(h:zom d=some q):d = .map q.1 q.2:=by cases d<;>cases h;rfl
theorem js{d:TypeDesc}(h:kF d=true):d = .string:=by cases d<;>cases h;rfl
theorem zds{d:TypeDesc}(h:zgs d=true):d = .unsafePointer:=by cases d<;>cases h;rfl
theorem WV{k:IntKind}(h:zgf k=true):k = .u8:=by cases k<;>revert h<;>decide
theorem Zd{k:IntKind}(h:Wi k=true):k = .i64:=by cases k<;>revert h<;>decide
theorem Uk(k:IntKind):full k=2 ^ k.bits:=by cases k<;>rfl
theorem zh5(k:IntKind):zqy k=k.bits:=by cases k<;>rfl
theorem zdh(k:IntKind):0<full k:=by cases k<;>decide
theorem J1(k:IntKind)(n:Int):Qa k n<full k:=by
 have h:=zdh k
 cases n with
 | ofNat m=>exact mod_lt _ h
 | negSucc m=>show full k-1-m % full k<full k;omega
theorem zhb(k:IntKind)(n:Int):((Qa k n:Nat):Int)=n % (2 ^ k.bits:Int):=by
 have h:=zdh k;have e:(2 ^ k.bits:Int)=((full k:Nat):Int):=by rw[Uk];simp
 rw[e]
 cases n with
 | ofNat m=>show((m % full k:Nat):Int)=_;simp
 | negSucc m=>
  show((full k-1-m % full k:Nat):Int)=_;rw[negSucc_emod _ (by omega)];have h2:m % full k<full k:=mod_lt _ h;have h3:((m:Int) % (full k:Int))=((m % full k:Nat):Int):=by simp
  rw[h3];omega
theorem Jq(k : IntKind)(m : Nat)(h : m < full k) : back k m = k.wrap m := by
  unfold back IntKind.wrap;rw[zl, zN];have e : (2 ^ k.bits : Int) = ((full k : Nat) : Int) := by rw[Uk]; simp
  have hm : (m : Int) % (2 ^ k.bits : Int) = m := by rw[e]; exact emod_eq_of_lt (by omega) (by omega)
  simp only[hm]
  have key : ∀a b : Nat, half k = a -> full k = b -> (k.signed = true -> a + a = b /\ (2 ^ (k.bits - 1) : Int) = a) -> (k.signed = false -> a = b) ->
      (if decide (m < a) = true then Int.ofNat m else Int.negSucc (Nat.sub (Nat.sub b 1) m)) =
      if k.signed && decide ((m : Int) ≥ (2 ^ (k.bits - 1) : Int)) then(m : Int) - (2 ^ k.bits : Int) else m := by
    intro a b h1 h2 h3 f;rw[h2] at h e;rw[e]
    cases hs : k.signed with
    | false =>
      have := f hs
      rw[if_pos (by simp; omega), if_neg (by simp)]; rfl
    | true =>
      obtain⟨g, d⟩ := h3 hs;rw[d];by_cases c : m < a
      · rw[if_pos (by simp; omega), if_neg (by simp; omega)]; rfl
      · rw[if_neg (by simp; omega), if_pos (by simp; omega), negSucc_eq]
        show -(((b - 1 - m : Nat) : Int) + 1) = _;omega
  exact key _ _ rfl rfl (by cases k <;> simp[IntKind.signed, half, full, IntKind.bits]) (by cases k <;> simp[IntKind.signed, half, full])
theorem j5(k:IntKind)(n:Int):Zi k n=k.wrap n:=by
 unfold Zi;rw[Jq _ _ (J1 k n)];unfold IntKind.wrap;rw[zhb];simp only[emod_emod]
theorem XX(m n:Nat):XJ m n=(m:Int)-n:=by
 unfold XJ;rw[zl,zG];by_cases h:n<=m
 .rw[if_pos (by simp[h])];show((m-n:Nat):Int)=_;omega
 .rw[if_neg (by simp[h]),negSucc_eq];show -(((n-m-1:Nat):Int)+1)=_;omega
theorem zmC(a:Int):zw3 a = -a:=by
 cases a with
 | ofNat m=>show XJ 0 m=_;rw[XX];simp
 | negSucc m=>show Int.ofNat (m+1)=_;rw[neg_negSucc];rfl
theorem Ui(a b:Int):zkH a b=a+b:=by
 cases a<;>cases b<;>simp only[zkH,Qm,yG,XX]
 .rfl
 .rename_i m n;rw[negSucc_eq];show(m:Int)-((n+1:Nat):Int)=Int.ofNat m+_;simp;omega
 .rename_i m n;rw[negSucc_eq];show(n:Int)-((m+1:Nat):Int)=_+Int.ofNat n;simp;omega
 .rename_i m n;rw[negSucc_eq,negSucc_eq,negSucc_eq];show -(((m+n+1:Nat):Int)+1)=_;omega
theorem zmx(a b:Int):ztF a b=a-b:=by unfold ztF;rw[Ui,zmC];omega
theorem zgi(a b:Int):zgj a b=a*b:=by
 cases a<;>cases b<;>simp only[zgj,Qm,yG,XX]
 .rfl
 .rename_i m n;rw[negSucc_eq];show((0:Nat):Int)-((m*(n+1):Nat):Int)=Int.ofNat m*_;rw[natCast_mul];simp[Int.mul_neg]
 .rename_i m n;rw[negSucc_eq];show((0:Nat):Int)-(((m+1)*n:Nat):Int)=_*Int.ofNat n;rw[natCast_mul];simp[Int.neg_mul]
 .rename_i m n;rw[negSucc_eq,negSucc_eq];show(((m+1)*(n+1):Nat):Int)=_;rw[Int.neg_mul_neg,natCast_mul];rfl
theorem ziw(a b:Int):zmw a b=a.tdiv b:=by
 cases a<;>cases b<;>simp only[zmw,Qm,yG,XX]
 .rfl
 .rename_i m n;show((0:Nat):Int)-((m / (n+1):Nat):Int) = -((m / (n+1):Nat):Int);simp
 .rename_i m n;show((0:Nat):Int)-(((m+1) / n:Nat):Int) = -(((m+1) / n:Nat):Int);simp
 .rfl
theorem zit(a b:Int):ziu a b=a.tmod b:=by
 cases a<;>cases b<;>simp only[ziu,Qm,yG,XX]
 .rfl
 .rename_i m n;rfl
 .rename_i m n;show((0:Nat):Int)-(((m+1) % n:Nat):Int) = -(((m+1) % n:Nat):Int);simp
 .rename_i m n;show((0:Nat):Int)-(((m+1) % (n+1):Nat):Int) = -(((m+1) % (n+1):Nat):Int);simp
@[simp] theorem jL (k:IntKind) (n:Int):mkInt k n = .int k n:=by cases n<;>rfl
@[simp] theorem kS (b:Bool):jA b = .bool b:=by cases b<;>rfl
@[simp] theorem zyW (n:Nat):mkNat n = .int .i64 n:=rfl
theorem Zv(k:IntKind)(x:Int):(BitVec.ofInt k.bits x).toNat=Qa k x:=by
 have h:=zhb k x;rw[BitVec.toNat_ofInt];have e:((2 ^ k.bits:Nat):Int)=(2 ^ k.bits:Int):=by simp
 rw[e,<- h];simp
theorem kA{k j:IntKind}{u v:zb}(h:same k j u=some v):k=j/\u=v:=by
 obtain⟨h1,h2⟩:=zg h;exact⟨(Xk _ _).1 h1,by injection h2⟩
theorem zmt(k:IntKind)(a b:Nat)(h:a<full k):a &&& b<full k:=Nat.lt_of_le_of_lt Nat.and_le_left h
theorem zwW(k:IntKind)(a b:Nat)(c:a<full k)(hb:b<full k):a ||| b<full k:=by
 rw[Uk]at *;exact or_lt_two_pow c hb
theorem kf(k:IntKind)(a b:Nat)(c:a<full k)(hb:b<full k):a ^^^ b<full k:=by
 rw[Uk]at *;exact xor_lt_two_pow c hb
theorem znR(k:IntKind)(b:Int):(~~~ (BitVec.ofInt k.bits b)).toNat=Nat.xor (Qa k b) (Nat.sub (full k) 1):=by
 rw[<- BitVec.xor_allOnes,BitVec.toNat_xor,Zv,BitVec.toNat_allOnes,Uk];rfl
theorem zeA{P:Program}{op:BinOp}{k j:IntKind}{a b:Int}{v:zb}(h:Yb op k a j b=some v)(t:TypeId)(c:Inj)(w:World) :
  (Go.binOp op t (.int k a) (.int j b)).run P w = .ok (zc c v) w/\WF c v:=by
 cases op
 case add=>obtain⟨rfl,rfl⟩:=kA h;simp[Go.binOp,Op.intArith,zc,WF,j5,Ui]
 case sub=>obtain⟨rfl,rfl⟩:=kA h;simp[Go.binOp,Op.intArith,zc,WF,j5,zmx]
 case mul=>obtain⟨rfl,rfl⟩:=kA h;simp[Go.binOp,Op.intArith,zc,WF,j5,zgi]
 case quo=>
  obtain⟨h1,h⟩:=yI h;obtain⟨rfl,rfl⟩:=kA h;rw[QA]at h1;have h1:b≠0:=by simpa using h1
  simp[Go.binOp,Op.intDiv,zc,WF,j5,ziw,h1]
 case rem=>
  obtain⟨h1,h⟩:=yI h;obtain⟨rfl,rfl⟩:=kA h;rw[QA]at h1;have h1:b≠0:=by simpa using h1
  simp[Go.binOp,Op.intDiv,zc,WF,zit,h1]
 case and=>
  obtain⟨rfl,rfl⟩:=kA h;refine⟨?_,by simp[WF]⟩;rw[jL,Jq _ _ (show land _ _<full k from zmt _ _ _ (J1 _ _))];simp only[Go.binOp,Op.intBits,ne_eq,not_true_eq_false,if_false,Sem.run_pure,zc,BitVec.toNat_and,Zv];rfl
 case or=>
  obtain⟨rfl,rfl⟩:=kA h;refine⟨?_,by simp[WF]⟩;rw[jL,Jq _ _ (show lor _ _<full k from zwW _ _ _ (J1 _ _) (J1 _ _))];simp only[Go.binOp,Op.intBits,ne_eq,not_true_eq_false,if_false,Sem.run_pure,zc,BitVec.toNat_or,Zv];rfl
 case xor=>
  obtain⟨rfl,rfl⟩:=kA h;refine⟨?_,by simp[WF]⟩;rw[jL,Jq _ _ (show Nat.xor _ _<full k from kf _ _ _ (J1 _ _) (J1 _ _))];simp only[Go.binOp,Op.intBits,ne_eq,not_true_eq_false,if_false,Sem.run_pure,zc,BitVec.toNat_xor,Zv];rfl
 case andNot=>
  obtain⟨rfl,rfl⟩:=kA h;refine⟨?_,by simp[WF]⟩;rw[jL,Jq _ _ (show land _ _<full k from zmt _ _ _ (J1 _ _))];simp only[Go.binOp,Op.intBits,ne_eq,not_true_eq_false,if_false,Sem.run_pure,zc,BitVec.toNat_and,Zv,znR];rfl
 case shl=>
  cases b with
  | negSucc n=>cases h
  | ofNat n=>
   cases h
   have e:min n k.bits=shN k n:=by
    unfold shN;rw[zl,zG,zh5];by_cases h:n<=k.bits
    .rw[if_pos (by simp[h])];omega
    .rw[if_neg (by simp[h])];omega
   simp only[Go.binOp,Op.shift];rw[if_neg (by simp)];simp[zc,WF,j5,zgi,e]
 case shr=>
  cases b with
  | negSucc n=>cases h
  | ofNat n=>
   cases h
   have e:min n k.bits=shN k n:=by
    unfold shN;rw[zl,zG,zh5];by_cases h:n<=k.bits
    .rw[if_pos (by simp[h])];omega
    .rw[if_neg (by simp[h])];omega
   simp only[Go.binOp,Op.shift];rw[if_neg (by simp)];refine⟨?_,by simp[WF]⟩
   have f:a.fdiv ((2:Int) ^ shN k n)=Z5 a (fun m=>.ofNat (Nat.div m (Nat.pow 2 (shN k n)))) fun m=>.negSucc (Nat.div m (Nat.pow 2 (shN k n))):=by
    have hp:(2:Int) ^ shN k n=((2 ^ shN k n:Nat):Int):=by simp
    rw[hp];have d:0<2 ^ shN k n:=Nat.pow_pos (by decide);show a.fdiv _=Z5 (α:=Int) a (fun m=>Int.ofNat (m / 2 ^ shN k n)) fun m=>Int.negSucc (m / 2 ^ shN k n);generalize 2 ^ shN k n=q at *;obtain⟨q,rfl⟩:∃r,q=r+1:=⟨q-1,by omega⟩
    cases a with
    | ofNat m=>
     cases m with
     | zero=>show(0:Int)=Int.ofNat (0 / (q+1));rw[Nat.zero_div];rfl
     | succ m=>rfl
    | negSucc m=>rfl
   simp[zc,e,f]
 case eql=>obtain⟨rfl,rfl⟩:=kA h;simp[Go.binOp,Op.intCmp,zc,WF,QA]
 case neq=>obtain⟨rfl,rfl⟩:=kA h;simp[Go.binOp,Op.intCmp,zc,WF,QA,qI];rfl
 case lss=>obtain⟨rfl,rfl⟩:=kA h;simp[Go.binOp,Op.intCmp,zc,WF,yu]
 case leq=>obtain⟨rfl,rfl⟩:=kA h;simp[Go.binOp,Op.intCmp,zc,WF,yu,qI,<- Int.not_lt]
 case gtr=>obtain⟨rfl,rfl⟩:=kA h;simp[Go.binOp,Op.intCmp,zc,WF,yu]
 case geq=>obtain⟨rfl,rfl⟩:=kA h;simp[Go.binOp,Op.intCmp,zc,WF,yu,qI,<- Int.not_lt]
theorem XZ(s:List Nat):(str s).data.toList=s.map UInt8.ofNat:=by simp[str]
theorem qm(s:List Nat):(str s).size=s.length:=by simp[str,ByteArray.size]
theorem Qe(s:List Nat):(str s).toList=s.map UInt8.ofNat:=by
 rw[ByteArray.toList_eq];exact XZ s
theorem ofNat_inj{a b:Nat}(c:a<256)(hb:b<256)(h:UInt8.ofNat a=UInt8.ofNat b):a=b:=by
 have:=congrArg UInt8.toNat h;simp at this;omega
theorem Yn:∀ {s t:List Nat},(∀b∈s,b<256)->(∀b∈t,b<256)->s.map UInt8.ofNat=t.map UInt8.ofNat->s=t
 | [],[],_,_,_=>rfl
 | [],_::_,_,_,h=>by simp at h
 | _::_,[],_,_,h=>by simp at h
 | a::s,b::t,hs,ht,h=>by
  simp only[map_cons,List.cons.injEq]at h;rw[ofNat_inj (hs a (by simp)) (ht b (by simp)) h.1,Yn (fun x hx=>hs x (by simp[hx])) (fun x hx=>ht x (by simp[hx])) h.2]
theorem str_inj{s t:List Nat}(hs:∀b∈s,b<256)(a:∀b∈t,b<256)(h:str s=str t):s=t:=by
 have:=congrArg (fun x:ByteArray=>x.data.toList) h;simp only[XZ]at this;exact Yn hs a this
theorem zcW{s t:List Nat}(hs:∀b∈s,b<256)(a:∀b∈t,b<256):zea s t=((str s).toList==(str t).toList):=by
 rw[KX,Bool.eq_iff_iff,beq_iff_eq,beq_iff_eq,Qe,Qe];exact⟨fun h=>by rw[h],Yn hs a⟩
theorem zcV:∀ {s t:List Nat},(∀b∈s,b<256)->(∀b∈t,b<256)->KW s t=Op.bytesLess (s.map UInt8.ofNat) (t.map UInt8.ofNat)
 | [],[],_,_=>rfl
 | [],_::_,_,_=>rfl
 | _::_,[],_,_=>rfl
 | a::s,b::t,hs,ht=>by
  have e:KW (a::s) (b::t)=ifB (blt a b) true (ifB (Nat.beq a b) (KW s t) false):=rfl;rw[e,zcV (fun x hx=>hs x (by simp[hx])) (fun x hx=>ht x (by simp[hx])),zl,zl,zN,zu];simp only[map_cons,Op.bytesLess];have c:=hs a (by simp);have hb:=ht b (by simp)
  have f:(UInt8.ofNat a<UInt8.ofNat b)↔a<b:=by
   rw[UInt8.lt_iff_toNat_lt];simp;omega
  have d:(UInt8.ofNat a==UInt8.ofNat b)=(a==b):=by
   rw[Bool.eq_iff_iff,beq_iff_eq,beq_iff_eq];exact⟨ofNat_inj c hb,fun h=>by rw[h]⟩
  simp only[f,d];by_cases h1:a<b<;>by_cases h2:a=b<;>simp[h1,h2]
theorem VA(s t:List Nat):str s++str t=str (s++t):=by
 apply ByteArray.ext;simp[str,ByteArray.data_append]
theorem zim:∀a b:List Nat,(KW a b||(a==b))=kI (KW b a)
 | [],[]=>rfl
 | [],_::_=>rfl
 | _::_,[]=>rfl
 | a::s,b::t=>by
  have e:∀a b s t,KW (a::s) (b::t)=ifB (blt a b) true (ifB (Nat.beq a b) (KW s t) false):=fun _ _ _ _=>rfl;have c:=zim s t;rw[e,e,qI,zl,zl,zl,zl,zN,zu,zN,zu];rw[qI]at c;rcases Nat.lt_trichotomy a b with h|h|h
  .have h1:¬b<a:=by omega
   have h2:¬b=a:=by omega
   simp[h,h1,h2]
  .subst h;simp[<- c]
  .have h1:¬a<b:=by omega
   have h2:¬a=b:=by omega
   simp[h,h1,h2]
theorem znv{P:Program}{op:BinOp}{a b:List Nat}{v:zb}(h:zvE op a b=some v)(e:∀x∈a,x<256)(hb:∀x∈b,x<256)(t:TypeId)(i:Inj)(w:World) :
  (Go.binOp op t (.string (str a)) (.string (str b))).run P w = .ok (zc i v) w/\WF i v:=by
 have hl:=zcW e hb;have g:=zcV e hb;have f:=zcV hb e;have c:Op.bytesLess (str a).toList (str b).toList=KW a b:=by rw[Qe,Qe,g]
 have j:Op.bytesLess (str b).toList (str a).toList=KW b a:=by rw[Qe,Qe,f]
 have d:(Op.bytesLess (str a).toList (str b).toList||((str a).toList==(str b).toList))=kI (KW b a):=by
  rw[c,<- hl,KX,zim]
 cases op<;>first|(cases h;done)|skip
 case add=>
  obtain⟨h1,h⟩:=zg h;cases h;rw[zG,decide_eq_true_eq,zmr,jE]at h1;refine⟨?_,?_⟩
  .simp only[Go.binOp,Op.stringOp];rw[if_neg (by rw[qm,qm];show ¬(((a.length+b.length:Nat)):Int) > IntKind.i64.max;simp[IntKind.max,IntKind.signed,IntKind.bits];omega)];simp[zc,VA]
  .intro x hx;simp only[zT,List.mem_append]at hx;exact hx.elim (e x) (hb x)
 case eql=>cases h;simp[Go.binOp,Op.stringOp,zc,WF,hl]
 case neq=>cases h;simp[Go.binOp,Op.stringOp,zc,WF,hl,qI]
 case lss=>cases h;simp[Go.binOp,Op.stringOp,zc,WF,c]
 case leq=>cases h;simp only[Go.binOp,Op.stringOp,Sem.run_pure,d,kS,zc];exact⟨trivial,trivial⟩
 case gtr=>cases h;simp only[Go.binOp,Op.stringOp,Sem.run_pure,d,kS,zc,qI,Bool.not_not];exact⟨trivial,trivial⟩
 case geq=>cases h;simp[Go.binOp,Op.stringOp,zc,WF,c,qI]
end
section
variable[Unk]
def zcr(x:Value):Bool:=match x with|.int _ _=>false|.float _ _=>false|.complex _ _ _=>false|.string _=>false|_=>true
section
variable{E:Env}(hE:yg E)
include hE
theorem Zt{a:Inj}{t:TypeId}{cs:List zb}{off:Nat}{v:zb}(h:E.apart t cs off=some v)(hw:WFs a cs)(w:World) :
  (part t (zf a cs).toArray off).run E.P w = .ok (zc a v) w/\WF a v:=by
 obtain⟨g,b,h⟩:=ze h;unfold part;rw[Sem.run_bind,zez hE b]
 cases g with
 | true=>
  obtain⟨n,hn,h⟩:=ze h;cases h;refine⟨?_,?_⟩
  .simp only[Result.andThen_ok,if_true,Sem.run_bind,qx hE hn,Sem.run_pure,zc];congr 2
   apply Array.toList_inj.1;simp[zx,Ko,zdq,map_drop,map_take]
  .rw[WF,zV];intro v hv;rw[Ko,zdq]at hv
   exact(zV _ _).1 hw v (mem_of_mem_drop (mem_of_mem_take hv))
 | false=>
  have h:kY off cs=some v:=h;rw[ye]at h;refine⟨?_,(zV _ _).1 hw v (List.mem_of_getElem? h)⟩;simp[zx,h]
omit hE in
theorem Yi(s u:ByteArray):(s.toList==u.toList)=decide (s=u):=by
 rw[ByteArray.toList_eq,ByteArray.toList_eq,Bool.eq_iff_iff,decide_eq_true_eq,beq_iff_eq];obtain⟨⟨x⟩⟩:=s;obtain⟨⟨y⟩⟩:=u;simp
theorem zhk{c:Inj}(hF:zC E c){w:World}{t:TypeId}{x y:zb}{r:Bool}(h:zpj E t x y=some r)(d:Nat) :
  (Op.equalIn (d+1) t (zc c x) (zc c y)).run E.P w = .ok r w:=by
 replace h:=ze h;obtain⟨g,hd,h⟩:=h;replace h:=ze h;obtain⟨sh,hs,h⟩:=h;obtain⟨f,i,e⟩:=qu h;obtain rfl:=zkA e;obtain⟨h1,h2,h3⟩:=hF _ i;rcases h3 with⟨rfl,k,m,n,b,a,rfl⟩|⟨rfl,s,u,b,a,rfl⟩|⟨rfl,s,u,b,a,rfl⟩
 .cases g<;>simp[shapeOf]at hs;simp[b,a,Op.equalIn,zr hE hd]
 .cases g<;>simp[shapeOf]at hs;simp[b,a,Op.equalIn,zr hE hd,beq_toListBytes,Yi]
 .cases g<;>simp[shapeOf]at hs;simp[b,a,Op.equalIn,zr hE hd]
theorem UC(c:Inj)(hF:zC E c)(H:Heap)(w:World):∀f,
  (∀t x y r,Yu E H f t x y=some r->WF c x->WF c y->∀d,f<=d->(Op.equalIn d t (zc c x) (zc c y)).run E.P w = .ok r w) /\
  (∀z xs g r,Jr E H f z xs g=some r->WFs c xs->WFs c g->∀d,f<=d->(Op.eqFields d (zf c xs).toArray (zf c g).toArray z).run E.P w = .ok r w) /\
  (∀e s is xs g r,YZ E H f e s is xs g=some r->WFs c xs->WFs c g->∀d,f<=d->(Op.eqItems d e s (zf c xs).toArray (zf c g).toArray is).run E.P w = .ok r w):=by
 intro f
 induction f with
 | zero=>exact⟨fun _ _ _ _ h=>by simp[Yu]at h,fun _ _ _ _ h=>by simp[Jr]at h,fun _ _ _ _ _ _ h=>by simp[YZ]at h⟩
 | succ f O=>
  obtain⟨m,B,A⟩:=O;refine⟨?_,?_,?_⟩
  .intro t x y r h hx l d hd;obtain⟨d,rfl⟩:∃e,d=e+1:=⟨d-1,by omega⟩
   have v:f<=d:=by omega
   unfold Yu at h;rw[zl]at h;split at h
   case isFalse=>exact zhk hE hF h d
   rename_i hs;clear hs;split at h
   .rename_i e;cases h;simp[zc,Op.equalIn,zr hE e,XG]
   .rename_i k a j b e;split at h
    .rename_i Q;cases h;obtain rfl:=(Xk _ _).1 Q;simp[zc,Op.equalIn,zr hE e,QA]
    .cases h
   .rename_i a b e;cases h;rw[zcW hx l];simp[zc,Op.equalIn,zr hE e,beq_toListBytes]
   .rename_i e;cases h;(simp only[zc,Op.equalIn,Sem.run_bind,zr hE e,Result.andThen_ok,Sem.run_pure])<;>first|done|rfl|simp
   .rename_i e;cases h;(simp only[zc,Op.equalIn,Sem.run_bind,zr hE e,Result.andThen_ok,Sem.run_pure])<;>first|done|rfl|simp
   .rename_i e;cases h;(simp only[zc,Op.equalIn,Sem.run_bind,zr hE e,Result.andThen_ok,Sem.run_pure])<;>first|done|rfl|simp
   .rename_i elem a i b j e;split at h
    .cases h
    .cases h
    .rename_i n hn;split at h
     .split at h
      .rename_i hb;rw[zu,beq_iff_eq]at hb;cases h;subst hb
       have X:(sameAddr (c.addr a i) (c.addr a j)).run E.P w = .ok (Nat.beq i j) w:=by
        have U:(c.addr a i==c.addr a j)=Nat.beq i j:=by
         rw[zu,Bool.eq_iff_iff,beq_iff_eq,beq_iff_eq];simp[Inj.addr]
        unfold sameAddr;rw[U];simp[Inj.addr]
       simp[zc,Op.equalIn,zr hE e,qx hE hn,X]
      .cases h
     .cases h
   .rename_i e;cases h;(simp only[zc,Op.equalIn,Sem.run_bind,zr hE e,Result.andThen_ok,Sem.run_pure])<;>first|done|rfl|simp
   .rename_i e;cases h;(simp only[zc,Op.equalIn,Sem.run_bind,zr hE e,Result.andThen_ok,Sem.run_pure])<;>first|done|rfl|simp
   .rename_i e;cases h;(simp only[zc,Op.equalIn,Sem.run_bind,zr hE e,Result.andThen_ok,Sem.run_pure])<;>first|done|rfl|simp
   .rename_i e;cases h;(simp only[zc,Op.equalIn,Sem.run_bind,zr hE e,Result.andThen_ok,Sem.run_pure])<;>first|done|rfl|simp
   .rename_i e;cases h;(simp only[zc,Op.equalIn,Sem.run_bind,zr hE e,Result.andThen_ok,Sem.run_pure])<;>first|done|rfl|simp
   .rename_i e;cases h;(simp only[zc,Op.equalIn,Sem.run_bind,zr hE e,Result.andThen_ok,Sem.run_pure])<;>first|done|rfl|simp
   .rename_i e;cases h;(simp only[zc,Op.equalIn,Sem.run_bind,zr hE e,Result.andThen_ok,Sem.run_pure])<;>first|done|rfl|simp
   .rename_i e;cases h;(simp only[zc,Op.equalIn,Sem.run_bind,zr hE e,Result.andThen_ok,Sem.run_pure])<;>first|done|rfl|simp
   .rename_i e;cases h;(simp only[zc,Op.equalIn,Sem.run_bind,zr hE e,Result.andThen_ok,Sem.run_pure])<;>first|done|rfl|simp
   .rename_i e;cases h;(simp only[zc,Op.equalIn,Sem.run_bind,zr hE e,Result.andThen_ok,Sem.run_pure])<;>first|done|rfl|simp
   .rename_i e;cases h;(simp only[zc,Op.equalIn,Sem.run_bind,zr hE e,Result.andThen_ok,Sem.run_pure])<;>first|done|rfl|simp
   .rename_i e;cases h;(simp only[zc,Op.equalIn,Sem.run_bind,zr hE e,Result.andThen_ok,Sem.run_pure])<;>first|done|rfl|simp
   .rename_i e;cases h;(simp only[zc,Op.equalIn,Sem.run_bind,zr hE e,Result.andThen_ok,Sem.run_pure])<;>first|done|rfl|simp
   .rename_i e;cases h;(simp only[zc,Op.equalIn,Sem.run_bind,zr hE e,Result.andThen_ok,Sem.run_pure])<;>first|done|rfl|simp
   .rename_i e;cases h;(simp only[zc,Op.equalIn,Sem.run_bind,zr hE e,Result.andThen_ok,Sem.run_pure])<;>first|done|rfl|simp
   .rename_i e;cases h;(simp only[zc,Op.equalIn,Sem.run_bind,zr hE e,Result.andThen_ok,Sem.run_pure])<;>first|done|rfl|simp
   .rename_i e;cases h;(simp only[zc,Op.equalIn,Sem.run_bind,zr hE e,Result.andThen_ok,Sem.run_pure])<;>first|done|rfl|simp
   .rename_i e;cases h;(simp only[zc,Op.equalIn,Sem.run_bind,zr hE e,Result.andThen_ok,Sem.run_pure])<;>first|done|rfl|simp
   .rename_i ms N Z tb Y e;split at h
    .rename_i hb;cases h
     have p:N≠tb:=by
      intro G;rw[G,zu]at hb;simp at hb
     simp[zc,Op.equalIn,zr hE e,p]
    .rename_i hb;rw[zu,beq_iff_eq]at hb;subst hb;split at h
     .cases h
     .rename_i i hi;split at h
      .rename_i hc;have:=m _ _ _ _ h hx l d v;simp[zc,Op.equalIn,zr hE e,yl hE hi,hc,this]
      .cases h
   .rename_i z xs g e;split at h
    .cases h
    .rename_i hp;have L:=yf hE e;have M:E.P.fieldsOf t=z:=by simp[Program.fieldsOf,L]
     rw[zc,zc,run_equalIn_struct w d t _ _ (by rw[M];exact L) (by simpa using hp),M];exact B _ _ _ _ h hx l d v
   .rename_i n elem xs g e;split at h
    .cases h
    .rename_i s hs;obtain⟨i,h1,h2,h3,h4⟩:=Qy hE hs;rw[zc,zc,run_equalIn_array w d _ _ (yf hE e) h1];have:E.P.cellsOf elem=s:=by simp[Program.cellsOf,h1,h3]
     rw[this];exact A _ _ _ _ _ _ h hx l d v
   .cases h
  .intro z xs g r h hx l d hd
   cases z with
   | nil=>simp only[Jr]at h;cases h;simp[Op.eqFields]
   | cons T z=>
    simp only[Jr]at h;obtain⟨h1,h⟩:=yI h;obtain⟨a,I,h⟩:=ze h;obtain⟨b,hb,h⟩:=ze h;obtain⟨q,hq,h⟩:=ze h;obtain⟨D,K⟩:=Zt hE I hx w;obtain⟨C,J⟩:=Zt hE hb l w;have o:=m _ _ _ _ hq K J d (by omega);have p:T.name ≠ "_" := by simpa using h1
    simp only[Op.eqFields,p,ne_eq,not_false_eq_true,if_true,Sem.run_bind,D,C,Result.andThen_ok,o]
    cases q with
    | true=>simpa using B _ _ _ _ h hx l d (by omega)
    | false=>cases h;simp
  .intro e s is xs g r h hx l d hd
   cases is with
   | nil=>simp only[YZ]at h;cases h;simp[Op.eqItems]
   | cons i is=>
    simp only[YZ]at h;obtain⟨a,I,h⟩:=ze h;obtain⟨b,hb,h⟩:=ze h;obtain⟨q,hq,h⟩:=ze h;obtain⟨D,K⟩:=Zt hE I hx w;obtain⟨C,J⟩:=Zt hE hb l w;have o:=m _ _ _ _ hq K J d (by omega);have D:(part e (zf c xs).toArray (i*s)).run E.P w = .ok (zc c a) w:=D;have C:(part e (zf c g).toArray (i*s)).run E.P w = .ok (zc c b) w:=C;simp only[Op.eqItems,Sem.run_bind,D,C,Result.andThen_ok,o]
    cases q with
    | true=>simpa using A _ _ _ _ _ _ h hx l d (by omega)
    | false=>cases h;simp
theorem jz(op:BinOp)(t:TypeId)(x y:Operand)(a b:Value)(w:World)(c:(match a with|.nilIface=>false|.agg _=>false|_=>true)=true) :
  (eqGuard op t x y a b).run E.P w = .ok () w:=by
 have _:=hE;unfold eqGuard;cases op<;>first|rfl|(cases a<;>first|rfl|(simp at c;done)|simp)
theorem zd1(op:BinOp)(t:TypeId)(x y:Operand)(b:Value)(w:World)(h:ifB (isConst x) true (isConst y)=true) :
  (eqGuard op t x y .nilIface b).run E.P w = .ok () w:=by
 have _:=hE
 have hc:(isConst x||isConst y)=true:=by
  rw[zl]at h;cases hx:isConst x
  .rw[hx]at h;simpa using h
  .rfl
 unfold eqGuard;cases op<;>first|rfl|(cases b<;>first|rfl|(cases x<;>cases y<;>first|rfl|(simp[isConst]at hc)))
omit hE in
theorem binOp_eql(t:TypeId)(x y:Value)(h:zcr x=true):Go.binOp .eql t x y=(do pure (.bool (<- Op.equal t x y)):Sem Value):=by
 cases x<;>first|(simp[zcr]at h;done)|rfl
omit hE in
theorem binOp_neq(t:TypeId)(x y:Value)(h:zcr x=true):Go.binOp .neq t x y=(do pure (.bool (!(<- Op.equal t x y))):Sem Value):=by
 cases x<;>first|(simp[zcr]at h;done)|rfl
theorem zfI{l:Inj}(hF:zC E l){w:World}{op:BinOp}{t:TypeId}{x y:Operand}{a b v:zb}(h:zjK E op t a b=some v) :
  (do eqGuard op t x y (zc l a) (zc l b);Go.binOp op t (zc l a) (zc l b)).run E.P w = .ok (zc l v) w/\WF l v:=by
 unfold zjK at h
 cases hb:findF (zcS op a b) E.facts with
 | some r=>
  rw[hb,zd]at h;cases h;obtain⟨f,z,e⟩:=qu hb;obtain⟨h1,h2,h3,B,A⟩:=WN e (hF _ z);refine⟨?_,h3⟩
  rw[Sem.run_bind,jz hE op t x y _ _ w B,Result.andThen_ok,A]
 | none=>
  rw[hb,zm]at h;replace h:=ze h;obtain⟨g,c,h⟩:=h;replace h:=ze h;obtain⟨r,i,h⟩:=h;cases h;refine⟨?_,by rw[kS];trivial⟩;replace i:=ze i;obtain⟨C,hd,i⟩:=i;replace i:=ze i;obtain⟨sh,hs,i⟩:=i;obtain⟨f,z,e⟩:=qu i;obtain rfl:=zkA e;obtain⟨h1,h2,h3⟩:=hF _ z;unfold zmM at c;rcases h3 with⟨rfl,k,m,n,j,p,rfl⟩|⟨rfl,s,u,j,p,rfl⟩|⟨rfl,s,u,j,p,rfl⟩
  rotate_left 2
  .cases C<;>simp[shapeOf]at hs
   have o:∀d (s u:Bool),(Op.equalIn (d+1) t (.bool s) (.bool u)).run E.P w = .ok (s==u) w:=by
    intro d s u;simp[Op.equalIn,zr hE hd]
   rw[Sem.run_bind,jz hE op t x y _ _ w (by rw[j]),Result.andThen_ok,j,p]
   have heq:(Op.equal t (.bool s) (.bool u)).run E.P w = .ok (s==u) w:=by
    exact o 9999 s u
   split at c
   .cases c;rw[binOp_eql _ _ _ rfl,Sem.run_bind,heq];cases s<;>cases u<;>rfl
   .cases c;rw[binOp_neq _ _ _ rfl,Sem.run_bind,heq];cases s<;>cases u<;>rfl
   .cases c
  .rw[Sem.run_bind,jz hE op t x y _ _ w (by rw[j]),Result.andThen_ok,j,p];split at c
   .cases c;simp[Go.binOp,Op.intCmp,zc]
   .cases c;simp[Go.binOp,Op.intCmp,zc,qI];rfl
   .cases c
  .rw[Sem.run_bind,jz hE op t x y _ _ w (by rw[j]),Result.andThen_ok,j,p];split at c
   .cases c;simp[Go.binOp,Op.stringOp,zc,Yi]
   .cases c;simp[Go.binOp,Op.stringOp,zc,qI,Yi]
   .cases c
theorem zlF{d:Inj}(hF:zC E d){H:Heap}{w:World}{op:BinOp}{t:TypeId}{x y:Operand}{a b v:zb}(h:zxC E H op t x y a b=some v)(B:WF d a)(hb:WF d b) :
  (do eqGuard op t x y (zc d a) (zc d b);Go.binOp op t (zc d a) (zc d b)).run E.P w = .ok (zc d v) w/\WF d v:=by
 unfold zxC at h;rw[zl]at h;split at h
 case isFalse=>exact zfI hE hF h
 rename_i g;have e:=g;rw[zk,qI,qI,Bool.and_eq_true]at e
 cases hi:asInt a with
 | some p=>
  obtain rfl:=jr hi;rw[Sem.run_bind,jz hE op t x y _ _ w rfl,Result.andThen_ok];rw[hi,zd]at h
  cases o:asInt b with
  | some q=>
   obtain rfl:=jr o;rw[o,zd]at h
   exact zeA h t d w
  | none=>
   rw[o,zm]at h;obtain⟨h1,h⟩:=zg h;have h1:=Zd h1;cases b<;>simp only[zv0]at h<;>first|(cases h;done)|skip
   rename_i q c;obtain⟨h2,h⟩:=zg h
   cases hm:p.2 with
   | negSucc m=>rw[hm]at h;cases h
   | ofNat m=>
    rw[hm]at h;obtain⟨h3,h⟩:=zg h;cases h;rw[zG,decide_eq_true_eq]at h3;cases op<;>simp[zvP]at h2;refine⟨?_,trivial⟩;rw[h1];simp[zc,Go.binOp,Op.intCmp]
    omega
 | none=>
  rw[hi,zm]at h;unfold zv4 at h
  cases hs:jm a with
  | some s=>
   obtain rfl:=qG hs;rw[hs,zd]at h;obtain⟨u,C,h⟩:=ze h;obtain rfl:=qG C;rw[Sem.run_bind,jz hE op t x y _ _ w rfl,Result.andThen_ok]
   exact znv h B hb t d w
  | none=>
   rw[hs,zm]at h;obtain⟨f,n,h⟩:=ze h;obtain⟨z,h⟩:=zg h;obtain⟨r,k,h⟩:=ze h;cases h;have heq:=(UC hE d hF H w 10000).1 _ _ _ _ k B hb Op.maxDepth (by decide);refine⟨?_,by rw[kS];trivial⟩
   have guard:(eqGuard op t x y (zc d a) (zc d b)).run E.P w = .ok () w:=by
    cases a
    case agg l=>
     have A:∃m,b = .agg m:=by
      cases b<;>first|exact⟨_,rfl⟩|(exfalso;unfold Yu at k;rw[g,qK]at k;clear g e;split at k<;>simp_all)
     obtain⟨m,rfl⟩:=A;simp only[zfd,qI,Bool.not_eq_true']at z;exact run_eqGuard_agg w op t x y _ _ z
    case niliface=>exact zd1 hE op t x y (zc d b) w z
    case sym i=>exact absurd e.1 (by simp[Ya])
    all_goals exact jz hE op t x y _ _ w rfl
   rw[Sem.run_bind,guard,Result.andThen_ok]
   have hx:zcr (zc d a)=true:=by
    cases a
    case sym i=>simp[Ya]at e
    all_goals first|rfl|(cases hi;done)|(cases hs;done)|(exfalso;unfold Yu at k;rw[g,qK]at k;clear g e;split at k<;>simp_all;done)
   have j:(Op.equal t (zc d a) (zc d b)).run E.P w = .ok r w:=heq;unfold zmM at n;split at n
   .cases n;rw[binOp_eql _ _ _ hx];simp[j,zc]
   .cases n;rw[binOp_neq _ _ _ hx];simp[j,zc,qI]
   .cases n
end
end
section
variable[Unk]
def qh(P:Program)(β:Inj)(w:World)(m:Sem Value)(v:zb):Prop:=m.run P w = .ok (zc β v) w/\WF β v
theorem Uh{a:Type}{v:Option zb}{d m:Nat}{f:Nat->Option a}{r:a}(h:jw v d m f=some r) :
  (v=none/\f d=some r)\/∃k n,v=some (.int k (.ofNat n))/\n<=m/\f n=some r:=by
 cases v with
 | none=>exact .inl ⟨rfl,h⟩
 | some v=>
  obtain⟨i,hi,h⟩:=ze h;obtain⟨k,rfl⟩:=JP hi
  cases i with
  | negSucc n=>cases h
  | ofNat n=>
   obtain⟨h1,h⟩:=zg h;rw[zG,decide_eq_true_eq]at h1;exact .inr ⟨k,n,rfl,h1,h⟩
theorem WH{P:Program}{w:World}{β:Inj}(k:IntKind){n m:Nat}(h:n<=m)(c:BoundsCode) :
  (Instr.sliceBound (zc β (.int k (.ofNat n))) m c).run P w = .ok n w:=by
 unfold Instr.sliceBound;simp[zc,asIntOf];omega
theorem Qf{P : Program}{w : World}{β : Inj}{isSlice : Bool}{len cap cap' : Nat}{lo hi mx : Option zb}{α : Type}{f : Nat -> Nat -> Nat -> Option α}{r : α}
    (ho : zqg hi mx = true) (hc : cap <= cap') (hl : len <= cap) (h : (jw mx cap cap fun m => jw hi len m fun h => jw lo 0 h fun l => f m h l) = some r) :
    ∃m h l, f m h l = some r /\ l <= h /\ h <= m /\ m <= cap /\
      (Instr.sliceBounds isSlice len cap' (lo.map (zc β)) (hi.map (zc β)) (mx.map (zc β))).run P w = .ok (l, h, if mx.isSome then m else cap') w /\ (mx = none -> m = cap) := by
  have low : ∀m h, (jw lo 0 h fun l => f m h l) = some r -> ∃l, f m h l = some r /\ l <= h /\
      ∀c K, (match lo.map (zc β) with
        | some v => do
          let l <- Instr.sliceBound v h c
          pure (l, h, K)
        | none => do
          let l <- pure 0
          pure (l, h, K) : Sem (Nat × Nat × Nat)).run P w = .ok (l, h, K) w := by
    intro m h hh;rcases Uh hh with⟨e, hh⟩|⟨k3, l, e, h3, hh⟩
    · exact⟨0, hh, zero_le _, fun c K => by rw[e]; rfl⟩
    · refine⟨l, hh, h3, fun c K => ?_⟩
      rw[e, Option.map_some];simp only[Sem.run_bind, WH k3 h3 c, Result.andThen_ok, Sem.run_pure]
  rcases Uh h with⟨b, h⟩|⟨j, m, b, h1, h⟩
  · rcases Uh (show(jw hi len cap fun h => jw lo 0 h fun l => f cap h l) = some r from h) with⟨a, h⟩|⟨k2, n, a, h2, h⟩
    · obtain⟨l, g1, g, d⟩ := low _ _ h
      refine⟨cap, len, l, g1, g, hl, Nat.le_refl _, ?_, fun _ => rfl⟩;subst b; subst a;simp only[Instr.sliceBounds, Option.map_none, Sem.run_bind, Sem.run_pure, Result.andThen_ok, Option.isSome_none];exact d _ _
    · obtain⟨l, g1, g, d⟩ := low _ _ h
      refine⟨cap, n, l, g1, g, h2, Nat.le_refl _, ?_, fun _ => rfl⟩;subst b; subst a;simp only[Instr.sliceBounds, Option.map_none, Option.map_some, Sem.run_bind, Sem.run_pure, Result.andThen_ok, WH k2 (Nat.le_trans h2 hc), Option.isSome_none];exact d _ _
  · rcases Uh (show(jw hi len m fun h => jw lo 0 h fun l => f m h l) = some r from h) with⟨a, h⟩|⟨k2, n, a, h2, h⟩
    · subst b; subst a; simp[zqg] at ho
    · obtain⟨l, g1, g, d⟩ := low _ _ h
      refine⟨m, n, l, g1, g, h2, h1, ?_, fun e => by rw[b] at e; cases e⟩;subst b; subst a;simp only[Instr.sliceBounds, Option.map_some, Sem.run_bind, Result.andThen_ok, WH j (Nat.le_trans h1 hc), WH k2 h2, Option.isSome_some];exact d _ _
theorem zmk{b off h l m a:Nat}{ex:Bool}{v:zb}(hh:KU b off h l m a ex=some v) :
  (m=l/\ex=true/\v = .slice b off (h-l) (m-l) true)\/(m=l/\ex=false/\v = .esl b off (off+l*a))\/(m≠l/\v = .slice b (off+l*a) (h-l) (m-l) ex):=by
 unfold KU at hh;rw[zl,zu]at hh;by_cases e:m=l
 .rw[if_pos (by simp[e])]at hh
  cases ex with
  | true=>cases hh;exact .inl ⟨e,rfl,rfl⟩
  | false=>cases hh;exact .inr (.inl ⟨e,rfl,rfl⟩)
 .rw[if_neg (by simp[e])]at hh;cases hh;exact .inr (.inr ⟨e,rfl⟩)
section
variable{E:Env}(hE:yg E)
include hE
omit hE in
theorem VQ{o:Option zb}(h:isZ o=true):o=none\/∃k,o=some (.int k 0):=by
 cases o with
 | none=>exact .inl rfl
 | some v=>
  replace h:zh (Wv v) false (fun i=>zah i (.ofNat 0))=true:=h
  cases hv:Wv v with
  | none=>rw[hv]at h;cases h
  | some i=>
   rw[hv,zd,QA,beq_iff_eq]at h;obtain⟨k,rfl⟩:=JP hv;subst h;exact .inr ⟨k,rfl⟩
theorem zfG{β : Inj}(hF : zC E β){w : World}{t : TypeId}(hd : E.desc t = some .string){x : zb}{lo hi mx : Option zb}{v : zb}(h : zjJ E x lo hi mx = some v) :
    qh E.P β w (Instr.sliceAt t (zc β x) (lo.map (zc β)) (hi.map (zc β)) (mx.map (zc β))) v := by
  unfold zjJ at h
  cases mx with
  | some m => cases h
  | none =>
    cases hi with
    | none => cases h
    | some hh =>
      simp only[zm, zd] at h
      have key : ∀l, findF (zqM x l hh) E.facts = some v -> (lo = some l \/ (lo = none /\ l = .int .i64 (.ofNat 0))) ->
          qh E.P β w (Instr.sliceAt t (zc β x) (lo.map (zc β)) ((some hh).map (zc β)) ((none : Option zb).map (zc β))) v := by
        intro l h hl;obtain⟨f, hf, e⟩ := qu h;have := ztv e;subst this;obtain⟨h1, h2, h3, y, s, j, n, k, m, A, a, z, D, g, d⟩ := hF _ hf;refine⟨?_, y⟩
        have u : ∀c M, m <= M -> (Instr.sliceBound (.int k (Int.ofNat m)) M c).run E.P w = .ok m w := by
          intro c M C;unfold Instr.sliceBound;simp[asIntOf];omega
        have B : ∀c, (Instr.sliceBound (.int j (Int.ofNat n)) m c).run E.P w = .ok n w := by
          intro c;unfold Instr.sliceBound;simp[asIntOf];omega
        unfold Instr.sliceAt;rw[Sem.run_bind, zr hE hd];simp only[Result.andThen_ok];unfold Instr.slice;rw[Sem.run_bind, zr hE hd];simp only[Result.andThen_ok, A, Option.map_some, Option.map_none, z];rcases hl with rfl|⟨rfl, rfl⟩
        · simp only[Option.map_some, Option.isSome_none, Bool.false_eq_true, if_false, a, Instr.sliceBounds, Sem.run_bind, Sem.run_pure, Result.andThen_ok, u _ _ g, B, d]
        · have hn : n = 0 := by
            simp only[zc] at a;injection a with a b;have := Int.ofNat.inj b;omega
          subst hn;simp only[Option.map_none, Option.isSome_none, Bool.false_eq_true, if_false, Instr.sliceBounds, Sem.run_bind, Sem.run_pure, Result.andThen_ok, u _ _ g, d]
      cases lo with
      | none => exact key _ h (.inr ⟨rfl, rfl⟩)
      | some l => exact key _ h (.inl rfl)
theorem yV{β:Inj}{w:World}{t e:TypeId}{g:Nat}(hd:E.desc t=some (.slice e))(c:E.size e=some g){s:Sl}{lo hi mx:Option zb}{v:zb}(j:zqg hi mx=true)
  (h:Kt s g lo hi mx=some v) (hx:WF β (.slice s.b s.off s.len s.cap s.ex)) :
  qh E.P β w (Instr.slice t (zc β (.slice s.b s.off s.len s.cap s.ex)) (lo.map (zc β)) (hi.map (zc β)) (mx.map (zc β))) v:=by
 unfold qh Instr.slice;rw[Sem.run_bind,zr hE hd];have hl:=hx.2;obtain⟨m,hh,l,y,A,x,z,u,d⟩:=Qf (P:=E.P) (w:=w) (β:=β) (isSlice:=true) (cap':=if s.ex then s.cap else s.cap+β.ext s.b) j (by split<;>omega) hl h;simp only[zc,Result.andThen_ok,Sem.run_bind,u,qx hE c,Sem.run_pure];rcases zmk y with⟨g1,a,rfl⟩|⟨g1,a,rfl⟩|⟨g1,rfl⟩
 .refine⟨?_,⟨hx.1,by omega⟩⟩
  cases mx with
  | none=>
   have:=d rfl;rw[zm]at a;simp only[a,Option.isSome_none,Bool.false_eq_true,if_false,if_true,zc]
   rw[if_pos (by omega),this]
  | some mx=>
   simp only[Option.isSome_some,if_true,zc];rw[if_pos g1]
 .refine⟨?_,hx.1⟩
  cases mx with
  | some mx=>rw[zd]at a;cases a
  | none=>
   have:=d rfl;rw[zm]at a;simp only[a,Option.isSome_none,Bool.false_eq_true,if_false,zc,Option.map_some,Inj.jF];by_cases he:β.ext s.b=0
   .rw[if_pos (by omega),if_pos he];congr 2<;>omega
   .rw[if_neg (by omega),if_neg he];congr 2<;>omega
 .refine⟨?_,⟨hx.1,by omega⟩⟩
  cases mx with
  | none=>
   have:=d rfl;rw[this]at g1 x ⊢;simp only[Option.isSome_none,Bool.false_eq_true,if_false,zc,zm,Option.map_some,Inj.jF];cases hex:s.ex
   .simp only[Bool.false_eq_true,if_false];rw[if_neg (by omega)];congr 2
    omega
   .simp only[if_true]
    rw[if_neg g1]
  | some mx=>
   simp only[Option.isSome_some,if_true,zc,zd,Option.map_some,Inj.jF];rw[if_neg g1]
omit hE in
theorem zja{v:zb}{q:Nat}(h:zfo v=some q):v = .sym q:=by cases v<;>cases h;rfl
omit hE in
theorem VP{β:Inj}(hF:zC E β){q:Nat}{n:Nat×Nat}(h:findF (zqT q) E.facts=some n):WF β (.sym q)/\∃N:Nat,zc β (.sym q) = .int .i64 (N:Int)/\n.1<=N/\N<=n.2:=by
 obtain⟨f,hf,e⟩:=qu h;cases f<;>try cases e
 rename_i p lo hi;obtain⟨h1,h2⟩:=zg e;rw[zu,beq_iff_eq]at h1;subst h1;cases h2;exact hF _ hf
omit hE in
theorem zic{β:Inj}(hF:zC E β){q m r:Nat}(h:findF (zqW q m) E.facts=some r):WF β (.sym q)/\WF β (.sym r)/\∃N:Nat,zc β (.sym q) = .int .i64 (N:Int)/\m<=N/\zc β (.sym r) = .int .i64 ((N-m:Nat):Int):=by
 obtain⟨f,hf,e⟩:=qu h;cases f<;>try cases e
 rename_i p k r';obtain⟨h1,h2⟩:=zg e;rw[zk,Bool.and_eq_true,zu,zu,beq_iff_eq,beq_iff_eq]at h1;obtain⟨h1,h3⟩:=h1;subst h1;subst h3;cases h2;exact hF _ hf
theorem zcb{β:Inj}(hF:zC E β){w:World}{t e:TypeId}{a:Nat}(hd:E.desc t=some (.slice e))(g:E.size e=some a){p:Psl}{lo hi mx:Option zb}{v x:zb}(X:zqg hi mx=true)
  (h:zcc E p a lo hi mx=some v) (ex:x = .psl p.b p.o p.q p.c p.ex) (hx:WF β x) :
  qh E.P β w (Instr.slice t (zc β x) (lo.map (zc β)) (hi.map (zc β)) (mx.map (zc β))) v:=by
 subst ex;obtain⟨z,w2,N,y,D⟩:=hx
 have J:zc β (.psl p.b p.o p.q p.c p.ex)=zc β (.slice p.b p.o N p.c p.ex):=by
  simp only[zc];rw[y];rfl
 have d:WF β (.slice p.b p.o N p.c p.ex):=⟨z,D⟩
 rw[J];unfold zcc at h
 cases mx with
 | some m=>cases h
 | none=>
  rw[zm]at h
  cases hi with
  | some hh=>
   rw[zd]at h
   exact yV (s:=⟨p.b,p.o,N,p.c,p.ex⟩) hE hd g rfl h d
  | none=>
   rw[zm,zl]at h;split at h
   .rename_i u;cases h;rw[zk,Bool.and_eq_true,zN,decide_eq_true_eq]at u;obtain⟨u,hc⟩:=u
    have key:Kt ⟨p.b,p.o,N,p.c,p.ex⟩ a lo none none=some (.slice p.b p.o N p.c p.ex):=by
     have H:KU p.b p.o N 0 p.c a p.ex=some (.slice p.b p.o N p.c p.ex):=by
      unfold KU;rw[zl,zu,if_neg (by simp;omega)];simp only[zY];show some (zb.slice p.b (p.o+0*a) (N-0) (p.c-0) p.ex)=_;simp
     rcases VQ u with rfl|⟨k,rfl⟩
     .exact H
     .exact H
    obtain⟨g1,T⟩:=yV (w:=w) hE hd g rfl key d;exact⟨by rw[J];exact g1,⟨z,w2,N,y,D⟩⟩
   .obtain⟨l,B,h'⟩:=ze h;clear h;subst B;obtain⟨i,C,h⟩:=ze h';clear h';obtain⟨k,rfl⟩:=JP C
    cases i with
    | negSucc m=>cases h
    | ofNat m=>
    replace h:(bnd (findF (zqT p.q) E.facts) fun n=>ifB (zn (blt m p.c) (Nat.ble m n.1)) (bnd (findF (zqW p.q m) E.facts) fun q=>frc (Nat.add p.o (Nat.mul m a)) fun o=>frc (Nat.sub p.c m) fun c=>some (zb.psl p.b o q c p.ex)) none)=some v:=h;obtain⟨n,hn,h⟩:=ze h;obtain⟨hc,h⟩:=zg h;simp only[zk,Bool.and_eq_true,zN,zG,decide_eq_true_eq]at hc;obtain⟨Q,O⟩:=hc;obtain⟨M,A,h⟩:=ze h;simp only[zY]at h;cases h;obtain⟨U,L,k2,k3,k4⟩:=VP hF hn;obtain⟨d1,d2,K,d3,Y,I⟩:=zic hF A;have G:qe ((β p.q).getD (0,0,0)) = .int .i64 (L:Int):=k2;have j:qe ((β p.q).getD (0,0,0)) = .int .i64 (K:Int):=d3;rw[y]at G j;have h1:N=L:=by injection G with _ e;omega
    have h2:N=K:=by injection j with _ e;omega
    subst h1;subst h2
    have key:Kt ⟨p.b,p.o,N,p.c,p.ex⟩ a (some (.int k (.ofNat m))) none none=some (.slice p.b (p.o+m*a) (N-m) (p.c-m) p.ex):=by
     show(jw (some (.int k (.ofNat m))) 0 N fun l=>KU p.b p.o N l p.c a p.ex)=_;show ifB (Nat.ble m N) (KU p.b p.o N m p.c a p.ex) none=_;rw[zl,zG,if_pos (decide_eq_true (by omega))];unfold KU;rw[zl,zu,if_neg (by simp;omega)];simp only[zY];rfl
    obtain⟨g1,T⟩:=yV (w:=w) hE hd g rfl key d;refine⟨?_,⟨z,d2,N-m,I,by show N-m<=p.c-m;omega⟩⟩;rw[g1];simp only[zc];rw[show qe ((β M).getD (0,0,0)) = .int .i64 ((N-m:Nat):Int) from I];rfl
theorem zgz{β:Inj}(hF:zC E β){w:World}{t:TypeId}{x:zb}{lo hi mx:Option zb}{v:zb}(h:zse E t x lo hi mx=some v)(hx:WF β x) :
  qh E.P β w (Instr.sliceAt t (zc β x) (lo.map (zc β)) (hi.map (zc β)) (mx.map (zc β))) v:=by
 obtain⟨D,h⟩:=zg h;obtain⟨d,hd,h⟩:=ze h;unfold qh Instr.sliceAt;rw[Sem.run_bind,zr hE hd]
 cases h1:j8 d with
 | some e=>
  obtain rfl:=jJ h1;rw[h1,zd]at h;obtain⟨J,a,h⟩:=ze h;simp only[Result.andThen_ok]
  cases h2:kN x with
  | some s=>
   obtain rfl:=jP h2;rw[h2,zd]at h
   cases h4:bnd hi zfo with
   | none=>
    rw[h4,zm]at h
    exact yV hE hd a D h hx
   | some q0=>
    rw[h4,zd]at h;unfold zhu at h
    cases mx with
    | some m=>cases h
    | none=>
     rw[zm]at h;obtain⟨hh,G,h'⟩:=ze h;clear h;subst G;obtain⟨q,hq,g⟩:=ze h';obtain rfl:=zja hq;obtain⟨n,hn,g⟩:=ze g;obtain⟨hc,g⟩:=zg g;cases g;simp only[zk,Bool.and_eq_true,zN,zG,decide_eq_true_eq]at hc;obtain⟨K,hc1,hc2⟩:=hc;obtain⟨Q,N,k2,k3,k4⟩:=VP hF hn
     have key:Kt s J lo (some (.int .i64 (.ofNat N))) none=some (.slice s.b s.off N s.cap s.ex):=by
      have u:∀f:Nat->Option zb,jw (some (.int .i64 (.ofNat N))) s.len s.cap f=f N:=fun f=>by
       show ifB (Nat.ble N s.cap) (f N) none=f N;rw[zl,zG,if_pos (decide_eq_true (by omega))]
      have z:KU s.b s.off N 0 s.cap J s.ex=some (.slice s.b s.off N s.cap s.ex):=by
       unfold KU;rw[zl,zu,if_neg (by simp;omega)];simp only[zY];show some (zb.slice s.b (s.off+0*J) (N-0) (s.cap-0) s.ex)=_;simp
      show(jw (some (.int .i64 (.ofNat N))) s.len s.cap fun h=>jw lo 0 h fun l=>KU s.b s.off h l s.cap J s.ex)=_;rw[u];rcases VQ K with rfl|⟨k,rfl⟩
      .exact z
      .exact z
     obtain⟨g1,Y⟩:=yV (w:=w) hE hd a (lo:=lo) (hi:=some (.int .i64 (.ofNat N))) (mx:=none) rfl key hx;have I:zc β (.int .i64 (.ofNat N))=zc β (.sym q):=by rw[k2];rfl
     refine⟨?_,⟨hx.1,Q,N,k2,by omega⟩⟩;simp only[Option.map_some,I]at g1 ⊢;rw[g1];simp only[zc];rw[show qe ((β q).getD (0,0,0)) = .int .i64 (N:Int) from k2]
     rfl
  | none=>
   rw[h2,zm]at h
   cases h3:ke x with
   | false=>
    rw[h3,kT]at h
    cases C:QQ x with
    | none=>
     rw[C,zm]at h
     cases hp:zfp x with
     | some p=>
      rw[hp,zd]at h
      exact zcb hE hF hd a D h (zdK hp) hx
     | none=>
      rw[hp,zm]at h;unfold zht at h
      cases mx with
      | some m=>cases h
      | none=>
       rw[zm]at h;obtain⟨K,g⟩:=zg h;obtain⟨hh,G,hR⟩:=ze g;subst G;obtain⟨f,hf,e0⟩:=qu hR;obtain rfl:=zqN e0;obtain⟨_,_,X,Z,n0,c0,j0,T,u,z,I,H⟩:=hF _ hf
       have b1:∀c,(Instr.sliceBound (.int j0 (Int.ofNat T)) c0 c).run E.P w = .ok T w:=by
        intro c;unfold Instr.sliceBound;simp[asIntOf];omega
       have b2:∀j c,(Instr.sliceBound (.int j 0) T c).run E.P w = .ok 0 w:=by
        intro j c;unfold Instr.sliceBound;simp[asIntOf]
       refine⟨?_,X⟩;unfold Instr.slice;rw[Sem.run_bind,zr hE hd];rcases VQ K with rfl|⟨j,rfl⟩
       .simp only[u,z,Option.map_some,Option.map_none,Option.isSome_none,Bool.false_eq_true,if_false,if_true,Instr.sliceBounds,Sem.run_bind,Sem.run_pure,Result.andThen_ok,b1,qx hE a,H];split<;>cases Z<;>simp[Addr.add]
       .simp only[u,z,zc,Option.map_some,Option.map_none,Option.isSome_none,Bool.false_eq_true,if_false,if_true,Instr.sliceBounds,Sem.run_bind,Sem.run_pure,Result.andThen_ok,b1,b2,qx hE a,H]
        split<;>cases Z<;>simp[Addr.add]
    | some p=>
    rw[C,zd]at h;have g:=h;obtain rfl:=JO C;unfold Instr.slice;rw[Sem.run_bind,zr hE hd];obtain⟨M,U,zhq,B,A⟩:=hx;obtain⟨K,g⟩:=zg g
    cases mx with
    | none=>
     rw[zm]at g
     cases hi with
     | some _=>cases g
     | none=>
      cases g
      have key:(jw (none:Option zb) (β.ext p.1) (β.ext p.1) fun m=>jw (none:Option zb) zhq.size m fun h=>jw lo 0 h fun l=>some (m,h,l))=some (β.ext p.1,zhq.size,0):=by
       rcases VQ K with rfl|⟨k,rfl⟩<;>rfl
      obtain⟨m,hh,l,u,z,I,H,y,O⟩:=Qf (P:=E.P) (w:=w) (β:=β) (isSlice:=true) (len:=zhq.size) (cap:=β.ext p.1) (cap':=β.ext p.1) (f:=fun m h l=>some (m,h,l)) D (Nat.le_refl _) A key;cases u;refine⟨?_,M,U,zhq,B,A⟩;simp only[zc,B,sOf,Result.andThen_ok,Sem.run_bind,y,qx hE a,Sem.run_pure,Option.isSome_none,Bool.false_eq_true,if_false,Option.map_some,Inj.jF]
      split<;>simp
    | some mx=>
     rw[zd]at g
     cases hi with
     | none=>cases g
     | some hi=>
      rw[zd]at g;obtain⟨L,g⟩:=zg g;cases g;rw[zk,Bool.and_eq_true]at L;obtain⟨hm,hh⟩:=L;rcases VQ hm with hm|⟨Q,hm⟩
      .cases hm
      .cases hm;rcases VQ hh with hh|⟨k2,hh⟩
       .cases hh
       .cases hh
        have key:(jw (some (zb.int Q 0)) (β.ext p.1) (β.ext p.1) fun m=>jw (some (zb.int k2 0)) zhq.size m fun h=>jw lo 0 h fun l=>some (m,h,l))=some (0,0,0):=by
         rcases VQ K with rfl|⟨k,rfl⟩<;>rfl
        obtain⟨m,hh,l,u,z,I,H,y,O⟩:=Qf (P:=E.P) (w:=w) (β:=β) (isSlice:=true) (len:=zhq.size) (cap:=β.ext p.1) (cap':=β.ext p.1) (f:=fun m h l=>some (m,h,l)) D (Nat.le_refl _) A key;cases u;refine⟨?_,M,Nat.le_refl _⟩
        simp only[zc,B,sOf,Result.andThen_ok,Sem.run_bind,y,qx hE a,Sem.run_pure,Option.isSome_some,if_true]
   | true=>
    rw[h3,qK]at h;have h':=h;clear h;obtain rfl:=jB h3;unfold Instr.slice;rw[Sem.run_bind,zr hE hd]
    obtain⟨m,hh,l,u,z,I,H,y,O⟩:=Qf (P:=E.P) (w:=w) (β:=β) (isSlice:=true) (len:=0) (cap:=0) (cap':=0) (f:=fun _ _ _=>some zb.nilslice) D (Nat.le_refl _) (Nat.le_refl _)
     (show zhv lo hi mx=some v from h')
    cases u;refine⟨?_,trivial⟩;have hm:m=0:=by omega
    simp only[zc,Result.andThen_ok,Sem.run_bind,y,qx hE a,Sem.run_pure];have h0:hh=0:=by omega
    have l0:l=0:=by omega
    subst h0 l0
    cases mx<;>simp[hm]
 | none=>
  rw[h1,zm]at h
  cases h2:Qp d with
  | some q=>
   obtain rfl:=Qo h2;rw[h2,zd]at h;obtain⟨J,a,h⟩:=ze h;obtain⟨p,hp,h⟩:=ze h;obtain rfl:=yz hp;obtain⟨m,hh,l,u,z,I,H,y,O⟩:=Qf (P:=E.P) (w:=w) (β:=β) (isSlice:=false) (cap':=q.1) (f:=fun m h l=>KU p.1 p.2 h l m J true) D (Nat.le_refl _) (Nat.le_refl _) h;simp only[zc,Result.andThen_ok,Sem.run_bind,Instr.sureAddr,y,qx hE a,Sem.run_pure]
   have hm:(if mx.isSome=true then m else q.1)=m:=by
    cases mx with
    | none=>simp[O rfl]
    | some _=>simp
   rw[hm];rcases zmk u with⟨g1,Y,rfl⟩|⟨g1,Y,rfl⟩|⟨g1,rfl⟩
   .exact⟨by simp[zc,g1],⟨hx,by omega⟩⟩
   .cases Y
   .exact⟨by simp[zc,g1,Inj.jF],⟨hx,by omega⟩⟩
  | none=>
   rw[h2,zm]at h;obtain⟨h3,h⟩:=zg h;obtain rfl:=js h3
   cases hs:jm x with
   | none=>
    rw[hs,zm]at h;have:=zfG (w:=w) hE hF hd h;unfold qh Instr.sliceAt at this;rw[Sem.run_bind,zr hE hd]at this
    exact this
   | some s=>
   rw[hs,zd]at h;have h':=h;clear h;obtain rfl:=qG hs;simp only[Result.andThen_ok];unfold Instr.slice;rw[Sem.run_bind,zr hE hd]
   cases mx with
   | some mx=>cases h'
   | none=>
    have h:(jw hi (qS s 0) (qS s 0) fun h=>jw lo 0 h fun l=>some (zb.str (zff l (zb4 h s))))=some v:=h'
    obtain⟨m,hh,l,u,z,I,H,y,O⟩:=Qf (P:=E.P) (w:=w) (β:=β) (isSlice:=false) (len:=s.length) (cap:=s.length) (cap':=s.length) (mx:=none) (lo:=lo) (hi:=hi)
     (f:=fun _ h l=>some (zb.str (zff l (zb4 h s)))) (r:=v) D (Nat.le_refl _) (Nat.le_refl _) (by rw[jE]at h;exact h)
    cases u
    have e7:(str s).extract l hh=str ((s.take hh).drop l):=by
     apply ByteArray.ext;apply Array.toList_inj.1;simp[str,drop_take,extract_eq_take_drop]
    simp only[zc,Result.andThen_ok,Option.map_none,Option.isSome_none,Bool.false_eq_true,if_false,qm]at y ⊢;refine⟨?_,fun b hb=>?_⟩
    .rw[Sem.run_bind,y];simp[e7]
    .rw[zdq,Ko]at hb;exact hx b (mem_of_mem_take (mem_of_mem_drop hb))
end
end
section
variable[Unk]
theorem YE{c:Type}{n:Nat}{s:Nat->Option c}{a:c}(h:qW n none s=some a):∃m,n=m+1/\s m=some a:=by
 cases n with
 | zero=>cases h
 | succ m=>exact⟨m,rfl,h⟩
theorem jj{c:Type}{i:Int}{f:Nat->Option c}{a:c}(h:We i f=some a):∃n,i = .ofNat n/\f n=some a:=by
 cases i with
 | ofNat n=>exact⟨n,rfl,h⟩
 | negSucc n=>cases h
theorem zc9{c:Type}{i:Int}{n:Nat}{f:Nat->Option c}{a:c}(h:inB i n f=some a):∃m,i = .ofNat m/\m<n/\f m=some a:=by
 cases i with
 | ofNat m=>
  replace h:=zg h;obtain⟨h1,h⟩:=h;rw[zN,decide_eq_true_eq]at h1
  exact⟨m,rfl,h1,h⟩
 | negSucc m=>cases h
section
variable{E:Env}(hE:yg E)
include hE
theorem zed{β:Inj}{w:World}{s:TypeId}{x v:zb}{i:Nat}{d:TypeDesc}{a:List Field}{c:Field}{p:Nat×Nat}
  (hd:E.desc s=some d) (hs:ZS d=some a) (hf:kY i a=some c) (hp:Yg x=some p) (h:zmJ E p.1 p.2 c=some v) (hx:WF β x) :
  qh E.P β w (Instr.fieldAt s (zc β x) i) v:=by
 obtain⟨f,rfl,rfl⟩:=Xv hs;obtain rfl:=yz hp;replace h:=ze h;obtain⟨n,hn,h⟩:=h;replace h:=YE h;obtain⟨m,rfl,h⟩:=h;cases h;rw[ye,getElem?_toList]at hf;refine⟨?_,hx⟩;unfold Instr.fieldAt fieldPlace;simp[zr hE hd,hf,zc,Instr.sureAddr,qx hE hn,Inj.jF]
theorem zaw{β:Inj}(hF:zC E β){w:World}{t:TypeId}{x g v:zb}(h:zdO E t x g=some v)(hx:WF β x) :
  qh E.P β w (Instr.indexAt t (zc β x) (zc β g)) v:=by
 replace h:=ze h;obtain⟨i,hi,h⟩:=h;obtain⟨k,rfl⟩:=JP hi;replace h:=ze h;obtain⟨d,hd,h⟩:=h
 cases h1:j8 d with
 | some e=>
  obtain rfl:=jJ h1;rw[h1,zd]at h;replace h:=ze h;obtain⟨s,hs,h⟩:=h
  cases hq:kN x with
  | some q=>
   rw[hq,zd]at h;obtain rfl:=jP hq;replace h:=zc9 h;obtain⟨m,rfl,hm,h⟩:=h;cases h;refine⟨?_,hx.1⟩;unfold Instr.indexAt
   simp[zr hE hd,zc,asIntOf,qx hE hs,Inj.jF,hm]
  | none=>
   rw[hq,zm]at h;obtain⟨p,hp,h⟩:=ze h;obtain rfl:=zdK hp;obtain⟨r,w2,N,f,u⟩:=hx;obtain⟨m,c,a⟩:=jj h;subst c;obtain⟨n,hn,a⟩:=ze a;obtain⟨hm,a⟩:=zg a;rw[zN,decide_eq_true_eq]at hm;cases a;obtain⟨y,o,k2,k3,k4⟩:=VP hF hn;have j:qe ((β p.q).getD (0,0,0)) = .int .i64 (o:Int):=k2;rw[f]at j;have h1:N=o:=by injection j with _ e;omega
   subst h1;have hlt:m<N:=by omega
   refine⟨?_,r⟩;unfold Instr.indexAt
   simp[zr hE hd,zc,asIntOf,qx hE hs,Inj.jF,f,zh6,hlt]
 | none=>
  rw[h1,zm]at h;replace h:=ze h;obtain⟨q,hq,h⟩:=h;obtain rfl:=Qo hq;replace h:=ze h;obtain⟨p,hp,h⟩:=h;obtain rfl:=yz hp;replace h:=ze h;obtain⟨s,hs,h⟩:=h;replace h:=zc9 h;obtain⟨m,rfl,hm,h⟩:=h;cases h;refine⟨?_,hx⟩;unfold Instr.indexAt;simp[zr hE hd,zc,asIntOf,Instr.sureAddr,qx hE hs,Inj.jF,hm]
theorem zb8{β:Inj}(hF:zC E β){w:World}{t:TypeId}{x a v:zb}(h:zhj E t x a=some v) :
  qh E.P β w (Instr.index t (zc β x) (zc β a)) v:=by
 replace h:=ze h;obtain⟨i,hi,h⟩:=h;obtain⟨k,rfl⟩:=JP hi;replace h:=ze h;obtain⟨d,hd,h⟩:=h;replace h:=zg h;obtain⟨h2,h⟩:=h;obtain rfl:=js h2;replace h:=jj h;obtain⟨n,rfl,h⟩:=h;obtain⟨f,g,e⟩:=qu h;obtain rfl:=zwV e;obtain⟨h1,h2,s,b,o,c,m⟩:=hF _ g;refine⟨?_,h2⟩
 have j:s[n]?=some b:=by
  have hlt:=(Array.getElem?_eq_some_iff.1 c).1;rw[getElem?_pos s n hlt];congr 1
  exact(Array.getElem?_eq_some_iff.1 c).2
 unfold Instr.index;simp[zr hE hd,zc,asIntOf,o,m,j]
theorem zgK{β:Inj}{w:World}{t:TypeId}{x a v:zb}(h:zsn E t x a=some v)(hx:WF β x) :
  qh E.P β w (Instr.index t (zc β x) (zc β a)) v:=by
 replace h:=ze h;obtain⟨i,hi,h⟩:=h;obtain⟨k,rfl⟩:=JP hi
 cases h1:jm x with
 | some s=>
  obtain rfl:=qG h1;rw[h1,zd]at h;replace h:=ze h;obtain⟨d,hd,h⟩:=h;replace h:=zg h;obtain⟨h2,h⟩:=h;obtain rfl:=js h2;replace h:=jj h;obtain⟨n,rfl,h⟩:=h;replace h:=ze h;obtain⟨b,hb,h⟩:=h;cases h;rw[ye]at hb;have c:b<256:=hx b (List.mem_of_getElem? hb);refine⟨?_,trivial⟩;unfold Instr.index
  have e:(str s)[n]?=some (UInt8.ofNat b):=by
   have hlt:=(List.getElem?_eq_some_iff.1 hb).1;rw[getElem?_pos (str s) n (by rw[qm];exact hlt)];congr 1
   have:(str s)[n]'(by rw[qm];exact hlt)=UInt8.ofNat (s[n]' hlt):=by
    show(str s).data[n]' _=_;simp[str]
   rw[this,(List.getElem?_eq_some_iff.1 hb).2]
  simp[zr hE hd,zc,asIntOf,e,u8]
  omega
 | none=>
  rw[h1,zm]at h;replace h:=ze h;obtain⟨d,hd,h⟩:=h;replace h:=ze h;obtain⟨q,hq,h⟩:=h;obtain rfl:=Qo hq;replace h:=ze h;obtain⟨cs,hc,h⟩:=h;obtain rfl:=zjc hc;replace h:=ze h;obtain⟨s,hs,h⟩:=h;replace h:=zc9 h;obtain⟨m,rfl,hm,h⟩:=h;obtain⟨g1,g2⟩:=Zt hE h hx w;refine⟨?_,g2⟩;have g1:(part q.2 (zf β cs).toArray (m*s)).run E.P w = .ok (zc β v) w:=g1;unfold Instr.index;simp[zr hE hd,zc,asIntOf,qx hE hs,hm,g1]
theorem zgM{β:Inj}{w:World}{t:TypeId}{x v:zb}{i:Nat}{d:TypeDesc}{c:List Field}{a:Field}{cs:List zb}
  (hd:E.desc t=some d) (hs:ZS d=some c) (hf:kY i c=some a) (hp:asAgg x=some cs) (h:E.apart a.type cs a.offset=some v) (hx:WF β x) :
  qh E.P β w (Instr.field t (zc β x) i) v:=by
 obtain⟨f,rfl,rfl⟩:=Xv hs;obtain rfl:=zjc hp;rw[ye,getElem?_toList]at hf;obtain⟨g1,g2⟩:=Zt hE h hx w;refine⟨?_,g2⟩;unfold Instr.field;simp[zr hE hd,hf,zc,Go.asAgg,g1]
omit hE in
theorem zdQ{P:Program}{β:Inj}{w:World}{x v:zb}{i:Nat}{l:List zb}(hp:asTuple x=some l)(h:kY i l=some v)(hx:WF β x) :
  qh P β w (Instr.extract (zc β x) i) v:=by
 obtain rfl:=zlp hp;rw[ye]at h;refine⟨?_,(zV _ _).1 hx v (List.mem_of_getElem? h)⟩;unfold Instr.extract;simp[zc,zx,h]
omit hE in
theorem Ux{P:Program}{β:Inj}{w:World}{op:UnOp}{x v:zb}(h:zlo op x=some v):qh P β w (Op.unary op (zc β x)) v:=by
 cases op with
 | neg=>
  replace h:=ze h;obtain⟨p,hp,h⟩:=h;obtain rfl:=jr hp;cases h
  exact⟨by simp[Op.unary,zc,Op.intArith,unNeg,j5,zmC],by simp[unNeg,WF]⟩
 | xor=>
  replace h:=ze h;obtain⟨p,hp,h⟩:=h;obtain rfl:=jr hp;cases h;obtain⟨k,n⟩:=p;refine⟨?_,by simp[unXor,WF]⟩;unfold unXor;have hlt:Nat.xor (Qa k n) (Nat.sub (full k) 1)<full k:=kf k _ _ (J1 _ _) (by have:=zdh k;show full k-1<full k;omega);rw[jL,Jq _ _ hlt];have e:Qa k (if k.signed then -1 else k.max)=full k-1:=by cases k<;>rfl
  simp only[Op.unary,zc,Op.intBits,Sem.run_pure,BitVec.toNat_xor,Zv,e]
  rw[Nat.xor_comm];rfl
 | not=>
  replace h:=ze h;obtain⟨b,hb,h⟩:=h;obtain rfl:=Qv hb;cases h
  cases b<;>exact⟨rfl,trivial⟩
 | plus=>cases h
theorem zlC{β:Inj}(hF:zC E β){H:Heap}{w:World}(hR:Rel E.P β H w){t:TypeId}{x v:zb}(h:zA6 E H t x=some v)(hx:WF β x)(D:Array TypeId)(ty:TypeId)(J:D[0]?=some t)(args:Array Value)(L:args[0]?=some (zc β x)) :
  qh E.P β w (Builtin.len_ D ty args) v:=by
 replace h:=ze h;obtain⟨d,hd,h⟩:=h;unfold qh Builtin.len_;simp only[J,L,Sem.run_bind,zr hE hd,Result.andThen_ok]
 cases h1:j8 d with
 | some e=>
  obtain rfl:=jJ h1;rw[h1,zd]at h
  cases h2:kN x with
  | some s=>
   obtain rfl:=jP h2;rw[h2,zd]at h;cases h
   exact⟨by simp[zc,goInt],trivial⟩
  | none=>
   rw[h2,zm,zl]at h;split at h
   .rename_i h3;obtain rfl:=jB h3;cases h;exact⟨by simp[zc,goInt],trivial⟩
   .rw[zl]at h;split at h
    .rename_i h3;obtain⟨b,o,q,rfl⟩:=zrc h3;cases h;exact⟨by simp[zc,goInt],trivial⟩
    .cases hp:QQ x with
     | none=>
      rw[hp,zm]at h
      cases hp:zfp x with
      | some p=>
       rw[hp,zd]at h;obtain rfl:=zdK hp;cases h;obtain⟨T,w2,N,I,Q⟩:=hx
       exact⟨by simp[zc,I,zh6,goInt],w2⟩
      | none=>
       rw[hp,zm]at h;obtain⟨f,c,O⟩:=qu h;obtain rfl:=zqP O;obtain⟨_,C,U,X,c0,j,g⟩:=hF _ c
       exact⟨by simp[j,g,goInt],C⟩
     | some p=>
     rw[hp,zd]at h;obtain rfl:=JO hp
     cases hs:jm p.2 with
     | some s=>
      rw[hs,zd]at h;have u:=qG hs;cases h;refine⟨?_,trivial⟩
      simp[zc,u,sOf,goInt,qm]
     | none=>
      rw[hs,zm]at h;obtain⟨f,c,e⟩:=qu h;obtain rfl:=WM e;obtain⟨h1,h2,s,j,g⟩:=hF _ c
      exact⟨by simp[zc,j,g,sOf,goInt],h2⟩
 | none=>
  rw[h1,zm,zl]at h;split at h
  .rename_i h2;obtain rfl:=js h2
   cases hs:jm x with
   | some s=>
    rw[hs,zd]at h;obtain rfl:=qG hs;cases h
    exact⟨by simp[zc,goInt,qm],trivial⟩
   | none=>
    rw[hs,zm]at h;obtain⟨f,c,e⟩:=qu h;obtain rfl:=WM e;obtain⟨h1,h2,s,j,g⟩:=hF _ c;exact⟨by simp[j,g,goInt],h2⟩
  .unfold zy1 at h
   cases h3:Qp d with
   | some q=>
    obtain rfl:=Qo h3;rw[h3,zd]at h;cases h
    exact⟨by simp[zc,goInt],trivial⟩
   | none=>
    rw[h3,zm]at h
    cases B:zom d with
    | some q=>
     obtain rfl:=zbM B;rw[B,zd,zl]at h;split at h
     .rename_i M;obtain rfl:=za3 M;cases h;exact⟨by simp[zc,goInt],trivial⟩
     .replace h:=ze h;obtain⟨r,K,h⟩:=h;obtain rfl:=Uy K;replace h:=ze h;obtain⟨b,hb,h⟩:=h;replace h:=ze h;obtain⟨m,hm,h⟩:=h;cases h;cases b<;>cases hm;obtain⟨y,G⟩:=Option.isSome_iff_exists.1 hx;obtain⟨arr,g1,g2,Y⟩:=hR.blk _ _ _ hb G;refine⟨?_,trivial⟩;have e:β.blk r=y.1:=by simp[Inj.blk,G]
      simp[zc,getObj,Sem.run,e,g1,goInt,<- Array.length_toList,g2]
    | none=>
     rw[B,zm]at h;replace h:=ze h;obtain⟨a,A,h⟩:=h;obtain rfl:=zbL A;replace h:=ze h;obtain⟨Z,z,h⟩:=h;replace h:=ze h;obtain⟨q,hq,h⟩:=h;obtain rfl:=Qo hq;cases h;exact⟨by simp[zc,goInt,zr hE z],trivial⟩
theorem zlD{β:Inj}{w:World}{t:TypeId}{x v:zb}(h:zA9 E t x=some v)(hx:WF β x)(a:Array TypeId)(ty:TypeId)(c:a[0]?=some t)(args:Array Value)(f:args[0]?=some (zc β x)) :
  qh E.P β w (Builtin.cap_ a ty args) v:=by
 replace h:=ze h;obtain⟨d,hd,h⟩:=h;replace h:=ze h;obtain⟨e,he,h⟩:=h;obtain rfl:=jJ he;unfold qh Builtin.cap_;simp only[c,f,Sem.run_bind,zr hE hd,Result.andThen_ok]
 cases h2:kN x with
 | some s=>
  obtain rfl:=jP h2;rw[h2,zd]at h;cases h;cases hs:s.ex
  .exact⟨by simp[zc,goInt],hx.1⟩
  .exact⟨by simp[zc,goInt],trivial⟩
 | none=>
  rw[h2,zm]at h;replace h:=zg h;obtain⟨h3,h⟩:=h;obtain rfl:=jB h3;cases h;exact⟨by simp[zc,goInt],trivial⟩
omit hE in
theorem zly{P:Program}{β:Inj}{w:World}:∀(l:List zb) (x v:zb),zxz l x=some v->WF β x->WFs β l->qh P β w ((zf β l).foldlM Builtin.min2 (zc β x)) v:=by
 intro l
 induction l with
 | nil=>intro x v h hx _;cases h;exact⟨by simp[zf],hx⟩
 | cons b l ih=>
  intro x v h hx hl;replace h:=ze h;obtain⟨p,hp,h⟩:=h;replace h:=ze h;obtain⟨q,hq,h⟩:=h;obtain rfl:=jr hp;obtain rfl:=jr hq;obtain⟨g1,g2⟩:=ih _ _ h trivial hl.2;refine⟨?_,g2⟩;simp only[zf,foldlM_cons,Sem.run_bind]
  have:(Builtin.min2 (zc β (.int p.1 p.2)) (zc β (.int q.1 q.2))).run P w = .ok (zc β (.int p.1 (ifB (ilt q.2 p.2) q.2 p.2))) w:=by
   simp[Builtin.min2,zc,zl,yu]
  rw[this];exact g1
omit hE in
theorem zlz{P:Program}{β:Inj}{w:World}:∀(l:List zb) (x v:zb),zxA l x=some v->WF β x->WFs β l->qh P β w ((zf β l).foldlM Builtin.max2 (zc β x)) v:=by
 intro l
 induction l with
 | nil=>intro x v h hx _;cases h;exact⟨by simp[zf],hx⟩
 | cons b l ih=>
  intro x v h hx hl;replace h:=ze h;obtain⟨p,hp,h⟩:=h;replace h:=ze h;obtain⟨q,hq,h⟩:=h;obtain rfl:=jr hp;obtain rfl:=jr hq;obtain⟨g1,g2⟩:=ih _ _ h trivial hl.2;refine⟨?_,g2⟩;simp only[zf,foldlM_cons,Sem.run_bind]
  have:(Builtin.max2 (zc β (.int p.1 p.2)) (zc β (.int q.1 q.2))).run P w = .ok (zc β (.int p.1 (ifB (ilt p.2 q.2) q.2 p.2))) w:=by
   simp[Builtin.max2,zc,zl,yu]
  rw[this];exact g1
end
end
section
variable[Unk]
theorem kz(s:ByteArray):str (zA s)=s:=by
 apply ByteArray.ext;apply Array.toList_inj.1;have e:(UInt8.ofNat ∘ UInt8.toNat)=id:=funext fun x=>by simp
 simp[str,zA,e]
theorem WG(s:ByteArray):∀b∈zA s,b<256:=by
 intro b hb;simp only[zA,jn,List.mem_map]at hb;obtain⟨x,_,rfl⟩:=hb;exact x.toNat_lt
theorem YD(e:Inj):∀n,(∀v a,ofV n v=some a->zc e a=v/\WF e a)/\(∀l m,zko n l=some m->zf e m=l/\WFs e m):=by
 intro n
 induction n with
 | zero=>exact⟨fun v a h=>by simp[ofV]at h,fun l m h=>by simp[zko]at h⟩
 | succ n f=>
  refine⟨fun v a h=>?_,fun l m h=>?_⟩
  .cases v with
   | bool b=>simp only[ofV]at h;cases h;exact⟨rfl,trivial⟩
   | int k n=>simp only[ofV]at h;cases h;exact⟨rfl,trivial⟩
   | string s=>simp only[ofV]at h;cases h;exact⟨by rw[zc,kz],WG _⟩
   | pointer p=>cases p<;>simp only[ofV]at h<;>cases h;exact⟨rfl,trivial⟩
   | slice p l c=>
    cases p with
    | some p=>simp only[ofV]at h;cases h
    | none=>
     cases l with
     | succ l=>simp only[ofV]at h;cases h
     | zero=>
      cases c with
      | succ c=>simp only[ofV]at h;cases h
      | zero=>simp only[ofV]at h;cases h;exact⟨rfl,trivial⟩
   | map r=>cases r<;>simp only[ofV]at h<;>cases h;exact⟨rfl,trivial⟩
   | nilFunc=>simp only[ofV]at h;cases h;exact⟨rfl,trivial⟩
   | nilIface=>simp only[ofV]at h;cases h;exact⟨rfl,trivial⟩
   | agg cs=>
    simp only[ofV]at h;replace h:=ze h;obtain⟨l,hl,h⟩:=h;cases h;obtain⟨g1,d⟩:=f.2 _ _ hl
    exact⟨by rw[zc,g1],d⟩
   | tuple cs=>
    simp only[ofV]at h;replace h:=ze h;obtain⟨l,hl,h⟩:=h;cases h;obtain⟨g1,d⟩:=f.2 _ _ hl
    exact⟨by rw[zc,g1],d⟩
   | _=>simp only[ofV]at h;cases h
  .cases l with
   | nil=>simp only[zko]at h;cases h;exact⟨rfl,trivial⟩
   | cons v l=>
    simp only[zko]at h;obtain⟨a,g,h⟩:=ze h;obtain⟨o,hm,h⟩:=ze h;cases h;obtain⟨g1,d⟩:=f.1 _ _ g;obtain⟨j,i⟩:=f.2 _ _ hm;exact⟨by rw[zf,g1,j],d,i⟩
section
variable{E:Env}(hE:yg E)
include hE
theorem kJ{t:TypeId}{z:zb}(h:E.zero t=some z)(a:Inj)(w:World):(zeroValue t).run E.P w = .ok (zc a z) w/\WF a z:=by
 replace h:=ze h;obtain⟨i,hi,h⟩:=h;replace h:=ze h;obtain⟨v,hv,h⟩:=h;obtain⟨g1,b⟩:=(YD a _).1 _ _ h;refine⟨?_,b⟩;unfold zeroValue;rw[Sem.run_bind,yl hE hi];simp[hv,g1]
end
theorem zf0:∀(n:Nat) (m l:List zb),(J5 n m l).length=l.length:=by
 have zero:∀(m l:List zb),(J5 0 m l).length=l.length:=by
  intro m
  induction m with
  | nil=>intro l;rfl
  | cons a m c=>
   intro l
   cases l with
   | nil=>rfl
   | cons b l=>
    have e:J5 0 (a::m) (b::l)=a::J5 0 m l:=rfl;rw[e];simp[c]
 intro n
 induction n with
 | zero=>exact zero
 | succ n c=>
  intro m l
  cases l with
  | nil=>rfl
  | cons b l=>
   have e:J5 (n+1) m (b::l)=b::J5 n m l:=rfl;rw[e];simp[c]
theorem zeM:∀(n:Nat) (m l:List zb) (k:Nat),n+m.length<=l.length->(J5 n m l)[k]?=if n<=k/\k<n+m.length then m[k-n]? else l[k]?:=by
 have zero:∀(m l:List zb) (k:Nat),m.length<=l.length->(J5 0 m l)[k]?=if k<m.length then m[k]? else l[k]?:=by
  intro m
  induction m with
  | nil=>intro l k _;rw[if_neg (by simp)];rfl
  | cons a m c=>
   intro l k h
   cases l with
   | nil=>simp at h
   | cons b l=>
    have e:J5 0 (a::m) (b::l)=a::J5 0 m l:=rfl;rw[e]
    cases k with
    | zero=>simp
    | succ k=>simp only[getElem?_cons_succ,length_cons,Nat.add_lt_add_iff_right];exact c l k (by simpa using h)
 intro n
 induction n with
 | zero=>intro m l k h;rw[zero m l k (by omega)];simp
 | succ n c=>
  intro m l k h
  cases l with
  | nil=>simp at h
  | cons b l=>
   have e:J5 (n+1) m (b::l)=b::J5 n m l:=rfl;rw[e]
   cases k with
   | zero=>rw[if_neg (by omega)];rfl
   | succ k=>
    simp only[length_cons]at h;rw[getElem?_cons_succ,c m l k (by omega)];by_cases d:n<=k/\k<n+m.length
    .rw[if_pos d,if_pos (by omega)];congr 1;omega
    .rw[if_neg d,if_neg (by omega)];rfl
theorem ztY(off:Nat):∀(vs:List Value) (i:Nat) (arr:Array Value),off+i+vs.length<=arr.size ->
  ((vs.zipIdx i).foldl (fun cs x=>cs.setIfInBounds (off+x.2) x.1) arr).size=arr.size /\
  ∀k,((vs.zipIdx i).foldl (fun cs x=>cs.setIfInBounds (off+x.2) x.1) arr)[k]?=if off+i<=k/\k<off+i+vs.length then vs[k-(off+i)]? else arr[k]?:=by
 intro vs
 induction vs with
 | nil=>intro i arr _;exact⟨rfl,fun k=>by rw[if_neg (by simp)];rfl⟩
 | cons v vs c=>
  intro i arr h;simp only[length_cons]at h;obtain⟨h1,h2⟩:=c (i+1) (arr.setIfInBounds (off+i) v) (by simp;omega);rw[zipIdx_cons,foldl_cons];refine⟨by rw[h1];simp,fun k=>?_⟩;rw[h2 k];by_cases b:off+(i+1)<=k/\k<off+(i+1)+vs.length
  .rw[if_pos b,if_pos (by simp;omega)];have:k-(off+i)=(k-(off+(i+1)))+1:=by omega
   rw[this,getElem?_cons_succ]
  .rw[if_neg b,getElem?_setIfInBounds];by_cases a:off+i=k
   .subst a;simp only[if_true];rw[if_pos (by omega),if_pos (by simp)];simp
   .rw[if_neg a,if_neg (by simp;omega)]
theorem Xo{β : Inj}(place : Nat -> Option (Nat × Nat)) : ∀(b : List (Nat × zb)) (cs l : List zb), ze9 place cs.length b cs = some l -> (∀p ∈ b, WF β p.2) -> WFs β cs ->
    Instr.fill place (zf β cs).toArray (b.map fun p => (p.1, zc β p.2)) = some (zf β l).toArray /\ WFs β l /\ l.length = cs.length := by
  intro b
  induction b with
  | nil => intro cs l h _ hw; cases h; exact⟨rfl, hw, rfl⟩
  | cons p b o =>
    intro cs l h hp hw;replace h := ze h;obtain⟨q, hq, h⟩ := h;replace h := zg h;obtain⟨h1, h⟩ := h;rw[zk, Bool.and_eq_true, zu, beq_iff_eq, jE, zG, decide_eq_true_eq] at h1;obtain⟨h2, h3⟩ := h1;have h3 : q.1 + q.2 <= cs.length := h3
    have f : WFs β (J5 q.1 (zO p.2) cs) := by
      rw[zV];intro v hv;obtain⟨k, d⟩ := List.mem_iff_getElem?.1 hv;rw[zeM _ _ _ _ (by omega)] at d;split at d
      · have hc : WFs β (zO p.2) := by
          have := hp p (by simp);cases h : p.2 <;> rw[h] at this <;> first|exact this|exact⟨this, trivial⟩
        exact(zV _ _).1 hc v (List.mem_of_getElem? d)
      · exact(zV _ _).1 hw v (List.mem_of_getElem? d)
    have hl := zf0 q.1 (zO p.2) cs;rw[<- hl] at h;obtain⟨g1, t, r⟩ := o _ _ h (fun p j => hp p (by simp[j])) f;refine⟨?_, t, by rw[r, hl]⟩;rw[map_cons];unfold Instr.fill;have i : place (p.1, zc β p.2).1 = some q := hq;simp only;rw[i];obtain⟨q1, q2⟩ := q;simp only at h2 h3 g1 ⊢;have c : (zc β p.2).cells = (zf β (zO p.2)).toArray := jd β p.2;have g : (zc β p.2).cells.size = q2 := by rw[c, zx]; simpa using h2
    rw[if_neg (by rw[g]; simp[zx]; omega)];rw[<- g1];congr 1
    apply Array.toList_inj.1;apply List.ext_getElem?;intro k;obtain⟨u, m⟩ := ztY q1 (zf β (zO p.2)) 0 (zf β cs).toArray (by simp[zx]; omega)
    have e : (zc β p.2).cells.zipIdx.foldl (fun cs x => cs.setIfInBounds (q1 + x.2) x.1) (zf β cs).toArray =
        ((zf β (zO p.2)).zipIdx 0).foldl (fun cs x => cs.setIfInBounds (q1 + x.2) x.1) (zf β cs).toArray := by
      rw[c, <- Array.foldl_toList]; simp
    have n := congrArg (fun a : Array Value => a.toList[k]?) e;simp only[getElem?_toList] at n m ⊢;refine Eq.trans n ?_;rw[m k, zx, zx, zx];simp only[getElem?_toArray, List.getElem?_map, length_map, Nat.add_zero];rw[zeM _ _ _ _ (by omega)];split <;> rfl
theorem VV{T:Tr zb}{β:Inj}{ρ:Operand->Value}:∀(l:List (Nat×Operand)) (b:List (Nat×zb)),zgr T l=some b ->
  (∀x∈l.map (·.2),∀v,ev T x=some v->ρ x=zc β v/\WF β v)->l.map (fun x=>(x.1,ρ x.2))=b.map (fun p=>(p.1,zc β p.2))/\∀p∈b,WF β p.2:=by
 intro l
 induction l with
 | nil=>intro b h _;cases h;exact⟨rfl,by simp⟩
 | cons x l d=>
  intro b h c;replace h:=ze h;obtain⟨a,f,h⟩:=h;replace h:=ze h;obtain⟨m,hm,h⟩:=h;cases h;obtain⟨g1,j⟩:=c x.2 (by simp) a f;obtain⟨i,g⟩:=d m hm fun y e=>c y (by simp only[map_cons,mem_cons];exact .inr e);refine⟨by simp[g1,i],fun p hp=>?_⟩;rcases List.mem_cons.1 hp with rfl|hp
  .exact j
  .exact g p hp
theorem zgp{T:Tr zb}{β:Inj}{ρ:Operand->Value}:∀(l:List Operand) (vs:List zb),evs T l=some vs ->
  (∀x∈l,∀v,ev T x=some v->ρ x=zc β v/\WF β v)->l.map ρ=zf β vs/\WFs β vs:=by
 intro l
 induction l with
 | nil=>intro vs h _;cases h;exact⟨rfl,trivial⟩
 | cons x l c=>
  intro vs h b;replace h:=ze h;obtain⟨a,e,h⟩:=h;replace h:=ze h;obtain⟨m,hm,h⟩:=h;cases h;obtain⟨g1,i⟩:=b x (by simp) a e;obtain⟨g,f⟩:=c m hm fun y d=>b y (by simp[d]);exact⟨by simp[g1,g,zf],i,f⟩
theorem jN{a:Inj}{v:zb}(h:WF a v):WFs a (zO v):=by
 cases v<;>first|exact h|exact⟨h,trivial⟩
theorem zs0(z:List zb)(s:Nat)(c:z.length=s):∀(n k:Nat),k<n*s->(Q9 z n)[k]?=z[k % s]?:=by
 intro n
 induction n with
 | zero=>intro k h;omega
 | succ n b=>
  intro k h
  have e:Q9 z (n+1)=z++Q9 z n:=by
   show zP z (Q9 z n)=_;rw[zT]
  rw[e,List.getElem?_append];by_cases d:k<s
  .rw[if_pos (by omega),mod_eq_of_lt d]
  .have hs:0<s:=by
    rcases eq_zero_or_pos s with a|a
    .subst a;simp at h
    .exact a
   rw[succ_mul]at h;rw[if_neg (by omega),c,b (k-s) (by omega)];congr 1
   conv=>rhs;rw[mod_eq_sub_mod (by omega)]
theorem Xb(z:List zb)(s:Nat)(b:z.length=s)(n:Nat):(Q9 z n).length=n*s:=by
 rw[zl5]
 induction n with
 | zero=>simp
 | succ n a=>rw[List.replicate_succ,flatten_cons,length_append,a,b,succ_mul];omega
theorem US{a:Inj}{z:List zb}(h:WFs a z)(n:Nat):WFs a (Q9 z n):=by
 rw[zl5,zV];intro v hv;obtain⟨l,hl,hv⟩:=List.mem_flatten.1 hv;rw[(List.mem_replicate.1 hl).2]at hv;exact(zV _ _).1 h v hv
theorem Jj{β:Inj}(z:List zb)(s n:Nat)(a:z.length=s)(b:Array Value)(hv:n*s≠0->b=(zf β z).toArray) :
  (Array.range (n*s)).map (fun i=>b[i % b.size]!)=(zf β (Q9 z n)).toArray:=by
 apply Array.toList_inj.1;apply List.ext_getElem?;intro k;rw[zx];simp only[Array.toList_map,toList_range,List.getElem?_map];by_cases c:k<n*s
 .have e:=hv (by omega);subst e
  have hs:0<s:=by
   rcases eq_zero_or_pos s with d|d
   .subst d;simp at c
   .exact d
  have hm:k % s<z.length:=by rw[a];exact mod_lt _ hs
  rw[List.getElem?_range c,zs0 z s a n k c];simp only[Option.map_some,zx,List.size_toArray,length_map,a];rw[List.getElem?_eq_getElem hm];simp[hm]
 .rw[List.getElem?_eq_none (by simp;omega),List.getElem?_eq_none (by rw[Xb z s a];omega)];rfl
end
end Go.AEv
