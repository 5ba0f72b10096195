/- A verified evaluator of Go code, and its soundness (EvSb). Conditions: those of each theorem. -/
import Derived.Test.YtmlimgmmpjhifaaGreatDoorEvSa
import Derived.Laws.Strings
import Derived.Laws.StructEq
import Derived.ChangeKeysEq
import GoSem.Dispatch
set_option maxHeartbeats 1000000
set_option linter.all false
namespace Go.AEv
section
variable [Unk]
theorem yx {v:zd}{b:Bool} (h:asBool v=some b):v = .bool b:=by cases v<;>cases h;rfl
theorem qU {v:zd}{p:IntKind×Int} (h:asInt v=some p):v = .int p.1 p.2:=by cases v<;>cases h;rfl
theorem ZE {v:zd}{i:Int} (h:Jy v=some i):∃ k,v = .int k i:=by cases v<;>cases h;exact ⟨_,rfl⟩
theorem j9 {v:zd}{p:Nat×Nat} (h:ZS v=some p):v = .ptr p.1 p.2:=by cases v<;>cases h;rfl
theorem jo {v:zd}{s:Sl} (h:jN v=some s):v = .slice s.b s.off s.len s.cap s.ex:=by cases v<;>cases h;rfl
theorem qw {v:zd}{s:List Nat} (h:qR v=some s):v = .str s:=by cases v<;>cases h;rfl
theorem eG {v:zd}{s:List zd} (h:asAgg v=some s):v = .agg s:=by cases v<;>cases h;rfl
theorem ij {v:zd}{s:List zd} (h:asTuple v=some s):v = .tuple s:=by cases v<;>cases h;rfl
theorem KT {v:zd}{p:TypeId×zd} (h:bZ v=some p):v = .iface p.1 p.2:=by cases v<;>cases h;rfl
theorem Xl {v:zd}{r:Nat} (h:eF v=some r):v = .map r:=by cases v<;>cases h;rfl
theorem je {v:zd} (h:jB v=true):v = .nilslice:=by cases v<;>cases h;rfl
theorem si {v:zd} (h:wj v=true):∃ b o q,v = .esl b o q:=by cases v<;>cases h;exact ⟨_,_,_,rfl⟩
theorem KR {v:zd}{p:Psl} (h:ay v=some p):v = .psl p.b p.o p.q p.c p.ex:=by cases v<;>cases h;rfl
theorem ZD {v:zd}{p:Nat×zd} (h:yL v=some p):v = .osl p.1 p.2:=by cases v<;>cases h;rfl
theorem nH {v:zd} (h:gm v=true):v = .nilp:=by cases v<;>cases h;rfl
theorem WJ {v:zd} (h:YZ v=true):v = .nilmap:=by cases v<;>first | rfl | (simp [YZ]at h)
theorem jk {d:TypeDesc}{e:TypeId} (h:jy d=some e):d = .slice e:=by cases d<;>cases h;rfl
theorem yu {d:TypeDesc}{q:Nat×TypeId} (h:yw d=some q):d = .array q.1 q.2:=by cases d<;>cases h;rfl
theorem QP {d:TypeDesc}{l:List Field} (h:k8 d=some l):∃ fs:Array Field,d = .struct fs∧l=fs.toList:=by
 cases d<;>cases h;exact ⟨_,rfl,rfl⟩
theorem Vt {d:TypeDesc}{e:TypeId} (h:gJ d=some e):d = .pointer e:=by cases d<;>cases h;rfl
theorem QQ {d:TypeDesc}{k:IntKind} (h:Jv d=some k):d = .int k:=by cases d<;>cases h;rfl
theorem Vu {d:TypeDesc}{q:TypeId×TypeId} (h:nY d=some q):d = .map q.1 q.2:=by cases d<;>cases h;rfl
theorem qW {d:TypeDesc} (h:jJ d=true):d = .string:=by cases d<;>cases h;rfl
theorem KG {d:TypeDesc} (h:bL d=true):d = .unsafePointer:=by cases d<;>cases h;rfl
theorem JS {k:IntKind} (h:br k=true):k = .u8:=by cases k<;>revert h<;>decide
theorem ZA {k:IntKind} (h:WK k=true):k = .i64:=by cases k<;>revert h<;>decide
theorem Xa (k:IntKind):full k=2 ^ k.bits:=by cases k<;>rfl
theorem dB (k:IntKind):rq k=k.bits:=by cases k<;>rfl
theorem Kw (k:IntKind):0<full k:=by cases k<;>decide
theorem ZJ (k:IntKind) (n:Int):Jd k n<full k:=by
 have h:=Kw k
 cases n with
 | ofNat m=>exact Nat.mod_lt _ h
 | negSucc m=>show full k-1-m % full k<full k;omega
theorem cJ (k:IntKind) (n:Int):((Jd k n:Nat):Int)=n % (2 ^ k.bits:Int):=by
 have h:=Kw k
 have e:(2 ^ k.bits:Int)=((full k:Nat):Int):=by rw [Xa];simp
 rw [e]
 cases n with
 | ofNat m=>show ((m % full k:Nat):Int)=_;simp
 | negSucc m=>
  show ((full k-1-m % full k:Nat):Int)=_
  rw [Int.negSucc_emod _ (by omega)]
  have h2:m % full k<full k:=Nat.mod_lt _ h
  have h3:((m:Int) % (full k:Int))=((m % full k:Nat):Int):=by simp
  rw [h3];omega
theorem Zo (k : IntKind) (m : Nat) (h : m < full k) : back k m = k.wrap m := by
  unfold back IntKind.wrap
  rw [zu, qo]
  have e : (2 ^ k.bits : Int) = ((full k : Nat) : Int) := by rw [Xa]; simp
  have hm : (m : Int) % (2 ^ k.bits : Int) = m := by rw [e]; exact Int.emod_eq_of_lt (by omega) (by omega)
  simp only [hm]
  have key : ∀ hf fl : Nat, half k = hf → full k = fl → (k.signed = true → hf + hf = fl ∧ (2 ^ (k.bits - 1) : Int) = hf) → (k.signed = false → hf = fl) →
      (if decide (m < hf) = true then Int.ofNat m else Int.negSucc (Nat.sub (Nat.sub fl 1) m)) =
      if k.signed && decide ((m : Int) ≥ (2 ^ (k.bits - 1) : Int)) then (m : Int) - (2 ^ k.bits : Int) else m := by
    intro hf fl h1 h2 h3 h4
    rw [h2] at h e
    rw [e]
    cases hs : k.signed with
    | false =>
      have := h4 hs
      rw [if_pos (by simp; omega), if_neg (by simp)]; rfl
    | true =>
      obtain ⟨h5, h6⟩ := h3 hs
      rw [h6]
      by_cases hlt : m < hf
      · rw [if_pos (by simp; omega), if_neg (by simp; omega)]; rfl
      · rw [if_neg (by simp; omega), if_pos (by simp; omega), Int.negSucc_eq]
        show -(((fl - 1 - m : Nat) : Int) + 1) = _
        omega
  exact key _ _ rfl rfl (by cases k <;> simp [IntKind.signed, half, full, IntKind.bits]) (by cases k <;> simp [IntKind.signed, half, full])
theorem yK (k:IntKind) (n:Int):Jx k n=k.wrap n:=by
 unfold Jx
 rw [Zo _ _ (ZJ k n)]
 unfold IntKind.wrap
 rw [cJ]
 simp only [Int.emod_emod]
theorem Jf (m n:Nat):Q4 m n=(m:Int)-n:=by
 unfold Q4
 rw [zu,zN]
 by_cases h:n≤m
 ·rw [if_pos (by simp [h])];show ((m-n:Nat):Int)=_;omega
 ·rw [if_neg (by simp [h]),Int.negSucc_eq];show -(((n-m-1:Nat):Int)+1)=_;omega
theorem lK (a:Int):Bg a = -a:=by
 cases a with
 | ofNat m=>show Q4 0 m=_;rw [Jf];simp
 | negSucc m=>show Int.ofNat (m+1)=_;rw [Int.neg_negSucc];rfl
theorem lN (a b:Int):uK a b=a+b:=by
 cases a<;>cases b<;>simp only [uK,yp,kf,Jf]
 ·rfl
 ·rename_i m n;rw [Int.negSucc_eq];show (m:Int)-((n+1:Nat):Int)=Int.ofNat m+_;simp;omega
 ·rename_i m n;rw [Int.negSucc_eq];show (n:Int)-((m+1:Nat):Int)=_+Int.ofNat n;simp;omega
 ·rename_i m n;rw [Int.negSucc_eq,Int.negSucc_eq,Int.negSucc_eq];show -(((m+n+1:Nat):Int)+1)=_;omega
theorem uF (a b:Int):Bb a b=a-b:=by unfold Bb;rw [lN,lK];omega
theorem lM (a b:Int):uJ a b=a*b:=by
 cases a<;>cases b<;>simp only [uJ,yp,kf,Jf]
 ·rfl
 ·rename_i m n
  rw [Int.negSucc_eq]
  show ((0:Nat):Int)-((m*(n+1):Nat):Int)=Int.ofNat m*_
  rw [Int.natCast_mul];simp [Int.mul_neg]
 ·rename_i m n
  rw [Int.negSucc_eq]
  show ((0:Nat):Int)-(((m+1)*n:Nat):Int)=_*Int.ofNat n
  rw [Int.natCast_mul];simp [Int.neg_mul]
 ·rename_i m n
  rw [Int.negSucc_eq,Int.negSucc_eq]
  show (((m+1)*(n+1):Nat):Int)=_
  rw [Int.neg_mul_neg,Int.natCast_mul];rfl
theorem se (a b:Int):sf a b=a.tdiv b:=by
 cases a<;>cases b<;>simp only [sf,yp,kf,Jf]
 ·rfl
 ·rename_i m n;show ((0:Nat):Int)-((m / (n+1):Nat):Int) = -((m / (n+1):Nat):Int);simp
 ·rename_i m n;show ((0:Nat):Int)-(((m+1) / n:Nat):Int) = -(((m+1) / n:Nat):Int);simp
 ·rfl
theorem r8 (a b:Int):sc a b=a.tmod b:=by
 cases a<;>cases b<;>simp only [sc,yp,kf,Jf]
 ·rfl
 ·rename_i m n;rfl
 ·rename_i m n;show ((0:Nat):Int)-(((m+1) % n:Nat):Int) = -(((m+1) % n:Nat):Int);simp
 ·rename_i m n;show ((0:Nat):Int)-(((m+1) % (n+1):Nat):Int) = -(((m+1) % (n+1):Nat):Int);simp
@[simp] theorem yG (k:IntKind) (n:Int):mkInt k n = .int k n:=by cases n<;>rfl
@[simp] theorem JN (b:Bool):kL b = .bool b:=by cases b<;>rfl
@[simp] theorem CR (n:Nat):mkNat n = .int .i64 n:=rfl
theorem kQ (k:IntKind) (x:Int):(BitVec.ofInt k.bits x).toNat=Jd k x:=by
 have h:=cJ k x
 rw [BitVec.toNat_ofInt]
 have e:((2 ^ k.bits:Nat):Int)=(2 ^ k.bits:Int):=by simp
 rw [e,← h];simp
theorem jH {k j:IntKind}{u v:zd} (h:same k j u=some v):k=j∧u=v:=by
 obtain ⟨h1,h2⟩:=zl h
 exact ⟨(YX _ _).1 h1,by injection h2⟩
theorem lF (k:IntKind) (a b:Nat) (h:a<full k):a &&& b<full k:=Nat.lt_of_le_of_lt Nat.and_le_left h
theorem xU (k:IntKind) (a b:Nat) (ha:a<full k) (hb:b<full k):a ||| b<full k:=by
 rw [Xa]at *;exact Nat.or_lt_two_pow ha hb
theorem oB (k:IntKind) (a b:Nat) (ha:a<full k) (hb:b<full k):a ^^^ b<full k:=by
 rw [Xa]at *;exact Nat.xor_lt_two_pow ha hb
theorem nj (k:IntKind) (b:Int):(~~~ (BitVec.ofInt k.bits b)).toNat=Nat.xor (Jd k b) (Nat.sub (full k) 1):=by
 rw [← BitVec.xor_allOnes,BitVec.toNat_xor,kQ,BitVec.toNat_allOnes,Xa];rfl
theorem mX {P:Program}{op:BinOp}{k j:IntKind}{a b:Int}{v:zd} (h:wk op k a j b=some v) (t:TypeId) (β:Inj) (w:World) :
  (Go.binOp op t (.int k a) (.int j b)).run P w = .ok (zh β v) w∧WF β v:=by
 cases op
 case add=>obtain ⟨rfl,rfl⟩:=jH h;simp [Go.binOp,Op.intArith,zh,WF,yK,lN]
 case sub=>obtain ⟨rfl,rfl⟩:=jH h;simp [Go.binOp,Op.intArith,zh,WF,yK,uF]
 case mul=>obtain ⟨rfl,rfl⟩:=jH h;simp [Go.binOp,Op.intArith,zh,WF,yK,lM]
 case quo=>
  obtain ⟨h1,h⟩:=kg h
  obtain ⟨rfl,rfl⟩:=jH h
  rw [ZP]at h1
  have h1:b≠0:=by simpa using h1
  simp [Go.binOp,Op.intDiv,zh,WF,yK,se,h1]
 case rem=>
  obtain ⟨h1,h⟩:=kg h
  obtain ⟨rfl,rfl⟩:=jH h
  rw [ZP]at h1
  have h1:b≠0:=by simpa using h1
  simp [Go.binOp,Op.intDiv,zh,WF,r8,h1]
 case and=>
  obtain ⟨rfl,rfl⟩:=jH h
  refine ⟨?_,by simp [WF]⟩
  rw [yG,Zo _ _ (show Nat.land _ _<full k from lF _ _ _ (ZJ _ _))]
  simp only [Go.binOp,Op.intBits,ne_eq,not_true_eq_false,if_false,Sem.run_pure,zh,BitVec.toNat_and,kQ];rfl
 case or=>
  obtain ⟨rfl,rfl⟩:=jH h
  refine ⟨?_,by simp [WF]⟩
  rw [yG,Zo _ _ (show Nat.lor _ _<full k from xU _ _ _ (ZJ _ _) (ZJ _ _))]
  simp only [Go.binOp,Op.intBits,ne_eq,not_true_eq_false,if_false,Sem.run_pure,zh,BitVec.toNat_or,kQ];rfl
 case xor=>
  obtain ⟨rfl,rfl⟩:=jH h
  refine ⟨?_,by simp [WF]⟩
  rw [yG,Zo _ _ (show Nat.xor _ _<full k from oB _ _ _ (ZJ _ _) (ZJ _ _))]
  simp only [Go.binOp,Op.intBits,ne_eq,not_true_eq_false,if_false,Sem.run_pure,zh,BitVec.toNat_xor,kQ];rfl
 case andNot=>
  obtain ⟨rfl,rfl⟩:=jH h
  refine ⟨?_,by simp [WF]⟩
  rw [yG,Zo _ _ (show Nat.land _ _<full k from lF _ _ _ (ZJ _ _))]
  simp only [Go.binOp,Op.intBits,ne_eq,not_true_eq_false,if_false,Sem.run_pure,zh,BitVec.toNat_and,kQ,nj];rfl
 case shl=>
  cases b with
  | negSucc n=>cases h
  | ofNat n=>
   cases h
   have e:min n k.bits=shN k n:=by
    unfold shN;rw [zu,zN,dB]
    by_cases h:n≤k.bits
    ·rw [if_pos (by simp [h])];omega
    ·rw [if_neg (by simp [h])];omega
   simp only [Go.binOp,Op.shift]
   rw [if_neg (by simp)]
   simp [zh,WF,yK,lM,e]
 case shr=>
  cases b with
  | negSucc n=>cases h
  | ofNat n=>
   cases h
   have e:min n k.bits=shN k n:=by
    unfold shN;rw [zu,zN,dB]
    by_cases h:n≤k.bits
    ·rw [if_pos (by simp [h])];omega
    ·rw [if_neg (by simp [h])];omega
   simp only [Go.binOp,Op.shift]
   rw [if_neg (by simp)]
   refine ⟨?_,by simp [WF]⟩
   have e2:a.fdiv ((2:Int) ^ shN k n)=yf a (fun m=>.ofNat (Nat.div m (Nat.pow 2 (shN k n)))) fun m=>.negSucc (Nat.div m (Nat.pow 2 (shN k n))):=by
    have hp:(2:Int) ^ shN k n=((2 ^ shN k n:Nat):Int):=by simp
    rw [hp]
    have hpos:0<2 ^ shN k n:=Nat.pow_pos (by decide)
    show a.fdiv _=yf (α:=Int) a (fun m=>Int.ofNat (m / 2 ^ shN k n)) fun m=>Int.negSucc (m / 2 ^ shN k n)
    generalize 2 ^ shN k n=q at *
    obtain ⟨q,rfl⟩:∃ r,q=r+1:=⟨q-1,by omega⟩
    cases a with
    | ofNat m=>
     cases m with
     | zero=>show (0:Int)=Int.ofNat (0 / (q+1));rw [Nat.zero_div];rfl
     | succ m=>rfl
    | negSucc m=>rfl
   simp [zh,e,e2]
 case eql=>obtain ⟨rfl,rfl⟩:=jH h;simp [Go.binOp,Op.intCmp,zh,WF,ZP]
 case neq=>obtain ⟨rfl,rfl⟩:=jH h;simp [Go.binOp,Op.intCmp,zh,WF,ZP,qY];rfl
 case lss=>obtain ⟨rfl,rfl⟩:=jH h;simp [Go.binOp,Op.intCmp,zh,WF,Yp]
 case leq=>obtain ⟨rfl,rfl⟩:=jH h;simp [Go.binOp,Op.intCmp,zh,WF,Yp,qY,← Int.not_lt]
 case gtr=>obtain ⟨rfl,rfl⟩:=jH h;simp [Go.binOp,Op.intCmp,zh,WF,Yp]
 case geq=>obtain ⟨rfl,rfl⟩:=jH h;simp [Go.binOp,Op.intCmp,zh,WF,Yp,qY,← Int.not_lt]
theorem YH (s:List Nat):(str s).data.toList=s.map UInt8.ofNat:=by simp [str]
theorem qK (s:List Nat):(str s).size=s.length:=by simp [str,ByteArray.size]
theorem yl (s:List Nat):(str s).toList=s.map UInt8.ofNat:=by
 rw [ByteArray.toList_eq];exact YH s
theorem ofNat_inj {a b:Nat} (ha:a<256) (hb:b<256) (h:UInt8.ofNat a=UInt8.ofNat b):a=b:=by
 have:=congrArg UInt8.toNat h
 simp at this
 omega
theorem J9:∀ {s t:List Nat},(∀ b∈s,b<256)→(∀ b∈t,b<256)→s.map UInt8.ofNat=t.map UInt8.ofNat→s=t
 | [],[],_,_,_=>rfl
 | [],_::_,_,_,h=>by simp at h
 | _::_,[],_,_,h=>by simp at h
 | a::s,b::t,hs,ht,h=>by
  simp only [List.map_cons,List.cons.injEq]at h
  rw [ofNat_inj (hs a (by simp)) (ht b (by simp)) h.1,J9 (fun x hx=>hs x (by simp [hx])) (fun x hx=>ht x (by simp [hx])) h.2]
theorem Kj {s t:List Nat} (hs:∀ b∈s,b<256) (ht:∀ b∈t,b<256):dM s t=((str s).toList==(str t).toList):=by
 rw [Vo,Bool.eq_iff_iff,beq_iff_eq,beq_iff_eq,yl,yl]
 exact ⟨fun h=>by rw [h],J9 hs ht⟩
theorem Ki:∀ {s t:List Nat},(∀ b∈s,b<256)→(∀ b∈t,b<256)→YT s t=Op.bytesLess (s.map UInt8.ofNat) (t.map UInt8.ofNat)
 | [],[],_,_=>rfl
 | [],_::_,_,_=>rfl
 | _::_,[],_,_=>rfl
 | a::s,b::t,hs,ht=>by
  have e:YT (a::s) (b::t)=ifB (Nat.blt a b) true (ifB (Nat.beq a b) (YT s t) false):=rfl
  rw [e,Ki (fun x hx=>hs x (by simp [hx])) (fun x hx=>ht x (by simp [hx])),zu,zu,qo,zG]
  simp only [List.map_cons,Op.bytesLess]
  have ha:=hs a (by simp)
  have hb:=ht b (by simp)
  have e1:(UInt8.ofNat a<UInt8.ofNat b)↔a<b:=by
   rw [UInt8.lt_iff_toNat_lt];simp;omega
  have e2:(UInt8.ofNat a==UInt8.ofNat b)=(a==b):=by
   rw [Bool.eq_iff_iff,beq_iff_eq,beq_iff_eq];exact ⟨ofNat_inj ha hb,fun h=>by rw [h]⟩
  simp only [e1,e2]
  by_cases h1:a<b<;>by_cases h2:a=b<;>simp [h1,h2]
theorem VQ (s t:List Nat):str s++str t=str (s++t):=by
 apply ByteArray.ext
 simp [str,ByteArray.data_append]
theorem dK:∀ a b:List Nat,(YT a b||(a==b))=kU (YT b a)
 | [],[]=>rfl
 | [],_::_=>rfl
 | _::_,[]=>rfl
 | a::s,b::t=>by
  have e:∀ a b s t,YT (a::s) (b::t)=ifB (Nat.blt a b) true (ifB (Nat.beq a b) (YT s t) false):=fun _ _ _ _=>rfl
  have ih:=dK s t
  rw [e,e,qY,zu,zu,zu,zu,qo,zG,qo,zG]
  rw [qY]at ih
  rcases Nat.lt_trichotomy a b with h | h | h
  ·have h1:¬ b<a:=by omega
   have h2:¬ b=a:=by omega
   simp [h,h1,h2]
  ·subst h;simp [← ih]
  ·have h1:¬ a<b:=by omega
   have h2:¬ a=b:=by omega
   simp [h,h1,h2]
theorem mW {P:Program}{op:BinOp}{a b:List Nat}{v:zd} (h:vG op a b=some v) (ha:∀ x∈a,x<256) (hb:∀ x∈b,x<256) (t:TypeId) (β:Inj) (w:World) :
  (Go.binOp op t (.string (str a)) (.string (str b))).run P w = .ok (zh β v) w∧WF β v:=by
 have hl:=Kj ha hb
 have hs1:=Ki ha hb
 have hs2:=Ki hb ha
 have les1:Op.bytesLess (str a).toList (str b).toList=YT a b:=by rw [yl,yl,hs1]
 have les2:Op.bytesLess (str b).toList (str a).toList=YT b a:=by rw [yl,yl,hs2]
 have tri:(Op.bytesLess (str a).toList (str b).toList||((str a).toList==(str b).toList))=kU (YT b a):=by
  rw [les1,← hl,Vo,dK]
 cases op<;>first | (cases h;done) | skip
 case add=>
  obtain ⟨h1,h⟩:=zl h
  cases h
  rw [zN,decide_eq_true_eq,lE,jz]at h1
  refine ⟨?_,?_⟩
  ·simp only [Go.binOp,Op.stringOp]
   rw [if_neg (by rw [qK,qK];show ¬ (((a.length+b.length:Nat)):Int) > IntKind.i64.max;simp [IntKind.max,IntKind.signed,IntKind.bits];omega)]
   simp [zh,VQ]
  ·intro x hx
   simp only [qy,List.mem_append]at hx
   exact hx.elim (ha x) (hb x)
 case eql=>cases h;simp [Go.binOp,Op.stringOp,zh,WF,hl]
 case neq=>cases h;simp [Go.binOp,Op.stringOp,zh,WF,hl,qY]
 case lss=>cases h;simp [Go.binOp,Op.stringOp,zh,WF,les1]
 case leq=>cases h;simp only [Go.binOp,Op.stringOp,Sem.run_pure,tri,JN,zh];exact ⟨trivial,trivial⟩
 case gtr=>cases h;simp only [Go.binOp,Op.stringOp,Sem.run_pure,tri,JN,zh,qY,Bool.not_not];exact ⟨trivial,trivial⟩
 case geq=>cases h;simp [Go.binOp,Op.stringOp,zh,WF,les1,qY]
end
section
variable [Unk]
def V2 (x:Value):Bool:=match x with | .int _ _=>false | .float _ _=>false | .complex _ _ _=>false | .string _=>false | _=>true
section
variable {E:Env} (hE:jU E)
include hE
theorem kP {β:Inj}{t:TypeId}{cs:List zd}{off:Nat}{v:zd} (h:E.apart t cs off=some v) (hw:WFs β cs) (w:World) :
  (part t (zq β cs).toArray off).run E.P w = .ok (zh β v) w∧WF β v:=by
 obtain ⟨g,hg,h⟩:=zf h
 unfold part
 rw [Sem.run_bind,UO hE hg]
 cases g with
 | true=>
  obtain ⟨n,hn,h⟩:=zf h
  cases h
  refine ⟨?_,?_⟩
  ·simp only [Result.andThen_ok,if_true,Sem.run_bind,qk hE hn,Sem.run_pure,zh]
   congr 2
   apply Array.toList_inj.1
   simp [zK,YG,KD,List.map_drop,List.map_take]
  ·rw [WF,jb]
   intro v hv
   rw [YG,KD]at hv
   exact (jb _ _).1 hw v (List.mem_of_mem_drop (List.mem_of_mem_take hv))
 | false=>
  have h:ZY off cs=some v:=h
  rw [kb]at h
  refine ⟨?_,(jb _ _).1 hw v (List.mem_of_getElem? h)⟩
  simp [zK,h]
omit hE in
theorem ZT (s u:ByteArray):(s.toList==u.toList)=decide (s=u):=by
 rw [ByteArray.toList_eq,ByteArray.toList_eq,Bool.eq_iff_iff,decide_eq_true_eq,beq_iff_eq]
 obtain ⟨⟨x⟩⟩:=s
 obtain ⟨⟨y⟩⟩:=u
 simp
theorem cL {β:Inj} (hF:qd E β) {w:World}{t:TypeId}{x y:zd}{r:Bool} (h:o8 E t x y=some r) (d:Nat) :
  (Op.equalIn (d+1) t (zh β x) (zh β y)).run E.P w = .ok r w:=by
 replace h:=zf h
 obtain ⟨dd,hd,h⟩:=h
 replace h:=zf h
 obtain ⟨sh,hs,h⟩:=h
 obtain ⟨f,hf,e⟩:=qh h
 have:=gg e
 subst this
 obtain ⟨h1,h2,h3⟩:=hF _ hf
 rcases h3 with ⟨rfl,k,m,n,e1,e2,rfl⟩ | ⟨rfl,s,u,e1,e2,rfl⟩ | ⟨rfl,s,u,e1,e2,rfl⟩
 ·cases dd<;>simp [shapeOf]at hs
  simp [e1,e2,Op.equalIn,zr hE hd]
 ·cases dd<;>simp [shapeOf]at hs
  simp [e1,e2,Op.equalIn,zr hE hd,beq_toListBytes,ZT]
 ·cases dd<;>simp [shapeOf]at hs
  simp [e1,e2,Op.equalIn,zr hE hd]
theorem Xp (β:Inj) (hF:qd E β) (H:Heap) (w:World):∀ f,
  (∀ t x y r,Qg E H f t x y=some r→WF β x→WF β y→∀ d,f≤d→(Op.equalIn d t (zh β x) (zh β y)).run E.P w = .ok r w) ∧
  (∀ fs xs ys r,Zp E H f fs xs ys=some r→WFs β xs→WFs β ys→∀ d,f≤d→(Op.eqFields d (zq β xs).toArray (zq β ys).toArray fs).run E.P w = .ok r w) ∧
  (∀ e s is xs ys r,Qs E H f e s is xs ys=some r→WFs β xs→WFs β ys→∀ d,f≤d→(Op.eqItems d e s (zq β xs).toArray (zq β ys).toArray is).run E.P w = .ok r w):=by
 intro f
 induction f with
 | zero=>exact ⟨fun _ _ _ _ h=>by simp [Qg]at h,fun _ _ _ _ h=>by simp [Zp]at h,fun _ _ _ _ _ _ h=>by simp [Qs]at h⟩
 | succ f ih=>
  obtain ⟨ih1,ih2,ih3⟩:=ih
  refine ⟨?_,?_,?_⟩
  ·intro t x y r h hx hy d hd
   obtain ⟨d,rfl⟩:∃ e,d=e+1:=⟨d-1,by omega⟩
   have hd':f≤d:=by omega
   unfold Qg at h
   rw [zu]at h
   split at h
   case isFalse=>exact cL hE hF h d
   rename_i hs
   clear hs
   split at h
   ·rename_i e;cases h;simp [zh,Op.equalIn,zr hE e,QV]
   ·rename_i k a j b e
    split at h
    ·rename_i hk
     cases h
     have:=(YX _ _).1 hk
     subst this
     simp [zh,Op.equalIn,zr hE e,ZP]
    ·cases h
   ·rename_i a b e;cases h
    rw [Kj hx hy]
    simp [zh,Op.equalIn,zr hE e,beq_toListBytes]
   ·rename_i e;cases h;(simp only [zh,Op.equalIn,Sem.run_bind,zr hE e,Result.andThen_ok,Sem.run_pure])<;>first | done | rfl | simp
   ·rename_i e;cases h;(simp only [zh,Op.equalIn,Sem.run_bind,zr hE e,Result.andThen_ok,Sem.run_pure])<;>first | done | rfl | simp
   ·rename_i e;cases h;(simp only [zh,Op.equalIn,Sem.run_bind,zr hE e,Result.andThen_ok,Sem.run_pure])<;>first | done | rfl | simp
   ·rename_i elem a i b j e
    split at h
    ·cases h
    ·cases h
    ·rename_i n hn
     split at h
     ·split at h
      ·rename_i hb
       rw [zG,beq_iff_eq]at hb
       cases h
       subst hb
       have e1:(sameAddr (β.addr a i) (β.addr a j)).run E.P w = .ok (Nat.beq i j) w:=by
        have e2:(β.addr a i==β.addr a j)=Nat.beq i j:=by
         rw [zG,Bool.eq_iff_iff,beq_iff_eq,beq_iff_eq]
         simp [Inj.addr]
        unfold sameAddr
        rw [e2]
        simp [Inj.addr]
       simp [zh,Op.equalIn,zr hE e,qk hE hn,e1]
      ·cases h
     ·cases h
   ·rename_i e;cases h;(simp only [zh,Op.equalIn,Sem.run_bind,zr hE e,Result.andThen_ok,Sem.run_pure])<;>first | done | rfl | simp
   ·rename_i e;cases h;(simp only [zh,Op.equalIn,Sem.run_bind,zr hE e,Result.andThen_ok,Sem.run_pure])<;>first | done | rfl | simp
   ·rename_i e;cases h;(simp only [zh,Op.equalIn,Sem.run_bind,zr hE e,Result.andThen_ok,Sem.run_pure])<;>first | done | rfl | simp
   ·rename_i e;cases h;(simp only [zh,Op.equalIn,Sem.run_bind,zr hE e,Result.andThen_ok,Sem.run_pure])<;>first | done | rfl | simp
   ·rename_i e;cases h;(simp only [zh,Op.equalIn,Sem.run_bind,zr hE e,Result.andThen_ok,Sem.run_pure])<;>first | done | rfl | simp
   ·rename_i e;cases h;(simp only [zh,Op.equalIn,Sem.run_bind,zr hE e,Result.andThen_ok,Sem.run_pure])<;>first | done | rfl | simp
   ·rename_i e;cases h;(simp only [zh,Op.equalIn,Sem.run_bind,zr hE e,Result.andThen_ok,Sem.run_pure])<;>first | done | rfl | simp
   ·rename_i e;cases h;(simp only [zh,Op.equalIn,Sem.run_bind,zr hE e,Result.andThen_ok,Sem.run_pure])<;>first | done | rfl | simp
   ·rename_i e;cases h;(simp only [zh,Op.equalIn,Sem.run_bind,zr hE e,Result.andThen_ok,Sem.run_pure])<;>first | done | rfl | simp
   ·rename_i e;cases h;(simp only [zh,Op.equalIn,Sem.run_bind,zr hE e,Result.andThen_ok,Sem.run_pure])<;>first | done | rfl | simp
   ·rename_i e;cases h;(simp only [zh,Op.equalIn,Sem.run_bind,zr hE e,Result.andThen_ok,Sem.run_pure])<;>first | done | rfl | simp
   ·rename_i e;cases h;(simp only [zh,Op.equalIn,Sem.run_bind,zr hE e,Result.andThen_ok,Sem.run_pure])<;>first | done | rfl | simp
   ·rename_i e;cases h;(simp only [zh,Op.equalIn,Sem.run_bind,zr hE e,Result.andThen_ok,Sem.run_pure])<;>first | done | rfl | simp
   ·rename_i e;cases h;(simp only [zh,Op.equalIn,Sem.run_bind,zr hE e,Result.andThen_ok,Sem.run_pure])<;>first | done | rfl | simp
   ·rename_i e;cases h;(simp only [zh,Op.equalIn,Sem.run_bind,zr hE e,Result.andThen_ok,Sem.run_pure])<;>first | done | rfl | simp
   ·rename_i e;cases h;(simp only [zh,Op.equalIn,Sem.run_bind,zr hE e,Result.andThen_ok,Sem.run_pure])<;>first | done | rfl | simp
   ·rename_i e;cases h;(simp only [zh,Op.equalIn,Sem.run_bind,zr hE e,Result.andThen_ok,Sem.run_pure])<;>first | done | rfl | simp
   ·rename_i e;cases h;(simp only [zh,Op.equalIn,Sem.run_bind,zr hE e,Result.andThen_ok,Sem.run_pure])<;>first | done | rfl | simp
   ·rename_i ms ta va tb vb e
    split at h
    ·rename_i hb
     cases h
     have hne:ta≠tb:=by
      intro hab
      rw [hab,zG]at hb
      simp at hb
     simp [zh,Op.equalIn,zr hE e,hne]
    ·rename_i hb
     rw [zG,beq_iff_eq]at hb
     subst hb
     split at h
     ·cases h
     ·rename_i i hi
      split at h
      ·rename_i hc
       have:=ih1 _ _ _ _ h hx hy d hd'
       simp [zh,Op.equalIn,zr hE e,j3 hE hi,hc,this]
      ·cases h
   ·rename_i fs xs ys e
    split at h
    ·cases h
    ·rename_i hp
     have hu:=jT hE e
     have hf:E.P.fieldsOf t=fs:=by simp [Program.fieldsOf,hu]
     rw [zh,zh,run_equalIn_struct w d t _ _ (by rw [hf];exact hu) (by simpa using hp),hf]
     exact ih2 _ _ _ _ h hx hy d hd'
   ·rename_i n elem xs ys e
    split at h
    ·cases h
    ·rename_i s hs
     obtain ⟨i,h1,h2,h3,h4⟩:=yz hE hs
     rw [zh,zh,run_equalIn_array w d _ _ (jT hE e) h1]
     have:E.P.cellsOf elem=s:=by simp [Program.cellsOf,h1,h3]
     rw [this]
     exact ih3 _ _ _ _ _ _ h hx hy d hd'
   ·cases h
  ·intro fs xs ys r h hx hy d hd
   cases fs with
   | nil=>simp only [Zp]at h;cases h;simp [Op.eqFields]
   | cons fl fs=>
    simp only [Zp]at h
    obtain ⟨h1,h⟩:=kg h
    obtain ⟨a,ha,h⟩:=zf h
    obtain ⟨b,hb,h⟩:=zf h
    obtain ⟨q,hq,h⟩:=zf h
    obtain ⟨a1,a2⟩:=kP hE ha hx w
    obtain ⟨b1,b2⟩:=kP hE hb hy w
    have hq':=ih1 _ _ _ _ hq a2 b2 d (by omega)
    have hne:fl.name ≠ "_" := by simpa using h1
    simp only [Op.eqFields,hne,ne_eq,not_false_eq_true,if_true,Sem.run_bind,a1,b1,Result.andThen_ok,hq']
    cases q with
    | true=>simpa using ih2 _ _ _ _ h hx hy d (by omega)
    | false=>cases h;simp
  ·intro e s is xs ys r h hx hy d hd
   cases is with
   | nil=>simp only [Qs]at h;cases h;simp [Op.eqItems]
   | cons i is=>
    simp only [Qs]at h
    obtain ⟨a,ha,h⟩:=zf h
    obtain ⟨b,hb,h⟩:=zf h
    obtain ⟨q,hq,h⟩:=zf h
    obtain ⟨a1,a2⟩:=kP hE ha hx w
    obtain ⟨b1,b2⟩:=kP hE hb hy w
    have hq':=ih1 _ _ _ _ hq a2 b2 d (by omega)
    have a1:(part e (zq β xs).toArray (i*s)).run E.P w = .ok (zh β a) w:=a1
    have b1:(part e (zq β ys).toArray (i*s)).run E.P w = .ok (zh β b) w:=b1
    simp only [Op.eqItems,Sem.run_bind,a1,b1,Result.andThen_ok,hq']
    cases q with
    | true=>simpa using ih3 _ _ _ _ _ _ h hx hy d (by omega)
    | false=>cases h;simp
theorem jc (op:BinOp) (t:TypeId) (x y:Operand) (a b:Value) (w:World) (ha:(match a with | .nilIface=>false | .agg _=>false | _=>true)=true) :
  (eqGuard op t x y a b).run E.P w = .ok () w:=by
 have _:=hE
 unfold eqGuard
 cases op<;>first | rfl | (cases a<;>first | rfl | (simp at ha;done) | simp)
theorem Uf (op:BinOp) (t:TypeId) (x y:Operand) (b:Value) (w:World) (h:ifB (isConst x) true (isConst y)=true) :
  (eqGuard op t x y .nilIface b).run E.P w = .ok () w:=by
 have _:=hE
 have hc:(isConst x||isConst y)=true:=by
  rw [zu]at h
  cases hx:isConst x
  ·rw [hx]at h;simpa using h
  ·rfl
 unfold eqGuard
 cases op<;>first | rfl | (cases b<;>first | rfl | (cases x<;>cases y<;>first | rfl | (simp [isConst]at hc)))
omit hE in
theorem binOp_eql (t:TypeId) (x y:Value) (h:V2 x=true):Go.binOp .eql t x y=(do pure (.bool (← Op.equal t x y)):Sem Value):=by
 cases x<;>first | (simp [V2]at h;done) | rfl
omit hE in
theorem binOp_neq (t:TypeId) (x y:Value) (h:V2 x=true):Go.binOp .neq t x y=(do pure (.bool (!(← Op.equal t x y))):Sem Value):=by
 cases x<;>first | (simp [V2]at h;done) | rfl
theorem aK {β:Inj} (hF:qd E β) {w:World}{op:BinOp}{t:TypeId}{x y:Operand}{a b v:zd} (h:fm E op t a b=some v) :
  (do eqGuard op t x y (zh β a) (zh β b);Go.binOp op t (zh β a) (zh β b)).run E.P w = .ok (zh β v) w∧WF β v:=by
 unfold fm at h
 cases hb:findF (Kf op a b) E.facts with
 | some r=>
  rw [hb,zg]at h
  cases h
  obtain ⟨f,hf,e⟩:=qh hb
  obtain ⟨h1,h2,h3,h4,h5⟩:=JP e (hF _ hf)
  refine ⟨?_,h3⟩
  rw [Sem.run_bind,jc hE op t x y _ _ w h4,Result.andThen_ok,h5]
 | none=>
  rw [hb,zm]at h
  replace h:=zf h
  obtain ⟨g,hg,h⟩:=h
  replace h:=zf h
  obtain ⟨r,hr,h⟩:=h
  cases h
  refine ⟨?_,by rw [JN];trivial⟩
  replace hr:=zf hr
  obtain ⟨dd,hd,hr⟩:=hr
  replace hr:=zf hr
  obtain ⟨sh,hs,hr⟩:=hr
  obtain ⟨f,hf,e⟩:=qh hr
  have:=gg e
  subst this
  obtain ⟨h1,h2,h3⟩:=hF _ hf
  unfold lR at hg
  rcases h3 with ⟨rfl,k,m,n,e1,e2,rfl⟩ | ⟨rfl,s,u,e1,e2,rfl⟩ | ⟨rfl,s,u,e1,e2,rfl⟩
  rotate_left 2
  ·cases dd<;>simp [shapeOf]at hs
   have hbool:∀ d (s u:Bool),(Op.equalIn (d+1) t (.bool s) (.bool u)).run E.P w = .ok (s==u) w:=by
    intro d s u
    simp [Op.equalIn,zr hE hd]
   rw [Sem.run_bind,jc hE op t x y _ _ w (by rw [e1]),Result.andThen_ok,e1,e2]
   have heq:(Op.equal t (.bool s) (.bool u)).run E.P w = .ok (s==u) w:=by
    exact hbool 9999 s u
   split at hg
   ·cases hg
    rw [binOp_eql _ _ _ rfl,Sem.run_bind,heq]
    cases s<;>cases u<;>rfl
   ·cases hg
    rw [binOp_neq _ _ _ rfl,Sem.run_bind,heq]
    cases s<;>cases u<;>rfl
   ·cases hg
  ·rw [Sem.run_bind,jc hE op t x y _ _ w (by rw [e1]),Result.andThen_ok,e1,e2]
   split at hg
   ·cases hg;simp [Go.binOp,Op.intCmp,zh]
   ·cases hg;simp [Go.binOp,Op.intCmp,zh,qY];rfl
   ·cases hg
  ·rw [Sem.run_bind,jc hE op t x y _ _ w (by rw [e1]),Result.andThen_ok,e1,e2]
   split at hg
   ·cases hg;simp [Go.binOp,Op.stringOp,zh,ZT]
   ·cases hg;simp [Go.binOp,Op.stringOp,zh,qY,ZT]
   ·cases hg
theorem iH {β:Inj} (hF:qd E β) {H:Heap}{w:World}{op:BinOp}{t:TypeId}{x y:Operand}{a b v:zd} (h:Ce E H op t x y a b=some v) (ha:WF β a) (hb:WF β b) :
  (do eqGuard op t x y (zh β a) (zh β b);Go.binOp op t (zh β a) (zh β b)).run E.P w = .ok (zh β v) w∧WF β v:=by
 unfold Ce at h
 rw [zu]at h
 split at h
 case isFalse=>exact aK hE hF h
 rename_i hsb
 have hsym:=hsb
 rw [zB,qY,qY,Bool.and_eq_true]at hsym
 cases hi:asInt a with
 | some p=>
  have:=qU hi
  subst this
  rw [Sem.run_bind,jc hE op t x y _ _ w rfl,Result.andThen_ok]
  rw [hi,zg]at h
  cases hj:asInt b with
  | some q=>
   have:=qU hj
   subst this
   rw [hj,zg]at h
   exact mX h t β w
  | none=>
   rw [hj,zm]at h
   obtain ⟨h1,h⟩:=zl h
   have h1:=ZA h1
   cases b<;>simp only [wC]at h<;>first | (cases h;done) | skip
   rename_i q c
   obtain ⟨h2,h⟩:=zl h
   cases hm:p.2 with
   | negSucc m=>rw [hm]at h;cases h
   | ofNat m=>
    rw [hm]at h
    obtain ⟨h3,h⟩:=zl h
    cases h
    rw [zN,decide_eq_true_eq]at h3
    cases op<;>simp [wg]at h2
    refine ⟨?_,trivial⟩
    rw [h1]
    simp [zh,Go.binOp,Op.intCmp]
    omega
 | none=>
  rw [hi,zm]at h
  unfold wE at h
  cases hs:qR a with
  | some s=>
   have:=qw hs
   subst this
   rw [hs,zg]at h
   obtain ⟨u,hu,h⟩:=zf h
   have:=qw hu
   subst this
   rw [Sem.run_bind,jc hE op t x y _ _ w rfl,Result.andThen_ok]
   exact mW h ha hb t β w
  | none=>
   rw [hs,zm]at h
   obtain ⟨f,hf,h⟩:=zf h
   obtain ⟨hg,h⟩:=zl h
   obtain ⟨r,hr,h⟩:=zf h
   cases h
   have heq:=(Xp hE β hF H w 10000).1 _ _ _ _ hr ha hb Op.maxDepth (by decide)
   refine ⟨?_,by rw [JN];trivial⟩
   have guard:(eqGuard op t x y (zh β a) (zh β b)).run E.P w = .ok () w:=by
    cases a
    case agg l=>
     have hb':∃ m,b = .agg m:=by
      cases b<;>first | exact ⟨_,rfl⟩ | (exfalso;unfold Qg at hr;rw [hsb,qI]at hr;clear hsb hsym;split at hr<;>simp_all)
     obtain ⟨m,rfl⟩:=hb'
     simp only [ae,qY,Bool.not_eq_true']at hg
     exact run_eqGuard_agg w op t x y _ _ hg
    case niliface=>exact Uf hE op t x y (zh β b) w hg
    case sym i=>exact absurd hsym.1 (by simp [ZO])
    all_goals exact jc hE op t x y _ _ w rfl
   rw [Sem.run_bind,guard,Result.andThen_ok]
   have hx:V2 (zh β a)=true:=by
    cases a
    case sym i=>simp [ZO]at hsym
    all_goals first | rfl | (cases hi;done) | (cases hs;done) | (exfalso;unfold Qg at hr;rw [hsb,qI]at hr;clear hsb hsym;split at hr<;>simp_all;done)
   have heq':(Op.equal t (zh β a) (zh β b)).run E.P w = .ok r w:=heq
   unfold lR at hf
   split at hf
   ·cases hf
    rw [binOp_eql _ _ _ hx]
    simp [heq',zh]
   ·cases hf
    rw [binOp_neq _ _ _ hx]
    simp [heq',zh,qY]
   ·cases hf
end
end
section
variable [Unk]
def zY (P:Program) (β:Inj) (w:World) (m:Sem Value) (v:zd):Prop:=m.run P w = .ok (zh β v) w∧WF β v
theorem Y1 {α:Type}{v:Option zd}{d m:Nat}{f:Nat→Option α}{r:α} (h:ja v d m f=some r) :
  (v=none∧f d=some r)∨∃ k n,v=some (.int k (.ofNat n))∧n≤m∧f n=some r:=by
 cases v with
 | none=>exact .inl ⟨rfl,h⟩
 | some v=>
  obtain ⟨i,hi,h⟩:=zf h
  obtain ⟨k,rfl⟩:=ZE hi
  cases i with
  | negSucc n=>cases h
  | ofNat n=>
   obtain ⟨h1,h⟩:=zl h
   rw [zN,decide_eq_true_eq]at h1
   exact .inr ⟨k,n,rfl,h1,h⟩
theorem JF {P:Program}{w:World}{β:Inj} (k:IntKind) {n m:Nat} (h:n≤m) (c:BoundsCode) :
  (Instr.sliceBound (zh β (.int k (.ofNat n))) m c).run P w = .ok n w:=by
 unfold Instr.sliceBound
 simp [zh,asIntOf]
 omega
theorem ym {P : Program} {w : World} {β : Inj} {isSlice : Bool} {len cap cap' : Nat} {lo hi mx : Option zd} {α : Type} {f : Nat → Nat → Nat → Option α} {r : α}
    (ho : pX hi mx = true) (hc : cap ≤ cap') (hl : len ≤ cap) (h : (ja mx cap cap fun m => ja hi len m fun h => ja lo 0 h fun l => f m h l) = some r) :
    ∃ m h l, f m h l = some r ∧ l ≤ h ∧ h ≤ m ∧ m ≤ cap ∧
      (Instr.sliceBounds isSlice len cap' (lo.map (zh β)) (hi.map (zh β)) (mx.map (zh β))).run P w = .ok (l, h, if mx.isSome then m else cap') w ∧ (mx = none → m = cap) := by
  have low : ∀ m h, (ja lo 0 h fun l => f m h l) = some r → ∃ l, f m h l = some r ∧ l ≤ h ∧
      ∀ c K, (match lo.map (zh β) with
        | some v => do
          let l ← Instr.sliceBound v h c
          pure (l, h, K)
        | none => do
          let l ← pure 0
          pure (l, h, K) : Sem (Nat × Nat × Nat)).run P w = .ok (l, h, K) w := by
    intro m h hh
    rcases Y1 hh with ⟨e, hh⟩ | ⟨k3, l, e, h3, hh⟩
    · exact ⟨0, hh, Nat.zero_le _, fun c K => by rw [e]; rfl⟩
    · refine ⟨l, hh, h3, fun c K => ?_⟩
      rw [e, Option.map_some]
      simp only [Sem.run_bind, JF k3 h3 c, Result.andThen_ok, Sem.run_pure]
  rcases Y1 h with ⟨e1, h⟩ | ⟨k1, m, e1, h1, h⟩
  · rcases Y1 (show (ja hi len cap fun h => ja lo 0 h fun l => f cap h l) = some r from h) with ⟨e2, h⟩ | ⟨k2, n, e2, h2, h⟩
    · obtain ⟨l, g1, g2, g3⟩ := low _ _ h
      refine ⟨cap, len, l, g1, g2, hl, Nat.le_refl _, ?_, fun _ => rfl⟩
      subst e1; subst e2
      simp only [Instr.sliceBounds, Option.map_none, Sem.run_bind, Sem.run_pure, Result.andThen_ok, Option.isSome_none]
      exact g3 _ _
    · obtain ⟨l, g1, g2, g3⟩ := low _ _ h
      refine ⟨cap, n, l, g1, g2, h2, Nat.le_refl _, ?_, fun _ => rfl⟩
      subst e1; subst e2
      simp only [Instr.sliceBounds, Option.map_none, Option.map_some, Sem.run_bind, Sem.run_pure, Result.andThen_ok, JF k2 (Nat.le_trans h2 hc), Option.isSome_none]
      exact g3 _ _
  · rcases Y1 (show (ja hi len m fun h => ja lo 0 h fun l => f m h l) = some r from h) with ⟨e2, h⟩ | ⟨k2, n, e2, h2, h⟩
    · subst e1; subst e2; simp [pX] at ho
    · obtain ⟨l, g1, g2, g3⟩ := low _ _ h
      refine ⟨m, n, l, g1, g2, h2, h1, ?_, fun e => by rw [e1] at e; cases e⟩
      subst e1; subst e2
      simp only [Instr.sliceBounds, Option.map_some, Sem.run_bind, Result.andThen_ok, JF k1 (Nat.le_trans h1 hc), JF k2 h2, Option.isSome_some]
      exact g3 _ _
theorem lu {b off h l m sz:Nat}{ex:Bool}{v:zd} (hh:YS b off h l m sz ex=some v) :
  (m=l∧ex=true∧v = .slice b off (h-l) (m-l) true)∨(m=l∧ex=false∧v = .esl b off (off+l*sz))∨(m≠l∧v = .slice b (off+l*sz) (h-l) (m-l) ex):=by
 unfold YS at hh
 rw [zu,zG]at hh
 by_cases e:m=l
 ·rw [if_pos (by simp [e])]at hh
  cases ex with
  | true=>cases hh;exact .inl ⟨e,rfl,rfl⟩
  | false=>cases hh;exact .inr (.inl ⟨e,rfl,rfl⟩)
 ·rw [if_neg (by simp [e])]at hh
  cases hh
  exact .inr (.inr ⟨e,rfl⟩)
section
variable {E:Env} (hE:jU E)
include hE
omit hE in
theorem Yo {o:Option zd} (h:isZ o=true):o=none∨∃ k,o=some (.int k 0):=by
 cases o with
 | none=>exact .inl rfl
 | some v=>
  replace h:zt (Jy v) false (fun i=>Uk i (.ofNat 0))=true:=h
  cases hv:Jy v with
  | none=>rw [hv]at h;cases h
  | some i=>
   rw [hv,zg,ZP,beq_iff_eq]at h
   obtain ⟨k,rfl⟩:=ZE hv
   subst h
   exact .inr ⟨k,rfl⟩
theorem aI {β : Inj} (hF : qd E β) {w : World} {t : TypeId} (hd : E.desc t = some .string) {x : zd} {lo hi mx : Option zd} {v : zd} (h : fk E x lo hi mx = some v) :
    zY E.P β w (Instr.sliceAt t (zh β x) (lo.map (zh β)) (hi.map (zh β)) (mx.map (zh β))) v := by
  unfold fk at h
  cases mx with
  | some m => cases h
  | none =>
    cases hi with
    | none => cases h
    | some hh =>
      simp only [zm, zg] at h
      have key : ∀ l, findF (rG x l hh) E.facts = some v → (lo = some l ∨ (lo = none ∧ l = .int .i64 (.ofNat 0))) →
          zY E.P β w (Instr.sliceAt t (zh β x) (lo.map (zh β)) ((some hh).map (zh β)) ((none : Option zd).map (zh β))) v := by
        intro l h hl
        obtain ⟨f, hf, e⟩ := qh h
        have := ur e
        subst this
        obtain ⟨h1, h2, h3, h4, s, j, n, k, m, e1, e2, e3, e4, e5, e6⟩ := hF _ hf
        refine ⟨?_, h4⟩
        have b1 : ∀ c M, m ≤ M → (Instr.sliceBound (.int k (Int.ofNat m)) M c).run E.P w = .ok m w := by
          intro c M hM
          unfold Instr.sliceBound
          simp [asIntOf]
          omega
        have b2 : ∀ c, (Instr.sliceBound (.int j (Int.ofNat n)) m c).run E.P w = .ok n w := by
          intro c
          unfold Instr.sliceBound
          simp [asIntOf]
          omega
        unfold Instr.sliceAt
        rw [Sem.run_bind, zr hE hd]
        simp only [Result.andThen_ok]
        unfold Instr.slice
        rw [Sem.run_bind, zr hE hd]
        simp only [Result.andThen_ok, e1, Option.map_some, Option.map_none, e3]
        rcases hl with rfl | ⟨rfl, rfl⟩
        · simp only [Option.map_some, Option.isSome_none, Bool.false_eq_true, if_false, e2, Instr.sliceBounds, Sem.run_bind, Sem.run_pure, Result.andThen_ok, b1 _ _ e5, b2, e6]
        · have hn : n = 0 := by
            simp only [zh] at e2
            injection e2 with e2 e2'
            have := Int.ofNat.inj e2'
            omega
          subst hn
          simp only [Option.map_none, Option.isSome_none, Bool.false_eq_true, if_false, Instr.sliceBounds, Sem.run_bind, Sem.run_pure, Result.andThen_ok, b1 _ _ e5, e6]
      cases lo with
      | none => exact key _ h (.inr ⟨rfl, rfl⟩)
      | some l => exact key _ h (.inl rfl)
theorem ku {β:Inj}{w:World}{t e:TypeId}{sz:Nat} (hd:E.desc t=some (.slice e)) (hsz:E.size e=some sz) {s:Sl}{lo hi mx:Option zd}{v:zd} (ho:pX hi mx=true)
  (h:YK s sz lo hi mx=some v) (hx:WF β (.slice s.b s.off s.len s.cap s.ex)) :
  zY E.P β w (Instr.slice t (zh β (.slice s.b s.off s.len s.cap s.ex)) (lo.map (zh β)) (hi.map (zh β)) (mx.map (zh β))) v:=by
 unfold zY Instr.slice
 rw [Sem.run_bind,zr hE hd]
 have hl:=hx.2
 obtain ⟨m,hh,l,e1,e2,e3,e4,e5,e6⟩:=ym (P:=E.P) (w:=w) (β:=β) (isSlice:=true) (cap':=if s.ex then s.cap else s.cap+β.ext s.b) ho (by split<;>omega) hl h
 simp only [zh,Result.andThen_ok,Sem.run_bind,e5,qk hE hsz,Sem.run_pure]
 rcases lu e1 with ⟨g1,g2,rfl⟩ | ⟨g1,g2,rfl⟩ | ⟨g1,rfl⟩
 ·refine ⟨?_,⟨hx.1,by omega⟩⟩
  cases mx with
  | none=>
   have:=e6 rfl
   rw [zm]at g2
   simp only [g2,Option.isSome_none,Bool.false_eq_true,if_false,if_true,zh]
   rw [if_pos (by omega),this]
  | some mx=>
   simp only [Option.isSome_some,if_true,zh]
   rw [if_pos g1]
 ·refine ⟨?_,hx.1⟩
  cases mx with
  | some mx=>rw [zg]at g2;cases g2
  | none=>
   have:=e6 rfl
   rw [zm]at g2
   simp only [g2,Option.isSome_none,Bool.false_eq_true,if_false,zh,Option.map_some,Inj.jf]
   by_cases he:β.ext s.b=0
   ·rw [if_pos (by omega),if_pos he]
    congr 2<;>omega
   ·rw [if_neg (by omega),if_neg he]
    congr 2<;>omega
 ·refine ⟨?_,⟨hx.1,by omega⟩⟩
  cases mx with
  | none=>
   have:=e6 rfl
   rw [this]at g1 e3 ⊢
   simp only [Option.isSome_none,Bool.false_eq_true,if_false,zh,zm,Option.map_some,Inj.jf]
   cases hex:s.ex
   ·simp only [Bool.false_eq_true,if_false]
    rw [if_neg (by omega)]
    congr 2
    omega
   ·simp only [if_true]
    rw [if_neg g1]
  | some mx=>
   simp only [Option.isSome_some,if_true,zh,zg,Option.map_some,Inj.jf]
   rw [if_neg g1]
omit hE in
theorem te {v:zd}{q:Nat} (h:ma v=some q):v = .sym q:=by cases v<;>cases h;rfl
omit hE in
theorem Ym {β:Inj} (hF:qd E β) {q:Nat}{n:Nat×Nat} (h:findF (rN q) E.facts=some n):WF β (.sym q)∧∃ N:Nat,zh β (.sym q) = .int .i64 (N:Int)∧n.1≤N∧N≤n.2:=by
 obtain ⟨f,hf,e⟩:=qh h
 cases f<;>try cases e
 rename_i p lo hi
 obtain ⟨h1,h2⟩:=zl e
 rw [zG,beq_iff_eq]at h1
 subst h1
 cases h2
 exact hF _ hf
omit hE in
theorem dG {β:Inj} (hF:qd E β) {q m r:Nat} (h:findF (rQ q m) E.facts=some r):WF β (.sym q)∧WF β (.sym r)∧∃ N:Nat,zh β (.sym q) = .int .i64 (N:Int)∧m≤N∧zh β (.sym r) = .int .i64 ((N-m:Nat):Int):=by
 obtain ⟨f,hf,e⟩:=qh h
 cases f<;>try cases e
 rename_i p k r'
 obtain ⟨h1,h2⟩:=zl e
 rw [zB,Bool.and_eq_true,zG,zG,beq_iff_eq,beq_iff_eq]at h1
 obtain ⟨h1,h3⟩:=h1
 subst h1
 subst h3
 cases h2
 exact hF _ hf
theorem VR {β:Inj} (hF:qd E β) {w:World}{t e:TypeId}{sz:Nat} (hd:E.desc t=some (.slice e)) (hsz:E.size e=some sz) {p:Psl}{lo hi mx:Option zd}{v x:zd} (ho:pX hi mx=true)
  (h:VS E p sz lo hi mx=some v) (ex:x = .psl p.b p.o p.q p.c p.ex) (hx:WF β x) :
  zY E.P β w (Instr.slice t (zh β x) (lo.map (zh β)) (hi.map (zh β)) (mx.map (zh β))) v:=by
 subst ex
 obtain ⟨w1,w2,N,w3,w4⟩:=hx
 have cx:zh β (.psl p.b p.o p.q p.c p.ex)=zh β (.slice p.b p.o N p.c p.ex):=by
  simp only [zh]
  rw [w3]
  rfl
 have hx':WF β (.slice p.b p.o N p.c p.ex):=⟨w1,w4⟩
 rw [cx]
 unfold VS at h
 cases mx with
 | some m=>cases h
 | none=>
  rw [zm]at h
  cases hi with
  | some hh=>
   rw [zg]at h
   exact ku (s:=⟨p.b,p.o,N,p.c,p.ex⟩) hE hd hsz rfl h hx'
  | none=>
   rw [zm,zu]at h
   split at h
   ·rename_i hz
    cases h
    rw [zB,Bool.and_eq_true,qo,decide_eq_true_eq]at hz
    obtain ⟨hz,hc⟩:=hz
    have key:YK ⟨p.b,p.o,N,p.c,p.ex⟩ sz lo none none=some (.slice p.b p.o N p.c p.ex):=by
     have e2:YS p.b p.o N 0 p.c sz p.ex=some (.slice p.b p.o N p.c p.ex):=by
      unfold YS
      rw [zu,zG,if_neg (by simp;omega)]
      simp only [z7]
      show some (zd.slice p.b (p.o+0*sz) (N-0) (p.c-0) p.ex)=_
      simp
     rcases Yo hz with rfl | ⟨k,rfl⟩
     ·exact e2
     ·exact e2
    obtain ⟨g1,g2⟩:=ku (w:=w) hE hd hsz rfl key hx'
    exact ⟨by rw [cx];exact g1,⟨w1,w2,N,w3,w4⟩⟩
   ·obtain ⟨l,hl0,h'⟩:=zf h
    clear h
    subst hl0
    obtain ⟨i,hi',h⟩:=zf h'
    clear h'
    obtain ⟨k,rfl⟩:=ZE hi'
    cases i with
    | negSucc m=>cases h
    | ofNat m=>
    replace h:(bnd (findF (rN p.q) E.facts) fun n=>ifB (zH (Nat.blt m p.c) (Nat.ble m n.1)) (bnd (findF (rQ p.q m) E.facts) fun q=>frc (Nat.add p.o (Nat.mul m sz)) fun o=>frc (Nat.sub p.c m) fun c=>some (zd.psl p.b o q c p.ex)) none)=some v:=h
    obtain ⟨n,hn,h⟩:=zf h
    obtain ⟨hc,h⟩:=zl h
    simp only [zB,Bool.and_eq_true,qo,zN,decide_eq_true_eq]at hc
    obtain ⟨hc1,hc2⟩:=hc
    obtain ⟨q',hq',h⟩:=zf h
    simp only [z7]at h
    cases h
    obtain ⟨k1,N1,k2,k3,k4⟩:=Ym hF hn
    obtain ⟨d1,d2,N2,d3,d4,d5⟩:=dG hF hq'
    have eN:yk ((β p.q).getD (0,0,0)) = .int .i64 (N1:Int):=k2
    have eN2:yk ((β p.q).getD (0,0,0)) = .int .i64 (N2:Int):=d3
    rw [w3]at eN eN2
    have h1:N=N1:=by injection eN with _ e;omega
    have h2:N=N2:=by injection eN2 with _ e;omega
    subst h1
    subst h2
    have key:YK ⟨p.b,p.o,N,p.c,p.ex⟩ sz (some (.int k (.ofNat m))) none none=some (.slice p.b (p.o+m*sz) (N-m) (p.c-m) p.ex):=by
     show (ja (some (.int k (.ofNat m))) 0 N fun l=>YS p.b p.o N l p.c sz p.ex)=_
     show ifB (Nat.ble m N) (YS p.b p.o N m p.c sz p.ex) none=_
     rw [zu,zN,if_pos (decide_eq_true (by omega))]
     unfold YS
     rw [zu,zG,if_neg (by simp;omega)]
     simp only [z7]
     rfl
    obtain ⟨g1,g2⟩:=ku (w:=w) hE hd hsz rfl key hx'
    refine ⟨?_,⟨w1,d2,N-m,d5,by show N-m≤p.c-m;omega⟩⟩
    rw [g1]
    simp only [zh]
    rw [show yk ((β q').getD (0,0,0)) = .int .i64 ((N-m:Nat):Int) from d5]
    rfl
theorem bV {β:Inj} (hF:qd E β) {w:World}{t:TypeId}{x:zd}{lo hi mx:Option zd}{v:zd} (h:td E t x lo hi mx=some v) (hx:WF β x) :
  zY E.P β w (Instr.sliceAt t (zh β x) (lo.map (zh β)) (hi.map (zh β)) (mx.map (zh β))) v:=by
 obtain ⟨ho,h⟩:=zl h
 obtain ⟨d,hd,h⟩:=zf h
 unfold zY Instr.sliceAt
 rw [Sem.run_bind,zr hE hd]
 cases h1:jy d with
 | some e=>
  have:=jk h1
  subst this
  rw [h1,zg]at h
  obtain ⟨sz,hsz,h⟩:=zf h
  simp only [Result.andThen_ok]
  cases h2:jN x with
  | some s=>
   have:=jo h2
   subst this
   rw [h2,zg]at h
   cases h4:bnd hi ma with
   | none=>
    rw [h4,zm]at h
    exact ku hE hd hsz ho h hx
   | some q0=>
    rw [h4,zg]at h
    unfold cQ at h
    cases mx with
    | some m=>cases h
    | none=>
     rw [zm]at h
     obtain ⟨hh,hh0,h'⟩:=zf h
     clear h
     subst hh0
     obtain ⟨q,hq,hQ⟩:=zf h'
     have:=te hq
     subst this
     obtain ⟨n,hn,hQ⟩:=zf hQ
     obtain ⟨hc,hQ⟩:=zl hQ
     cases hQ
     simp only [zB,Bool.and_eq_true,qo,zN,decide_eq_true_eq]at hc
     obtain ⟨hz,hc1,hc2⟩:=hc
     obtain ⟨k1,N,k2,k3,k4⟩:=Ym hF hn
     have key:YK s sz lo (some (.int .i64 (.ofNat N))) none=some (.slice s.b s.off N s.cap s.ex):=by
      have e1:∀ f:Nat→Option zd,ja (some (.int .i64 (.ofNat N))) s.len s.cap f=f N:=fun f=>by
       show ifB (Nat.ble N s.cap) (f N) none=f N
       rw [zu,zN,if_pos (decide_eq_true (by omega))]
      have e2:YS s.b s.off N 0 s.cap sz s.ex=some (.slice s.b s.off N s.cap s.ex):=by
       unfold YS
       rw [zu,zG,if_neg (by simp;omega)]
       simp only [z7]
       show some (zd.slice s.b (s.off+0*sz) (N-0) (s.cap-0) s.ex)=_
       simp
      show (ja (some (.int .i64 (.ofNat N))) s.len s.cap fun h=>ja lo 0 h fun l=>YS s.b s.off h l s.cap sz s.ex)=_
      rw [e1]
      rcases Yo hz with rfl | ⟨k,rfl⟩
      ·exact e2
      ·exact e2
     obtain ⟨g1,g2⟩:=ku (w:=w) hE hd hsz (lo:=lo) (hi:=some (.int .i64 (.ofNat N))) (mx:=none) rfl key hx
     have e3:zh β (.int .i64 (.ofNat N))=zh β (.sym q):=by rw [k2];rfl
     refine ⟨?_,⟨hx.1,k1,N,k2,by omega⟩⟩
     simp only [Option.map_some,e3]at g1 ⊢
     rw [g1]
     simp only [zh]
     rw [show yk ((β q).getD (0,0,0)) = .int .i64 (N:Int) from k2]
     rfl
  | none=>
   rw [h2,zm]at h
   cases h3:jB x with
   | false=>
    rw [h3,yq]at h
    cases hos:yL x with
    | none=>
     rw [hos,zm]at h
     cases hp:ay x with
     | some p=>
      rw [hp,zg]at h
      exact VR hE hF hd hsz ho h (KR hp) hx
     | none=>
      rw [hp,zm]at h
      unfold cP at h
      cases mx with
      | some m=>cases h
      | none=>
       rw [zm]at h
       obtain ⟨hz,hQ⟩:=zl h
       obtain ⟨hh,hh0,hR⟩:=zf hQ
       subst hh0
       obtain ⟨f,hf,e0⟩:=qh hR
       have:=rH e0
       subst this
       obtain ⟨_,_,h3',p0,n0,c0,j0,k0,e1,e2,e3,e4⟩:=hF _ hf
       have b1:∀ c,(Instr.sliceBound (.int j0 (Int.ofNat k0)) c0 c).run E.P w = .ok k0 w:=by
        intro c
        unfold Instr.sliceBound
        simp [asIntOf]
        omega
       have b2:∀ j c,(Instr.sliceBound (.int j 0) k0 c).run E.P w = .ok 0 w:=by
        intro j c
        unfold Instr.sliceBound
        simp [asIntOf]
       refine ⟨?_,h3'⟩
       unfold Instr.slice
       rw [Sem.run_bind,zr hE hd]
       rcases Yo hz with rfl | ⟨j,rfl⟩
       ·simp only [e1,e2,Option.map_some,Option.map_none,Option.isSome_none,Bool.false_eq_true,if_false,if_true,Instr.sliceBounds,Sem.run_bind,Sem.run_pure,Result.andThen_ok,b1,qk hE hsz,e4]
        split<;>cases p0<;>simp [Addr.add]
       ·simp only [e1,e2,zh,Option.map_some,Option.map_none,Option.isSome_none,Bool.false_eq_true,if_false,if_true,Instr.sliceBounds,Sem.run_bind,Sem.run_pure,Result.andThen_ok,b1,b2,qk hE hsz,e4]
        split<;>cases p0<;>simp [Addr.add]
    | some p=>
    rw [hos,zg]at h
    have hQ:=h
    have:=ZD hos
    subst this
    unfold Instr.slice
    rw [Sem.run_bind,zr hE hd]
    obtain ⟨hw1,hw2,str0,hs1,hs2⟩:=hx
    obtain ⟨hz,hQ⟩:=zl hQ
    cases mx with
    | none=>
     rw [zm]at hQ
     cases hi with
     | some _=>cases hQ
     | none=>
      cases hQ
      have key:(ja (none:Option zd) (β.ext p.1) (β.ext p.1) fun m=>ja (none:Option zd) str0.size m fun h=>ja lo 0 h fun l=>some (m,h,l))=some (β.ext p.1,str0.size,0):=by
       rcases Yo hz with rfl | ⟨k,rfl⟩<;>rfl
      obtain ⟨m,hh,l,e1,e2,e3,e4,e5,e6⟩:=ym (P:=E.P) (w:=w) (β:=β) (isSlice:=true) (len:=str0.size) (cap:=β.ext p.1) (cap':=β.ext p.1) (f:=fun m h l=>some (m,h,l)) ho (Nat.le_refl _) hs2 key
      cases e1
      refine ⟨?_,hw1,hw2,str0,hs1,hs2⟩
      simp only [zh,hs1,sOf,Result.andThen_ok,Sem.run_bind,e5,qk hE hsz,Sem.run_pure,Option.isSome_none,Bool.false_eq_true,if_false,Option.map_some,Inj.jf]
      split<;>simp
    | some mx=>
     rw [zg]at hQ
     cases hi with
     | none=>cases hQ
     | some hi=>
      rw [zg]at hQ
      obtain ⟨hz2,hQ⟩:=zl hQ
      cases hQ
      rw [zB,Bool.and_eq_true]at hz2
      obtain ⟨hm,hh⟩:=hz2
      rcases Yo hm with hm | ⟨k1,hm⟩
      ·cases hm
      ·cases hm
       rcases Yo hh with hh | ⟨k2,hh⟩
       ·cases hh
       ·cases hh
        have key:(ja (some (zd.int k1 0)) (β.ext p.1) (β.ext p.1) fun m=>ja (some (zd.int k2 0)) str0.size m fun h=>ja lo 0 h fun l=>some (m,h,l))=some (0,0,0):=by
         rcases Yo hz with rfl | ⟨k,rfl⟩<;>rfl
        obtain ⟨m,hh,l,e1,e2,e3,e4,e5,e6⟩:=ym (P:=E.P) (w:=w) (β:=β) (isSlice:=true) (len:=str0.size) (cap:=β.ext p.1) (cap':=β.ext p.1) (f:=fun m h l=>some (m,h,l)) ho (Nat.le_refl _) hs2 key
        cases e1
        refine ⟨?_,hw1,Nat.le_refl _⟩
        simp only [zh,hs1,sOf,Result.andThen_ok,Sem.run_bind,e5,qk hE hsz,Sem.run_pure,Option.isSome_some,if_true]
   | true=>
    rw [h3,qI]at h
    have h':=h
    clear h
    have:=je h3
    subst this
    unfold Instr.slice
    rw [Sem.run_bind,zr hE hd]
    obtain ⟨m,hh,l,e1,e2,e3,e4,e5,e6⟩:=ym (P:=E.P) (w:=w) (β:=β) (isSlice:=true) (len:=0) (cap:=0) (cap':=0) (f:=fun _ _ _=>some zd.nilslice) ho (Nat.le_refl _) (Nat.le_refl _)
     (show cR lo hi mx=some v from h')
    cases e1
    refine ⟨?_,trivial⟩
    have hm:m=0:=by omega
    simp only [zh,Result.andThen_ok,Sem.run_bind,e5,qk hE hsz,Sem.run_pure]
    have h0:hh=0:=by omega
    have l0:l=0:=by omega
    subst h0 l0
    cases mx<;>simp [hm]
 | none=>
  rw [h1,zm]at h
  cases h2:yw d with
  | some q=>
   have:=yu h2
   subst this
   rw [h2,zg]at h
   obtain ⟨sz,hsz,h⟩:=zf h
   obtain ⟨p,hp,h⟩:=zf h
   have:=j9 hp
   subst this
   obtain ⟨m,hh,l,e1,e2,e3,e4,e5,e6⟩:=ym (P:=E.P) (w:=w) (β:=β) (isSlice:=false) (cap':=q.1) (f:=fun m h l=>YS p.1 p.2 h l m sz true) ho (Nat.le_refl _) (Nat.le_refl _) h
   simp only [zh,Result.andThen_ok,Sem.run_bind,Instr.sureAddr,e5,qk hE hsz,Sem.run_pure]
   have hm:(if mx.isSome=true then m else q.1)=m:=by
    cases mx with
    | none=>simp [e6 rfl]
    | some _=>simp
   rw [hm]
   rcases lu e1 with ⟨g1,g2,rfl⟩ | ⟨g1,g2,rfl⟩ | ⟨g1,rfl⟩
   ·exact ⟨by simp [zh,g1],⟨hx,by omega⟩⟩
   ·cases g2
   ·exact ⟨by simp [zh,g1,Inj.jf],⟨hx,by omega⟩⟩
  | none=>
   rw [h2,zm]at h
   obtain ⟨h3,h⟩:=zl h
   have:=qW h3
   subst this
   cases hs:qR x with
   | none=>
    rw [hs,zm]at h
    have:=aI (w:=w) hE hF hd h
    unfold zY Instr.sliceAt at this
    rw [Sem.run_bind,zr hE hd]at this
    exact this
   | some s=>
   rw [hs,zg]at h
   have h':=h
   clear h
   have:=qw hs
   subst this
   simp only [Result.andThen_ok]
   unfold Instr.slice
   rw [Sem.run_bind,zr hE hd]
   cases mx with
   | some mx=>cases h'
   | none=>
    have h:(ja hi (qT s 0) (qT s 0) fun h=>ja lo 0 h fun l=>some (zd.str (ag l (VM h s))))=some v:=h'
    obtain ⟨m,hh,l,e1,e2,e3,e4,e5,e6⟩:=ym (P:=E.P) (w:=w) (β:=β) (isSlice:=false) (len:=s.length) (cap:=s.length) (cap':=s.length) (mx:=none) (lo:=lo) (hi:=hi)
     (f:=fun _ h l=>some (zd.str (ag l (VM h s)))) (r:=v) ho (Nat.le_refl _) (Nat.le_refl _) (by rw [jz]at h;exact h)
    cases e1
    have e7:(str s).extract l hh=str ((s.take hh).drop l):=by
     apply ByteArray.ext
     apply Array.toList_inj.1
     simp [str,List.drop_take,List.extract_eq_take_drop]
    simp only [zh,Result.andThen_ok,Option.map_none,Option.isSome_none,Bool.false_eq_true,if_false,qK]at e5 ⊢
    refine ⟨?_,fun b hb=>?_⟩
    ·rw [Sem.run_bind,e5]
     simp [e7]
    ·rw [KD,YG]at hb
     exact hx b (List.mem_of_mem_take (List.mem_of_mem_drop hb))
end
end
section
variable [Unk]
theorem Qk {α:Type}{n:Nat}{s:Nat→Option α}{a:α} (h:Q9 n none s=some a):∃ m,n=m+1∧s m=some a:=by
 cases n with
 | zero=>cases h
 | succ m=>exact ⟨m,rfl,h⟩
theorem qP {α:Type}{i:Int}{f:Nat→Option α}{a:α} (h:Jq i f=some a):∃ n,i = .ofNat n∧f n=some a:=by
 cases i with
 | ofNat n=>exact ⟨n,rfl,h⟩
 | negSucc n=>cases h
theorem Ko {α:Type}{i:Int}{n:Nat}{f:Nat→Option α}{a:α} (h:inB i n f=some a):∃ m,i = .ofNat m∧m<n∧f m=some a:=by
 cases i with
 | ofNat m=>
  replace h:=zl h
  obtain ⟨h1,h⟩:=h
  rw [qo,decide_eq_true_eq]at h1
  exact ⟨m,rfl,h1,h⟩
 | negSucc m=>cases h
section
variable {E:Env} (hE:jU E)
include hE
theorem Um {β:Inj}{w:World}{s:TypeId}{x v:zd}{i:Nat}{d:TypeDesc}{fs:List Field}{fl:Field}{p:Nat×Nat}
  (hd:E.desc s=some d) (hs:k8 d=some fs) (hf:ZY i fs=some fl) (hp:ZS x=some p) (h:lP E p.1 p.2 fl=some v) (hx:WF β x) :
  zY E.P β w (Instr.fieldAt s (zh β x) i) v:=by
 obtain ⟨fs',rfl,rfl⟩:=QP hs
 have:=j9 hp
 subst this
 replace h:=zf h
 obtain ⟨n,hn,h⟩:=h
 replace h:=Qk h
 obtain ⟨m,rfl,h⟩:=h
 cases h
 rw [kb,Array.getElem?_toList]at hf
 refine ⟨?_,hx⟩
 unfold Instr.fieldAt fieldPlace
 simp [zr hE hd,hf,zh,Instr.sureAddr,qk hE hn,Inj.jf]
theorem Wj {β:Inj} (hF:qd E β) {w:World}{t:TypeId}{x ix v:zd} (h:KW E t x ix=some v) (hx:WF β x) :
  zY E.P β w (Instr.indexAt t (zh β x) (zh β ix)) v:=by
 replace h:=zf h
 obtain ⟨i,hi,h⟩:=h
 obtain ⟨k,rfl⟩:=ZE hi
 replace h:=zf h
 obtain ⟨d,hd,h⟩:=h
 cases h1:jy d with
 | some e=>
  have:=jk h1
  subst this
  rw [h1,zg]at h
  replace h:=zf h
  obtain ⟨s,hs,h⟩:=h
  cases hq:jN x with
  | some q=>
   rw [hq,zg]at h
   have:=jo hq
   subst this
   replace h:=Ko h
   obtain ⟨m,rfl,hm,h⟩:=h
   cases h
   refine ⟨?_,hx.1⟩
   unfold Instr.indexAt
   simp [zr hE hd,zh,asIntOf,qk hE hs,Inj.jf,hm]
  | none=>
   rw [hq,zm]at h
   obtain ⟨p,hp,h⟩:=zf h
   have:=KR hp
   subst this
   obtain ⟨w1,w2,N,w3,w4⟩:=hx
   obtain ⟨m,hi0,hQ⟩:=qP h
   subst hi0
   obtain ⟨n,hn,hQ⟩:=zf hQ
   obtain ⟨hm,hQ⟩:=zl hQ
   rw [qo,decide_eq_true_eq]at hm
   cases hQ
   obtain ⟨k1,N1,k2,k3,k4⟩:=Ym hF hn
   have eN:yk ((β p.q).getD (0,0,0)) = .int .i64 (N1:Int):=k2
   rw [w3]at eN
   have h1:N=N1:=by injection eN with _ e;omega
   subst h1
   have hlt:m<N:=by omega
   refine ⟨?_,w1⟩
   unfold Instr.indexAt
   simp [zr hE hd,zh,asIntOf,qk hE hs,Inj.jf,w3,rr,hlt]
 | none=>
  rw [h1,zm]at h
  replace h:=zf h
  obtain ⟨q,hq,h⟩:=h
  have:=yu hq
  subst this
  replace h:=zf h
  obtain ⟨p,hp,h⟩:=h
  have:=j9 hp
  subst this
  replace h:=zf h
  obtain ⟨s,hs,h⟩:=h
  replace h:=Ko h
  obtain ⟨m,rfl,hm,h⟩:=h
  cases h
  refine ⟨?_,hx⟩
  unfold Instr.indexAt
  simp [zr hE hd,zh,asIntOf,Instr.sureAddr,qk hE hs,Inj.jf,hm]
theorem VP {β:Inj} (hF:qd E β) {w:World}{t:TypeId}{x ix v:zd} (h:cK E t x ix=some v) :
  zY E.P β w (Instr.index t (zh β x) (zh β ix)) v:=by
 replace h:=zf h
 obtain ⟨i,hi,h⟩:=h
 obtain ⟨k,rfl⟩:=ZE hi
 replace h:=zf h
 obtain ⟨d,hd,h⟩:=h
 replace h:=zl h
 obtain ⟨h2,h⟩:=h
 have:=qW h2
 subst this
 replace h:=qP h
 obtain ⟨n,rfl,h⟩:=h
 obtain ⟨f,hf,e⟩:=qh h
 have:=xS e
 subst this
 obtain ⟨h1,h2,s,b,e1,e2,e3⟩:=hF _ hf
 refine ⟨?_,h2⟩
 have e4:s[n]? = some b:=by
  have hlt:=(Array.getElem?_eq_some_iff.1 e2).1
  rw [getElem?_pos s n hlt]
  congr 1
  exact (Array.getElem?_eq_some_iff.1 e2).2
 unfold Instr.index
 simp [zr hE hd,zh,asIntOf,e1,e3,e4]
theorem cm {β:Inj}{w:World}{t:TypeId}{x ix v:zd} (h:tp E t x ix=some v) (hx:WF β x) :
  zY E.P β w (Instr.index t (zh β x) (zh β ix)) v:=by
 replace h:=zf h
 obtain ⟨i,hi,h⟩:=h
 obtain ⟨k,rfl⟩:=ZE hi
 cases h1:qR x with
 | some s=>
  have:=qw h1
  subst this
  rw [h1,zg]at h
  replace h:=zf h
  obtain ⟨d,hd,h⟩:=h
  replace h:=zl h
  obtain ⟨h2,h⟩:=h
  have:=qW h2
  subst this
  replace h:=qP h
  obtain ⟨n,rfl,h⟩:=h
  replace h:=zf h
  obtain ⟨b,hb,h⟩:=h
  cases h
  rw [kb]at hb
  have hb':b<256:=hx b (List.mem_of_getElem? hb)
  refine ⟨?_,trivial⟩
  unfold Instr.index
  have e:(str s)[n]? = some (UInt8.ofNat b):=by
   have hlt:=(List.getElem?_eq_some_iff.1 hb).1
   rw [getElem?_pos (str s) n (by rw [qK];exact hlt)]
   congr 1
   have:(str s)[n]'(by rw [qK];exact hlt)=UInt8.ofNat (s[n]'hlt):=by
    show (str s).data[n]'_=_
    simp [str]
   rw [this,(List.getElem?_eq_some_iff.1 hb).2]
  simp [zr hE hd,zh,asIntOf,e,u8]
  omega
 | none=>
  rw [h1,zm]at h
  replace h:=zf h
  obtain ⟨d,hd,h⟩:=h
  replace h:=zf h
  obtain ⟨q,hq,h⟩:=h
  have:=yu hq
  subst this
  replace h:=zf h
  obtain ⟨cs,hc,h⟩:=h
  have:=eG hc
  subst this
  replace h:=zf h
  obtain ⟨s,hs,h⟩:=h
  replace h:=Ko h
  obtain ⟨m,rfl,hm,h⟩:=h
  obtain ⟨g1,g2⟩:=kP hE h hx w
  refine ⟨?_,g2⟩
  have g1:(part q.2 (zq β cs).toArray (m*s)).run E.P w = .ok (zh β v) w:=g1
  unfold Instr.index
  simp [zr hE hd,zh,asIntOf,qk hE hs,hm,g1]
theorem cq {β:Inj}{w:World}{t:TypeId}{x v:zd}{i:Nat}{d:TypeDesc}{fs:List Field}{fl:Field}{cs:List zd}
  (hd:E.desc t=some d) (hs:k8 d=some fs) (hf:ZY i fs=some fl) (hp:asAgg x=some cs) (h:E.apart fl.type cs fl.offset=some v) (hx:WF β x) :
  zY E.P β w (Instr.field t (zh β x) i) v:=by
 obtain ⟨fs',rfl,rfl⟩:=QP hs
 have:=eG hp
 subst this
 rw [kb,Array.getElem?_toList]at hf
 obtain ⟨g1,g2⟩:=kP hE h hx w
 refine ⟨?_,g2⟩
 unfold Instr.field
 simp [zr hE hd,hf,zh,Go.asAgg,g1]
omit hE in
theorem KY {P:Program}{β:Inj}{w:World}{x v:zd}{i:Nat}{l:List zd} (hp:asTuple x=some l) (h:ZY i l=some v) (hx:WF β x) :
  zY P β w (Instr.extract (zh β x) i) v:=by
 have:=ij hp
 subst this
 rw [kb]at h
 refine ⟨?_,(jb _ _).1 hx v (List.mem_of_getElem? h)⟩
 unfold Instr.extract
 simp [zh,zK,h]
omit hE in
theorem bU {P:Program}{β:Inj}{w:World}{op:UnOp}{x v:zd} (h:tc op x=some v):zY P β w (Op.unary op (zh β x)) v:=by
 cases op with
 | neg=>
  replace h:=zf h
  obtain ⟨p,hp,h⟩:=h
  have:=qU hp
  subst this
  cases h
  exact ⟨by simp [Op.unary,zh,Op.intArith,unNeg,yK,lK],by simp [unNeg,WF]⟩
 | xor=>
  replace h:=zf h
  obtain ⟨p,hp,h⟩:=h
  have:=qU hp
  subst this
  cases h
  obtain ⟨k,n⟩:=p
  refine ⟨?_,by simp [unXor,WF]⟩
  unfold unXor
  have hlt:Nat.xor (Jd k n) (Nat.sub (full k) 1)<full k:=oB k _ _ (ZJ _ _) (by have:=Kw k;show full k-1<full k;omega)
  rw [yG,Zo _ _ hlt]
  have e:Jd k (if k.signed then -1 else k.max)=full k-1:=by cases k<;>rfl
  simp only [Op.unary,zh,Op.intBits,Sem.run_pure,BitVec.toNat_xor,kQ,e]
  rw [Nat.xor_comm];rfl
 | not=>
  replace h:=zf h
  obtain ⟨b,hb,h⟩:=h
  have:=yx hb
  subst this
  cases h
  cases b<;>exact ⟨rfl,trivial⟩
 | plus=>cases h
theorem iE {β:Inj} (hF:qd E β) {H:Heap}{w:World} (hR:Rel E.P β H w) {t:TypeId}{x v:zd} (h:DL E H t x=some v) (hx:WF β x) (ts:Array TypeId) (ty:TypeId) (ht:ts[0]? = some t) (args:Array Value) (ha:args[0]? = some (zh β x)) :
  zY E.P β w (Builtin.len_ ts ty args) v:=by
 replace h:=zf h
 obtain ⟨d,hd,h⟩:=h
 unfold zY Builtin.len_
 simp only [ht,ha,Sem.run_bind,zr hE hd,Result.andThen_ok]
 cases h1:jy d with
 | some e=>
  have:=jk h1
  subst this
  rw [h1,zg]at h
  cases h2:jN x with
  | some s=>
   have:=jo h2
   subst this
   rw [h2,zg]at h
   cases h
   exact ⟨by simp [zh,goInt],trivial⟩
  | none=>
   rw [h2,zm,zu]at h
   split at h
   ·rename_i h3
    have:=je h3
    subst this
    cases h
    exact ⟨by simp [zh,goInt],trivial⟩
   ·rw [zu]at h
    split at h
    ·rename_i h3
     obtain ⟨b,o,q,rfl⟩:=si h3
     cases h
     exact ⟨by simp [zh,goInt],trivial⟩
    ·cases hp:yL x with
     | none=>
      rw [hp,zm]at h
      cases hp:ay x with
      | some p=>
       rw [hp,zg]at h
       have:=KR hp
       subst this
       cases h
       obtain ⟨w1,w2,N,w3,w4⟩:=hx
       exact ⟨by simp [zh,w3,rr,goInt],w2⟩
      | none=>
       rw [hp,zm]at h
       obtain ⟨f,hf,e0⟩:=qh h
       have:=rJ e0
       subst this
       obtain ⟨_,h2',p0,n0,c0,e1,e2⟩:=hF _ hf
       exact ⟨by simp [e1,e2,goInt],h2'⟩
     | some p=>
     rw [hp,zg]at h
     have:=ZD hp
     subst this
     cases hs:qR p.2 with
     | some s=>
      rw [hs,zg]at h
      have hps:=qw hs
      cases h
      refine ⟨?_,trivial⟩
      simp [zh,hps,sOf,goInt,qK]
     | none=>
      rw [hs,zm]at h
      obtain ⟨f,hf,e⟩:=qh h
      have:=JO e
      subst this
      obtain ⟨h1,h2,s,e1,e2⟩:=hF _ hf
      exact ⟨by simp [zh,e1,e2,sOf,goInt],h2⟩
 | none=>
  rw [h1,zm,zu]at h
  split at h
  ·rename_i h2
   have:=qW h2
   subst this
   cases hs:qR x with
   | some s=>
    rw [hs,zg]at h
    have:=qw hs
    subst this
    cases h
    exact ⟨by simp [zh,goInt,qK],trivial⟩
   | none=>
    rw [hs,zm]at h
    obtain ⟨f,hf,e⟩:=qh h
    have:=JO e
    subst this
    obtain ⟨h1,h2,s,e1,e2⟩:=hF _ hf
    exact ⟨by simp [e1,e2,goInt],h2⟩
  ·unfold CX at h
   cases h3:yw d with
   | some q=>
    have:=yu h3
    subst this
    rw [h3,zg]at h
    cases h
    exact ⟨by simp [zh,goInt],trivial⟩
   | none=>
    rw [h3,zm]at h
    cases h4:nY d with
    | some q=>
     have:=Vu h4
     subst this
     rw [h4,zg,zu]at h
     split at h
     ·rename_i h5
      have:=WJ h5
      subst this
      cases h
      exact ⟨by simp [zh,goInt],trivial⟩
     ·replace h:=zf h
      obtain ⟨r,hr,h⟩:=h
      have:=Xl hr
      subst this
      replace h:=zf h
      obtain ⟨b,hb,h⟩:=h
      replace h:=zf h
      obtain ⟨m,hm,h⟩:=h
      cases h
      cases b<;>cases hm
      obtain ⟨y,hy⟩:=Option.isSome_iff_exists.1 hx
      obtain ⟨arr,g1,g2,g3⟩:=hR.blk _ _ _ hb hy
      refine ⟨?_,trivial⟩
      have e:β.blk r=y.1:=by simp [Inj.blk,hy]
      simp [zh,getObj,Sem.run,e,g1,goInt,← Array.length_toList,g2]
    | none=>
     rw [h4,zm]at h
     replace h:=zf h
     obtain ⟨a,ha',h⟩:=h
     have:=Vt ha'
     subst this
     replace h:=zf h
     obtain ⟨d',hd',h⟩:=h
     replace h:=zf h
     obtain ⟨q,hq,h⟩:=h
     have:=yu hq
     subst this
     cases h
     exact ⟨by simp [zh,goInt,zr hE hd'],trivial⟩
theorem iF {β:Inj}{w:World}{t:TypeId}{x v:zd} (h:DO E t x=some v) (hx:WF β x) (ts:Array TypeId) (ty:TypeId) (ht:ts[0]? = some t) (args:Array Value) (ha:args[0]? = some (zh β x)) :
  zY E.P β w (Builtin.cap_ ts ty args) v:=by
 replace h:=zf h
 obtain ⟨d,hd,h⟩:=h
 replace h:=zf h
 obtain ⟨e,he,h⟩:=h
 have:=jk he
 subst this
 unfold zY Builtin.cap_
 simp only [ht,ha,Sem.run_bind,zr hE hd,Result.andThen_ok]
 cases h2:jN x with
 | some s=>
  have:=jo h2
  subst this
  rw [h2,zg]at h
  cases h
  cases hs:s.ex
  ·exact ⟨by simp [zh,goInt],hx.1⟩
  ·exact ⟨by simp [zh,goInt],trivial⟩
 | none=>
  rw [h2,zm]at h
  replace h:=zl h
  obtain ⟨h3,h⟩:=h
  have:=je h3
  subst this
  cases h
  exact ⟨by simp [zh,goInt],trivial⟩
omit hE in
theorem iA {P:Program}{β:Inj}{w:World}:∀ (l:List zd) (x v:zd),B8 l x=some v→WF β x→WFs β l→zY P β w ((zq β l).foldlM Builtin.min2 (zh β x)) v:=by
 intro l
 induction l with
 | nil=>intro x v h hx _;cases h;exact ⟨by simp [zq],hx⟩
 | cons b l ih=>
  intro x v h hx hl
  replace h:=zf h
  obtain ⟨p,hp,h⟩:=h
  replace h:=zf h
  obtain ⟨q,hq,h⟩:=h
  have:=qU hp
  subst this
  have:=qU hq
  subst this
  obtain ⟨g1,g2⟩:=ih _ _ h trivial hl.2
  refine ⟨?_,g2⟩
  simp only [zq,List.foldlM_cons,Sem.run_bind]
  have:(Builtin.min2 (zh β (.int p.1 p.2)) (zh β (.int q.1 q.2))).run P w = .ok (zh β (.int p.1 (ifB (ilt q.2 p.2) q.2 p.2))) w:=by
   simp [Builtin.min2,zh,zu,Yp]
  rw [this];exact g1
omit hE in
theorem iB {P:Program}{β:Inj}{w:World}:∀ (l:List zd) (x v:zd),Ca l x=some v→WF β x→WFs β l→zY P β w ((zq β l).foldlM Builtin.max2 (zh β x)) v:=by
 intro l
 induction l with
 | nil=>intro x v h hx _;cases h;exact ⟨by simp [zq],hx⟩
 | cons b l ih=>
  intro x v h hx hl
  replace h:=zf h
  obtain ⟨p,hp,h⟩:=h
  replace h:=zf h
  obtain ⟨q,hq,h⟩:=h
  have:=qU hp
  subst this
  have:=qU hq
  subst this
  obtain ⟨g1,g2⟩:=ih _ _ h trivial hl.2
  refine ⟨?_,g2⟩
  simp only [zq,List.foldlM_cons,Sem.run_bind]
  have:(Builtin.max2 (zh β (.int p.1 p.2)) (zh β (.int q.1 q.2))).run P w = .ok (zh β (.int p.1 (ifB (ilt p.2 q.2) q.2 p.2))) w:=by
   simp [Builtin.max2,zh,zu,Yp]
  rw [this];exact g1
end
end
section
variable [Unk]
theorem VW (s:ByteArray):str (ZW s)=s:=by
 apply ByteArray.ext
 apply Array.toList_inj.1
 have e:(UInt8.ofNat ∘ UInt8.toNat)=id:=funext fun x=>by simp
 simp [str,ZW,e]
theorem UI (s:ByteArray):∀ b∈ZW s,b<256:=by
 intro b hb
 simp only [ZW,jA,List.mem_map]at hb
 obtain ⟨x,_,rfl⟩:=hb
 exact x.toNat_lt
theorem Qj (β:Inj):∀ n,(∀ v a,ofV n v=some a→zh β a=v∧WF β a)∧(∀ l m,fQ n l=some m→zq β m=l∧WFs β m):=by
 intro n
 induction n with
 | zero=>exact ⟨fun v a h=>by simp [ofV]at h,fun l m h=>by simp [fQ]at h⟩
 | succ n ih=>
  refine ⟨fun v a h=>?_,fun l m h=>?_⟩
  ·cases v with
   | bool b=>simp only [ofV]at h;cases h;exact ⟨rfl,trivial⟩
   | int k n=>simp only [ofV]at h;cases h;exact ⟨rfl,trivial⟩
   | string s=>simp only [ofV]at h;cases h;exact ⟨by rw [zh,VW],UI _⟩
   | pointer p=>cases p<;>simp only [ofV]at h<;>cases h;exact ⟨rfl,trivial⟩
   | slice p l c=>
    cases p with
    | some p=>simp only [ofV]at h;cases h
    | none=>
     cases l with
     | succ l=>simp only [ofV]at h;cases h
     | zero=>
      cases c with
      | succ c=>simp only [ofV]at h;cases h
      | zero=>simp only [ofV]at h;cases h;exact ⟨rfl,trivial⟩
   | map r=>cases r<;>simp only [ofV]at h<;>cases h;exact ⟨rfl,trivial⟩
   | nilFunc=>simp only [ofV]at h;cases h;exact ⟨rfl,trivial⟩
   | nilIface=>simp only [ofV]at h;cases h;exact ⟨rfl,trivial⟩
   | agg cs=>
    simp only [ofV]at h
    replace h:=zf h
    obtain ⟨l,hl,h⟩:=h
    cases h
    obtain ⟨g1,g2⟩:=ih.2 _ _ hl
    exact ⟨by rw [zh,g1],g2⟩
   | tuple cs=>
    simp only [ofV]at h
    replace h:=zf h
    obtain ⟨l,hl,h⟩:=h
    cases h
    obtain ⟨g1,g2⟩:=ih.2 _ _ hl
    exact ⟨by rw [zh,g1],g2⟩
   | _=>simp only [ofV]at h;cases h
  ·cases l with
   | nil=>simp only [fQ]at h;cases h;exact ⟨rfl,trivial⟩
   | cons v l=>
    simp only [fQ]at h
    obtain ⟨a,ha,h⟩:=zf h
    obtain ⟨m',hm,h⟩:=zf h
    cases h
    obtain ⟨g1,g2⟩:=ih.1 _ _ ha
    obtain ⟨g3,g4⟩:=ih.2 _ _ hm
    exact ⟨by rw [zq,g1,g3],g2,g4⟩
section
variable {E:Env} (hE:jU E)
include hE
theorem jL {t:TypeId}{z:zd} (h:E.zero t=some z) (β:Inj) (w:World):(zeroValue t).run E.P w = .ok (zh β z) w∧WF β z:=by
 replace h:=zf h
 obtain ⟨i,hi,h⟩:=h
 replace h:=zf h
 obtain ⟨v,hv,h⟩:=h
 obtain ⟨g1,g2⟩:=(Qj β _).1 _ _ h
 refine ⟨?_,g2⟩
 unfold zeroValue
 rw [Sem.run_bind,j3 hE hi]
 simp [hv,g1]
end
theorem bc:∀ (n:Nat) (m l:List zd),(ZL n m l).length=l.length:=by
 have zero:∀ (m l:List zd),(ZL 0 m l).length=l.length:=by
  intro m
  induction m with
  | nil=>intro l;rfl
  | cons a m ih=>
   intro l
   cases l with
   | nil=>rfl
   | cons b l=>
    have e:ZL 0 (a::m) (b::l)=a::ZL 0 m l:=rfl
    rw [e];simp [ih]
 intro n
 induction n with
 | zero=>exact zero
 | succ n ih=>
  intro m l
  cases l with
  | nil=>rfl
  | cons b l=>
   have e:ZL (n+1) m (b::l)=b::ZL n m l:=rfl
   rw [e];simp [ih]
theorem UU:∀ (n:Nat) (m l:List zd) (k:Nat),n+m.length≤l.length→(ZL n m l)[k]? = if n≤k∧k<n+m.length then m[k-n]? else l[k]?:=by
 have zero:∀ (m l:List zd) (k:Nat),m.length≤l.length→(ZL 0 m l)[k]? = if k<m.length then m[k]? else l[k]?:=by
  intro m
  induction m with
  | nil=>intro l k _;rw [if_neg (by simp)];rfl
  | cons a m ih=>
   intro l k h
   cases l with
   | nil=>simp at h
   | cons b l=>
    have e:ZL 0 (a::m) (b::l)=a::ZL 0 m l:=rfl
    rw [e]
    cases k with
    | zero=>simp
    | succ k=>simp only [List.getElem?_cons_succ,List.length_cons,Nat.add_lt_add_iff_right];exact ih l k (by simpa using h)
 intro n
 induction n with
 | zero=>intro m l k h;rw [zero m l k (by omega)];simp
 | succ n ih=>
  intro m l k h
  cases l with
  | nil=>simp at h
  | cons b l=>
   have e:ZL (n+1) m (b::l)=b::ZL n m l:=rfl
   rw [e]
   cases k with
   | zero=>rw [if_neg (by omega)];rfl
   | succ k=>
    simp only [List.length_cons]at h
    rw [List.getElem?_cons_succ,ih m l k (by omega)]
    by_cases hk:n≤k∧k<n+m.length
    ·rw [if_pos hk,if_pos (by omega)];congr 1;omega
    ·rw [if_neg hk,if_neg (by omega)];rfl
theorem uU (off:Nat):∀ (vs:List Value) (i:Nat) (arr:Array Value),off+i+vs.length≤arr.size →
  ((vs.zipIdx i).foldl (fun cs x=>cs.setIfInBounds (off+x.2) x.1) arr).size=arr.size ∧
  ∀ k,((vs.zipIdx i).foldl (fun cs x=>cs.setIfInBounds (off+x.2) x.1) arr)[k]? = if off+i≤k∧k<off+i+vs.length then vs[k-(off+i)]? else arr[k]?:=by
 intro vs
 induction vs with
 | nil=>intro i arr _;exact ⟨rfl,fun k=>by rw [if_neg (by simp)];rfl⟩
 | cons v vs ih=>
  intro i arr h
  simp only [List.length_cons]at h
  obtain ⟨h1,h2⟩:=ih (i+1) (arr.setIfInBounds (off+i) v) (by simp;omega)
  rw [List.zipIdx_cons,List.foldl_cons]
  refine ⟨by rw [h1];simp,fun k=>?_⟩
  rw [h2 k]
  by_cases hk:off+(i+1)≤k∧k<off+(i+1)+vs.length
  ·rw [if_pos hk,if_pos (by simp;omega)]
   have:k-(off+i)=(k-(off+(i+1)))+1:=by omega
   rw [this,List.getElem?_cons_succ]
  ·rw [if_neg hk,Array.getElem?_setIfInBounds]
   by_cases hk':off+i=k
   ·subst hk'
    simp only [if_true]
    rw [if_pos (by omega),if_pos (by simp)]
    simp
   ·rw [if_neg hk',if_neg (by simp;omega)]
theorem QK {β : Inj} (place : Nat → Option (Nat × Nat)) : ∀ (ps : List (Nat × zd)) (cs l : List zd), aa place cs.length ps cs = some l → (∀ p ∈ ps, WF β p.2) → WFs β cs →
    Instr.fill place (zq β cs).toArray (ps.map fun p => (p.1, zh β p.2)) = some (zq β l).toArray ∧ WFs β l ∧ l.length = cs.length := by
  intro ps
  induction ps with
  | nil => intro cs l h _ hw; cases h; exact ⟨rfl, hw, rfl⟩
  | cons p ps ih =>
    intro cs l h hp hw
    replace h := zf h
    obtain ⟨q, hq, h⟩ := h
    replace h := zl h
    obtain ⟨h1, h⟩ := h
    rw [zB, Bool.and_eq_true, zG, beq_iff_eq, jz, zN, decide_eq_true_eq] at h1
    obtain ⟨h2, h3⟩ := h1
    have h3 : q.1 + q.2 ≤ cs.length := h3
    have hw' : WFs β (ZL q.1 (zP p.2) cs) := by
      rw [jb]
      intro v hv
      obtain ⟨k, hk⟩ := List.mem_iff_getElem?.1 hv
      rw [UU _ _ _ _ (by omega)] at hk
      split at hk
      · have hc : WFs β (zP p.2) := by
          have := hp p (by simp)
          cases h : p.2 <;> rw [h] at this <;> first | exact this | exact ⟨this, trivial⟩
        exact (jb _ _).1 hc v (List.mem_of_getElem? hk)
      · exact (jb _ _).1 hw v (List.mem_of_getElem? hk)
    have hl := bc q.1 (zP p.2) cs
    rw [← hl] at h
    obtain ⟨g1, g2, g3⟩ := ih _ _ h (fun p hp' => hp p (by simp [hp'])) hw'
    refine ⟨?_, g2, by rw [g3, hl]⟩
    rw [List.map_cons]
    unfold Instr.fill
    have hpl : place (p.1, zh β p.2).1 = some q := hq
    simp only
    rw [hpl]
    obtain ⟨q1, q2⟩ := q
    simp only at h2 h3 g1 ⊢
    have hcs : (zh β p.2).cells = (zq β (zP p.2)).toArray := qM β p.2
    have hsz : (zh β p.2).cells.size = q2 := by rw [hcs, zK]; simpa using h2
    rw [if_neg (by rw [hsz]; simp [zK]; omega)]
    rw [← g1]
    congr 1
    apply Array.toList_inj.1
    apply List.ext_getElem?
    intro k
    obtain ⟨f1, f2⟩ := uU q1 (zq β (zP p.2)) 0 (zq β cs).toArray (by simp [zK]; omega)
    have e : (zh β p.2).cells.zipIdx.foldl (fun cs x => cs.setIfInBounds (q1 + x.2) x.1) (zq β cs).toArray =
        ((zq β (zP p.2)).zipIdx 0).foldl (fun cs x => cs.setIfInBounds (q1 + x.2) x.1) (zq β cs).toArray := by
      rw [hcs, ← Array.foldl_toList]; simp
    have e' := congrArg (fun a : Array Value => a.toList[k]?) e
    simp only [Array.getElem?_toList] at e' f2 ⊢
    refine Eq.trans e' ?_
    rw [f2 k, zK, zK, zK]
    simp only [List.getElem?_toArray, List.getElem?_map, List.length_map, Nat.add_zero]
    rw [UU _ _ _ _ (by omega)]
    split <;> rfl
theorem Yq {T:Tr zd}{β:Inj}{ρ:Operand→Value}:∀ (l:List (Nat×Operand)) (ps:List (Nat×zd)),bG T l=some ps →
  (∀ x∈l.map (·.2),∀ v,ev T x=some v→ρ x=zh β v∧WF β v)→l.map (fun x=>(x.1,ρ x.2))=ps.map (fun p=>(p.1,zh β p.2))∧∀ p∈ps,WF β p.2:=by
 intro l
 induction l with
 | nil=>intro ps h _;cases h;exact ⟨rfl,by simp⟩
 | cons x l ih=>
  intro ps h hρ
  replace h:=zf h
  obtain ⟨a,ha,h⟩:=h
  replace h:=zf h
  obtain ⟨m,hm,h⟩:=h
  cases h
  obtain ⟨g1,g2⟩:=hρ x.2 (by simp) a ha
  obtain ⟨g3,g4⟩:=ih m hm fun y hy=>hρ y (by simp only [List.map_cons,List.mem_cons];exact .inr hy)
  refine ⟨by simp [g1,g3],fun p hp=>?_⟩
  rcases List.mem_cons.1 hp with rfl | hp
  ·exact g2
  ·exact g4 p hp
theorem bE {T:Tr zd}{β:Inj}{ρ:Operand→Value}:∀ (l:List Operand) (vs:List zd),evs T l=some vs →
  (∀ x∈l,∀ v,ev T x=some v→ρ x=zh β v∧WF β v)→l.map ρ=zq β vs∧WFs β vs:=by
 intro l
 induction l with
 | nil=>intro vs h _;cases h;exact ⟨rfl,trivial⟩
 | cons x l ih=>
  intro vs h hρ
  replace h:=zf h
  obtain ⟨a,ha,h⟩:=h
  replace h:=zf h
  obtain ⟨m,hm,h⟩:=h
  cases h
  obtain ⟨g1,g2⟩:=hρ x (by simp) a ha
  obtain ⟨g3,g4⟩:=ih m hm fun y hy=>hρ y (by simp [hy])
  exact ⟨by simp [g1,g3,zq],g2,g4⟩
theorem jm {β:Inj}{v:zd} (h:WF β v):WFs β (zP v):=by
 cases v<;>first | exact h | exact ⟨h,trivial⟩
theorem tY (z:List zd) (s:Nat) (hz:z.length=s):∀ (n k:Nat),k<n*s→(yY z n)[k]? = z[k % s]?:=by
 intro n
 induction n with
 | zero=>intro k h;omega
 | succ n ih=>
  intro k h
  have e:yY z (n+1)=z++yY z n:=by
   show jv z (yY z n)=_;rw [qy]
  rw [e,List.getElem?_append]
  by_cases hk:k<s
  ·rw [if_pos (by omega),Nat.mod_eq_of_lt hk]
  ·have hs:0<s:=by
    rcases Nat.eq_zero_or_pos s with h0 | h0
    ·subst h0;simp at h
    ·exact h0
   rw [Nat.succ_mul]at h
   rw [if_neg (by omega),hz,ih (k-s) (by omega)]
   congr 1
   conv=>rhs;rw [Nat.mod_eq_sub_mod (by omega)]
theorem QD (z:List zd) (s:Nat) (hz:z.length=s) (n:Nat):(yY z n).length=n*s:=by
 rw [iZ]
 induction n with
 | zero=>simp
 | succ n ih=>rw [List.replicate_succ,List.flatten_cons,List.length_append,ih,hz,Nat.succ_mul];omega
theorem XO {β:Inj}{z:List zd} (h:WFs β z) (n:Nat):WFs β (yY z n):=by
 rw [iZ,jb]
 intro v hv
 obtain ⟨l,hl,hv⟩:=List.mem_flatten.1 hv
 rw [(List.mem_replicate.1 hl).2]at hv
 exact (jb _ _).1 h v hv
theorem Zi {β:Inj} (z:List zd) (s n:Nat) (hz:z.length=s) (zv:Array Value) (hv:n*s≠0→zv=(zq β z).toArray) :
  (Array.range (n*s)).map (fun i=>zv[i % zv.size]!)=(zq β (yY z n)).toArray:=by
 apply Array.toList_inj.1
 apply List.ext_getElem?
 intro k
 rw [zK]
 simp only [Array.toList_map,Array.toList_range,List.getElem?_map]
 by_cases hk:k<n*s
 ·have e:=hv (by omega)
  subst e
  have hs:0<s:=by
   rcases Nat.eq_zero_or_pos s with h0 | h0
   ·subst h0;simp at hk
   ·exact h0
  have hm:k % s<z.length:=by rw [hz];exact Nat.mod_lt _ hs
  rw [List.getElem?_range hk,tY z s hz n k hk]
  simp only [Option.map_some,zK,List.size_toArray,List.length_map,hz]
  rw [List.getElem?_eq_getElem hm]
  simp [hm]
 ·rw [List.getElem?_eq_none (by simp;omega),List.getElem?_eq_none (by rw [QD z s hz];omega)]
  rfl
end
end Go.AEv
