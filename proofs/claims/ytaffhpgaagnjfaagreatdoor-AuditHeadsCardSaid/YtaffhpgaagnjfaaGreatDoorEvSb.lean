/- A verified evaluator of loaded Go code, and its soundness (part EvSb). Conditions: the program fits (no goroutine count, mixed orders). -/
import Derived.Test.YtaffhpgaagnjfaaGreatDoorEvSa
import Derived.Laws.Strings
import Derived.Laws.StructEq
import Derived.ChangeKeysEq
import GoSem.Dispatch
namespace Go.AEv
set_option linter.unusedSectionVars false
variable [Unk]
theorem ZT {v:zb}{b:Bool} (h:asBool v=some b):v = .bool b:=by cases v<;>cases h;rfl
theorem je {v:zb}{p:IntKind×Int} (h:asInt v=some p):v = .int p.1 p.2:=by cases v<;>cases h;rfl
theorem Ja {v:zb}{i:Int} (h:XM v=some i):∃ k,v = .int k i:=by cases v<;>cases h;exact ⟨_,rfl⟩
theorem kX {v:zb}{p:Nat×Nat} (h:JB v=some p):v = .ptr p.1 p.2:=by cases v<;>cases h;rfl
theorem jG {v:zb}{s:Sl} (h:kr v=some s):v = .slice s.b s.off s.len s.cap s.ex:=by cases v<;>cases h;rfl
theorem qz {v:zb}{s:List Nat} (h:jb v=some s):v = .str s:=by cases v<;>cases h;rfl
theorem zgL {v:zb}{s:List zb} (h:asAgg v=some s):v = .agg s:=by cases v<;>cases h;rfl
theorem ziS {v:zb}{s:List zb} (h:asTuple v=some s):v = .tuple s:=by cases v<;>cases h;rfl
theorem zbP {v:zb}{p:TypeId×zb} (h:zeF v=some p):v = .iface p.1 p.2:=by cases v<;>cases h;rfl
theorem V9 {v:zb}{r:Nat} (h:zgK v=some r):v = .map r:=by cases v<;>cases h;rfl
theorem jt {v:zb} (h:jT v=true):v = .nilslice:=by cases v<;>cases h;rfl
theorem znA {v:zb} (h:zri v=true):∃ b o q,v = .esl b o q:=by cases v<;>cases h;exact ⟨_,_,_,rfl⟩
theorem zbO {v:zb}{p:Psl} (h:zdx v=some p):v = .psl p.b p.o p.q p.c p.ex:=by cases v<;>cases h;rfl
theorem Q9 {v:zb}{p:Nat×zb} (h:Qf v=some p):v = .osl p.1 p.2:=by cases v<;>cases h;rfl
theorem zla {v:zb} (h:zh7 v=true):v = .nilp:=by cases v<;>cases h;rfl
theorem Us {v:zb} (h:VO v=true):v = .nilmap:=by cases v<;>first | rfl | (simp [VO]at h)
theorem jB {d:TypeDesc}{e:TypeId} (h:jQ d=some e):d = .slice e:=by cases d<;>cases h;rfl
theorem ZN {d:TypeDesc}{q:Nat×TypeId} (h:ZO d=some q):d = .array q.1 q.2:=by cases d<;>cases h;rfl
theorem YR {d:TypeDesc}{l:List Field} (h:Zk d=some l):∃ fs:Array Field,d = .struct fs∧l=fs.toList:=by
 cases d<;>cases h;exact ⟨_,rfl,rfl⟩
theorem zaa {d:TypeDesc}{e:TypeId} (h:zix d=some e):d = .pointer e:=by cases d<;>cases h;rfl
theorem YS {d:TypeDesc}{k:IntKind} (h:XG d=some k):d = .int k:=by cases d<;>cases h;rfl
theorem zab {d:TypeDesc}{q:TypeId×TypeId} (h:zlr d=some q):d = .map q.1 q.2:=by cases d<;>cases h;rfl
theorem jh {d:TypeDesc} (h:ki d=true):d = .string:=by cases d<;>cases h;rfl
theorem zbz {d:TypeDesc} (h:zet d=true):d = .unsafePointer:=by cases d<;>cases h;rfl
theorem X3 {k:IntKind} (h:zei k=true):k = .u8:=by cases k<;>revert h<;>decide
theorem yE {k:IntKind} (h:XB k=true):k = .i64:=by cases k<;>revert h<;>decide
theorem VV (k:IntKind):full k=2 ^ k.bits:=by cases k<;>rfl
theorem zfS (k:IntKind):zmW k=k.bits:=by cases k<;>rfl
theorem zbq (k:IntKind):0<full k:=by cases k<;>decide
theorem Jm (k:IntKind) (n:Int):Zz k n<full k:=by
 have h:=zbq k
 cases n with
 | ofNat m=>exact Nat.mod_lt _ h
 | negSucc m=>show full k-1-m % full k<full k;omega
theorem zfa (k:IntKind) (n:Int):((Zz k n:Nat):Int)=n % (2 ^ k.bits:Int):=by
 have h:=zbq k
 have e:(2 ^ k.bits:Int)=((full k:Nat):Int):=by rw [VV];simp
 rw [e]
 cases n with
 | ofNat m=>show ((m % full k:Nat):Int)=_;simp
 | negSucc m=>
  show ((full k-1-m % full k:Nat):Int)=_
  rw [Int.negSucc_emod _ (by omega)]
  have h2:m % full k<full k:=Nat.mod_lt _ h
  have h3:((m:Int) % (full k:Int))=((m % full k:Nat):Int):=by simp
  rw [h3];omega
theorem QL (k : IntKind) (m : Nat) (h : m < full k) : back k m = k.wrap m := by
  unfold back IntKind.wrap
  rw [zm, zO]
  have e : (2 ^ k.bits : Int) = ((full k : Nat) : Int) := by rw [VV]; simp
  have hm : (m : Int) % (2 ^ k.bits : Int) = m := by rw [e]; exact Int.emod_eq_of_lt (by omega) (by omega)
  simp only [hm]
  have key : ∀ hf fl : Nat, half k = hf → full k = fl → (k.signed = true → hf + hf = fl ∧ (2 ^ (k.bits - 1) : Int) = hf) → (k.signed = false → hf = fl) →
      (if decide (m < hf) = true then Int.ofNat m else Int.negSucc (Nat.sub (Nat.sub fl 1) m)) =
      if k.signed && decide ((m : Int) ≥ (2 ^ (k.bits - 1) : Int)) then (m : Int) - (2 ^ k.bits : Int) else m := by
    intro hf fl h1 h2 h3 h4
    rw [h2] at h e
    rw [e]
    cases hs : k.signed with
    | false =>
      have := h4 hs
      rw [if_pos (by simp; omega), if_neg (by simp)]; rfl
    | true =>
      obtain ⟨h5, h6⟩ := h3 hs
      rw [h6]
      by_cases hlt : m < hf
      · rw [if_pos (by simp; omega), if_neg (by simp; omega)]; rfl
      · rw [if_neg (by simp; omega), if_pos (by simp; omega), Int.negSucc_eq]
        show -(((fl - 1 - m : Nat) : Int) + 1) = _
        omega
  exact key _ _ rfl rfl (by cases k <;> simp [IntKind.signed, half, full, IntKind.bits]) (by cases k <;> simp [IntKind.signed, half, full])
theorem jO (k:IntKind) (n:Int):yH k n=k.wrap n:=by
 unfold yH
 rw [QL _ _ (Jm k n)]
 unfold IntKind.wrap
 rw [zfa]
 simp only [Int.emod_emod]
theorem Xh (m n:Nat):Y4 m n=(m:Int)-n:=by
 unfold Y4
 rw [zm,zE]
 by_cases h:n≤m
 ·rw [if_pos (by simp [h])];show ((m-n:Nat):Int)=_;omega
 ·rw [if_neg (by simp [h]),Int.negSucc_eq];show -(((n-m-1:Nat):Int)+1)=_;omega
theorem zjX (a:Int):zsg a = -a:=by
 cases a with
 | ofNat m=>show Y4 0 m=_;rw [Xh];simp
 | negSucc m=>show Int.ofNat (m+1)=_;rw [Int.neg_negSucc];rfl
theorem VT (a b:Int):zia a b=a+b:=by
 cases a<;>cases b<;>simp only [zia,ZL,yd,Xh]
 ·rfl
 ·rename_i m n;rw [Int.negSucc_eq];show (m:Int)-((n+1:Nat):Int)=Int.ofNat m+_;simp;omega
 ·rename_i m n;rw [Int.negSucc_eq];show (n:Int)-((m+1:Nat):Int)=_+Int.ofNat n;simp;omega
 ·rename_i m n;rw [Int.negSucc_eq,Int.negSucc_eq,Int.negSucc_eq];show -(((m+n+1:Nat):Int)+1)=_;omega
theorem zjS (a b:Int):zpk a b=a-b:=by unfold zpk;rw [VT,zjX];omega
theorem zek (a b:Int):zel a b=a*b:=by
 cases a<;>cases b<;>simp only [zel,ZL,yd,Xh]
 ·rfl
 ·rename_i m n
  rw [Int.negSucc_eq]
  show ((0:Nat):Int)-((m*(n+1):Nat):Int)=Int.ofNat m*_
  rw [Int.natCast_mul];simp [Int.mul_neg]
 ·rename_i m n
  rw [Int.negSucc_eq]
  show ((0:Nat):Int)-(((m+1)*n:Nat):Int)=_*Int.ofNat n
  rw [Int.natCast_mul];simp [Int.neg_mul]
 ·rename_i m n
  rw [Int.negSucc_eq,Int.negSucc_eq]
  show (((m+1)*(n+1):Nat):Int)=_
  rw [Int.neg_mul_neg,Int.natCast_mul];rfl
theorem zgh (a b:Int):zjR a b=a.tdiv b:=by
 cases a<;>cases b<;>simp only [zjR,ZL,yd,Xh]
 ·rfl
 ·rename_i m n;show ((0:Nat):Int)-((m / (n+1):Nat):Int) = -((m / (n+1):Nat):Int);simp
 ·rename_i m n;show ((0:Nat):Int)-(((m+1) / n:Nat):Int) = -(((m+1) / n:Nat):Int);simp
 ·rfl
theorem zge (a b:Int):zgf a b=a.tmod b:=by
 cases a<;>cases b<;>simp only [zgf,ZL,yd,Xh]
 ·rfl
 ·rename_i m n;rfl
 ·rename_i m n;show ((0:Nat):Int)-(((m+1) % n:Nat):Int) = -(((m+1) % n:Nat):Int);simp
 ·rename_i m n;show ((0:Nat):Int)-(((m+1) % (n+1):Nat):Int) = -(((m+1) % (n+1):Nat):Int);simp
@[simp] theorem jD (k:IntKind) (n:Int):mkInt k n = .int k n:=by cases n<;>rfl
@[simp] theorem jX (b:Bool):jl b = .bool b:=by cases b<;>rfl
@[simp] theorem zuE (n:Nat):mkNat n = .int .i64 n:=rfl
theorem yX (k:IntKind) (x:Int):(BitVec.ofInt k.bits x).toNat=Zz k x:=by
 have h:=zfa k x
 rw [BitVec.toNat_ofInt]
 have e:((2 ^ k.bits:Nat):Int)=(2 ^ k.bits:Int):=by simp
 rw [e,← h];simp
theorem kc {k j:IntKind}{u v:zb} (h:same k j u=some v):k=j∧u=v:=by
 obtain ⟨h1,h2⟩:=zg h
 exact ⟨(YH _ _).1 h1,by injection h2⟩
theorem zjO (k:IntKind) (a b:Nat) (h:a<full k):a &&& b<full k:=Nat.lt_of_le_of_lt Nat.and_le_left h
theorem zsb (k:IntKind) (a b:Nat) (ha:a<full k) (hb:b<full k):a ||| b<full k:=by
 rw [VV]at *;exact Nat.or_lt_two_pow ha hb
theorem jU (k:IntKind) (a b:Nat) (ha:a<full k) (hb:b<full k):a ^^^ b<full k:=by
 rw [VV]at *;exact Nat.xor_lt_two_pow ha hb
theorem zkY (k:IntKind) (b:Int):(~~~ (BitVec.ofInt k.bits b)).toNat=Nat.xor (Zz k b) (Nat.sub (full k) 1):=by
 rw [← BitVec.xor_allOnes,BitVec.toNat_xor,yX,BitVec.toNat_allOnes,VV];rfl
theorem zcG {P:Program}{op:BinOp}{k j:IntKind}{a b:Int}{v:zb} (h:Jv op k a j b=some v) (t:TypeId) (β:Inj) (w:World) :
  (Go.binOp op t (.int k a) (.int j b)).run P w = .ok (zc β v) w∧WF β v:=by
 cases op
 case add=>obtain ⟨rfl,rfl⟩:=kc h;simp [Go.binOp,Op.intArith,zc,WF,jO,VT]
 case sub=>obtain ⟨rfl,rfl⟩:=kc h;simp [Go.binOp,Op.intArith,zc,WF,jO,zjS]
 case mul=>obtain ⟨rfl,rfl⟩:=kc h;simp [Go.binOp,Op.intArith,zc,WF,jO,zek]
 case quo=>
  obtain ⟨h1,h⟩:=yf h
  obtain ⟨rfl,rfl⟩:=kc h
  rw [Z0]at h1
  have h1:b≠0:=by simpa using h1
  simp [Go.binOp,Op.intDiv,zc,WF,jO,zgh,h1]
 case rem=>
  obtain ⟨h1,h⟩:=yf h
  obtain ⟨rfl,rfl⟩:=kc h
  rw [Z0]at h1
  have h1:b≠0:=by simpa using h1
  simp [Go.binOp,Op.intDiv,zc,WF,zge,h1]
 case and=>
  obtain ⟨rfl,rfl⟩:=kc h
  refine ⟨?_,by simp [WF]⟩
  rw [jD,QL _ _ (show Nat.land _ _<full k from zjO _ _ _ (Jm _ _))]
  simp only [Go.binOp,Op.intBits,ne_eq,not_true_eq_false,if_false,Sem.run_pure,zc,BitVec.toNat_and,yX];rfl
 case or=>
  obtain ⟨rfl,rfl⟩:=kc h
  refine ⟨?_,by simp [WF]⟩
  rw [jD,QL _ _ (show Nat.lor _ _<full k from zsb _ _ _ (Jm _ _) (Jm _ _))]
  simp only [Go.binOp,Op.intBits,ne_eq,not_true_eq_false,if_false,Sem.run_pure,zc,BitVec.toNat_or,yX];rfl
 case xor=>
  obtain ⟨rfl,rfl⟩:=kc h
  refine ⟨?_,by simp [WF]⟩
  rw [jD,QL _ _ (show Nat.xor _ _<full k from jU _ _ _ (Jm _ _) (Jm _ _))]
  simp only [Go.binOp,Op.intBits,ne_eq,not_true_eq_false,if_false,Sem.run_pure,zc,BitVec.toNat_xor,yX];rfl
 case andNot=>
  obtain ⟨rfl,rfl⟩:=kc h
  refine ⟨?_,by simp [WF]⟩
  rw [jD,QL _ _ (show Nat.land _ _<full k from zjO _ _ _ (Jm _ _))]
  simp only [Go.binOp,Op.intBits,ne_eq,not_true_eq_false,if_false,Sem.run_pure,zc,BitVec.toNat_and,yX,zkY];rfl
 case shl=>
  cases b with
  | negSucc n=>cases h
  | ofNat n=>
   cases h
   have e:min n k.bits=shN k n:=by
    unfold shN;rw [zm,zE,zfS]
    by_cases h:n≤k.bits
    ·rw [if_pos (by simp [h])];omega
    ·rw [if_neg (by simp [h])];omega
   simp only [Go.binOp,Op.shift]
   rw [if_neg (by simp)]
   simp [zc,WF,jO,zek,e]
 case shr=>
  cases b with
  | negSucc n=>cases h
  | ofNat n=>
   cases h
   have e:min n k.bits=shN k n:=by
    unfold shN;rw [zm,zE,zfS]
    by_cases h:n≤k.bits
    ·rw [if_pos (by simp [h])];omega
    ·rw [if_neg (by simp [h])];omega
   simp only [Go.binOp,Op.shift]
   rw [if_neg (by simp)]
   refine ⟨?_,by simp [WF]⟩
   have e2:a.fdiv ((2:Int) ^ shN k n)=Zv a (fun m=>.ofNat (Nat.div m (Nat.pow 2 (shN k n)))) fun m=>.negSucc (Nat.div m (Nat.pow 2 (shN k n))):=by
    have hp:(2:Int) ^ shN k n=((2 ^ shN k n:Nat):Int):=by simp
    rw [hp]
    have hpos:0<2 ^ shN k n:=Nat.pow_pos (by decide)
    show a.fdiv _=Zv (α:=Int) a (fun m=>Int.ofNat (m / 2 ^ shN k n)) fun m=>Int.negSucc (m / 2 ^ shN k n)
    generalize 2 ^ shN k n=q at *
    obtain ⟨q,rfl⟩:∃ r,q=r+1:=⟨q-1,by omega⟩
    cases a with
    | ofNat m=>
     cases m with
     | zero=>show (0:Int)=Int.ofNat (0 / (q+1));rw [Nat.zero_div];rfl
     | succ m=>rfl
    | negSucc m=>rfl
   simp [zc,e,e2]
 case eql=>obtain ⟨rfl,rfl⟩:=kc h;simp [Go.binOp,Op.intCmp,zc,WF,Z0]
 case neq=>obtain ⟨rfl,rfl⟩:=kc h;simp [Go.binOp,Op.intCmp,zc,WF,Z0,qy];rfl
 case lss=>obtain ⟨rfl,rfl⟩:=kc h;simp [Go.binOp,Op.intCmp,zc,WF,kz]
 case leq=>obtain ⟨rfl,rfl⟩:=kc h;simp [Go.binOp,Op.intCmp,zc,WF,kz,qy,← Int.not_lt]
 case gtr=>obtain ⟨rfl,rfl⟩:=kc h;simp [Go.binOp,Op.intCmp,zc,WF,kz]
 case geq=>obtain ⟨rfl,rfl⟩:=kc h;simp [Go.binOp,Op.intCmp,zc,WF,kz,qy,← Int.not_lt]
theorem Xj (s:List Nat):(str s).data.toList=s.map UInt8.ofNat:=by simp [str]
theorem qh (s:List Nat):(str s).size=s.length:=by simp [str,ByteArray.size]
theorem ZC (s:List Nat):(str s).toList=s.map UInt8.ofNat:=by
 rw [ByteArray.toList_eq];exact Xj s
theorem ofNat_inj {a b:Nat} (ha:a<256) (hb:b<256) (h:UInt8.ofNat a=UInt8.ofNat b):a=b:=by
 have:=congrArg UInt8.toNat h
 simp at this
 omega
theorem JK:∀ {s t:List Nat},(∀ b∈s,b<256)→(∀ b∈t,b<256)→s.map UInt8.ofNat=t.map UInt8.ofNat→s=t
 | [],[],_,_,_=>rfl
 | [],_::_,_,_,h=>by simp at h
 | _::_,[],_,_,h=>by simp at h
 | a::s,b::t,hs,ht,h=>by
  simp only [List.map_cons,List.cons.injEq]at h
  rw [ofNat_inj (hs a (by simp)) (ht b (by simp)) h.1,JK (fun x hx=>hs x (by simp [hx])) (fun x hx=>ht x (by simp [hx])) h.2]
theorem str_inj {s t:List Nat} (hs:∀ b∈s,b<256) (ht:∀ b∈t,b<256) (h:str s=str t):s=t:=by
 have:=congrArg (fun x:ByteArray=>x.data.toList) h
 simp only [Xj]at this
 exact JK hs ht this
theorem zbd {s t:List Nat} (hs:∀ b∈s,b<256) (ht:∀ b∈t,b<256):zcd s t=((str s).toList==(str t).toList):=by
 rw [VI,Bool.eq_iff_iff,beq_iff_eq,beq_iff_eq,ZC,ZC]
 exact ⟨fun h=>by rw [h],JK hs ht⟩
theorem zbc:∀ {s t:List Nat},(∀ b∈s,b<256)→(∀ b∈t,b<256)→VH s t=Op.bytesLess (s.map UInt8.ofNat) (t.map UInt8.ofNat)
 | [],[],_,_=>rfl
 | [],_::_,_,_=>rfl
 | _::_,[],_,_=>rfl
 | a::s,b::t,hs,ht=>by
  have e:VH (a::s) (b::t)=ifB (Nat.blt a b) true (ifB (Nat.beq a b) (VH s t) false):=rfl
  rw [e,zbc (fun x hx=>hs x (by simp [hx])) (fun x hx=>ht x (by simp [hx])),zm,zm,zO,zw]
  simp only [List.map_cons,Op.bytesLess]
  have ha:=hs a (by simp)
  have hb:=ht b (by simp)
  have e1:(UInt8.ofNat a<UInt8.ofNat b)↔a<b:=by
   rw [UInt8.lt_iff_toNat_lt];simp;omega
  have e2:(UInt8.ofNat a==UInt8.ofNat b)=(a==b):=by
   rw [Bool.eq_iff_iff,beq_iff_eq,beq_iff_eq];exact ⟨ofNat_inj ha hb,fun h=>by rw [h]⟩
  simp only [e1,e2]
  by_cases h1:a<b<;>by_cases h2:a=b<;>simp [h1,h2]
theorem Wx (s t:List Nat):str s++str t=str (s++t):=by
 apply ByteArray.ext
 simp [str,ByteArray.data_append]
theorem zf9:∀ a b:List Nat,(VH a b||(a==b))=j8 (VH b a)
 | [],[]=>rfl
 | [],_::_=>rfl
 | _::_,[]=>rfl
 | a::s,b::t=>by
  have e:∀ a b s t,VH (a::s) (b::t)=ifB (Nat.blt a b) true (ifB (Nat.beq a b) (VH s t) false):=fun _ _ _ _=>rfl
  have ih:=zf9 s t
  rw [e,e,qy,zm,zm,zm,zm,zO,zw,zO,zw]
  rw [qy]at ih
  rcases Nat.lt_trichotomy a b with h | h | h
  ·have h1:¬ b<a:=by omega
   have h2:¬ b=a:=by omega
   simp [h,h1,h2]
  ·subst h;simp [← ih]
  ·have h1:¬ a<b:=by omega
   have h2:¬ a=b:=by omega
   simp [h,h1,h2]
theorem zkG {P:Program}{op:BinOp}{a b:List Nat}{v:zb} (h:zq5 op a b=some v) (ha:∀ x∈a,x<256) (hb:∀ x∈b,x<256) (t:TypeId) (β:Inj) (w:World) :
  (Go.binOp op t (.string (str a)) (.string (str b))).run P w = .ok (zc β v) w∧WF β v:=by
 have hl:=zbd ha hb
 have hs1:=zbc ha hb
 have hs2:=zbc hb ha
 have les1:Op.bytesLess (str a).toList (str b).toList=VH a b:=by rw [ZC,ZC,hs1]
 have les2:Op.bytesLess (str b).toList (str a).toList=VH b a:=by rw [ZC,ZC,hs2]
 have tri:(Op.bytesLess (str a).toList (str b).toList||((str a).toList==(str b).toList))=j8 (VH b a):=by
  rw [les1,← hl,VI,zf9]
 cases op<;>first | (cases h;done) | skip
 case add=>
  obtain ⟨h1,h⟩:=zg h
  cases h
  rw [zE,decide_eq_true_eq,zjN,jx]at h1
  refine ⟨?_,?_⟩
  ·simp only [Go.binOp,Op.stringOp]
   rw [if_neg (by rw [qh,qh];show ¬ (((a.length+b.length:Nat)):Int) > IntKind.i64.max;simp [IntKind.max,IntKind.signed,IntKind.bits];omega)]
   simp [zc,Wx]
  ·intro x hx
   simp only [zR,List.mem_append]at hx
   exact hx.elim (ha x) (hb x)
 case eql=>cases h;simp [Go.binOp,Op.stringOp,zc,WF,hl]
 case neq=>cases h;simp [Go.binOp,Op.stringOp,zc,WF,hl,qy]
 case lss=>cases h;simp [Go.binOp,Op.stringOp,zc,WF,les1]
 case leq=>cases h;simp only [Go.binOp,Op.stringOp,Sem.run_pure,tri,jX,zc];exact ⟨trivial,trivial⟩
 case gtr=>cases h;simp only [Go.binOp,Op.stringOp,Sem.run_pure,tri,jX,zc,qy,Bool.not_not];exact ⟨trivial,trivial⟩
 case geq=>cases h;simp [Go.binOp,Op.stringOp,zc,WF,les1,qy]
end Go.AEv
namespace Go.AEv
set_option linter.unusedSectionVars false
variable [Unk]
def zaK (x:Value):Bool:=match x with | .int _ _=>false | .float _ _=>false | .complex _ _ _=>false | .string _=>false | _=>true
section
variable {E:Env} (hE:kH E)
include hE
theorem yV {β:Inj}{t:TypeId}{cs:List zb}{off:Nat}{v:zb} (h:E.apart t cs off=some v) (hw:WFs β cs) (w:World) :
  (part t (zf β cs).toArray off).run E.P w = .ok (zc β v) w∧WF β v:=by
 obtain ⟨g,hg,h⟩:=ze h
 unfold part
 rw [Sem.run_bind,zcF hE hg]
 cases g with
 | true=>
  obtain ⟨n,hn,h⟩:=ze h
  cases h
  refine ⟨?_,?_⟩
  ·simp only [Result.andThen_ok,if_true,Sem.run_bind,qo hE hn,Sem.run_pure,zc]
   congr 2
   apply Array.toList_inj.1
   simp [zy,Vl,zbx,List.map_drop,List.map_take]
  ·rw [WF,zT]
   intro v hv
   rw [Vl,zbx]at hv
   exact (zT _ _).1 hw v (List.mem_of_mem_drop (List.mem_of_mem_take hv))
 | false=>
  have h:kg off cs=some v:=h
  rw [kF]at h
  refine ⟨?_,(zT _ _).1 hw v (List.mem_of_getElem? h)⟩
  simp [zy,h]
omit hE in
theorem JD (s u:ByteArray):(s.toList==u.toList)=decide (s=u):=by
 rw [ByteArray.toList_eq,ByteArray.toList_eq,Bool.eq_iff_iff,decide_eq_true_eq,beq_iff_eq]
 obtain ⟨⟨x⟩⟩:=s
 obtain ⟨⟨y⟩⟩:=u
 simp
theorem zfi {β:Inj} (hF:zB E β) {w:World}{t:TypeId}{x y:zb}{r:Bool} (h:zl6 E t x y=some r) (d:Nat) :
  (Op.equalIn (d+1) t (zc β x) (zc β y)).run E.P w = .ok r w:=by
 replace h:=ze h
 obtain ⟨dd,hd,h⟩:=h
 replace h:=ze h
 obtain ⟨sh,hs,h⟩:=h
 obtain ⟨f,hf,e⟩:=qk h
 have:=zh2 e
 subst this
 obtain ⟨h1,h2,h3⟩:=hF _ hf
 rcases h3 with ⟨rfl,k,m,n,e1,e2,rfl⟩ | ⟨rfl,s,u,e1,e2,rfl⟩ | ⟨rfl,s,u,e1,e2,rfl⟩
 ·cases dd<;>simp [shapeOf]at hs
  simp [e1,e2,Op.equalIn,zt hE hd]
 ·cases dd<;>simp [shapeOf]at hs
  simp [e1,e2,Op.equalIn,zt hE hd,beq_toListBytes,JD]
 ·cases dd<;>simp [shapeOf]at hs
  simp [e1,e2,Op.equalIn,zt hE hd]
set_option maxHeartbeats 1000000 in
theorem Kc (β:Inj) (hF:zB E β) (H:zl) (w:World):∀ f,
  (∀ t x y r,JR E H f t x y=some r→WF β x→WF β y→∀ d,f≤d→(Op.equalIn d t (zc β x) (zc β y)).run E.P w = .ok r w) ∧
  (∀ fs xs ys r,QM E H f fs xs ys=some r→WFs β xs→WFs β ys→∀ d,f≤d→(Op.eqFields d (zf β xs).toArray (zf β ys).toArray fs).run E.P w = .ok r w) ∧
  (∀ e s is xs ys r,Ym E H f e s is xs ys=some r→WFs β xs→WFs β ys→∀ d,f≤d→(Op.eqItems d e s (zf β xs).toArray (zf β ys).toArray is).run E.P w = .ok r w):=by
 intro f
 induction f with
 | zero=>exact ⟨fun _ _ _ _ h=>by simp [JR]at h,fun _ _ _ _ h=>by simp [QM]at h,fun _ _ _ _ _ _ h=>by simp [Ym]at h⟩
 | succ f ih=>
  obtain ⟨ih1,ih2,ih3⟩:=ih
  refine ⟨?_,?_,?_⟩
  ·intro t x y r h hx hy d hd
   obtain ⟨d,rfl⟩:∃ e,d=e+1:=⟨d-1,by omega⟩
   have hd':f≤d:=by omega
   unfold JR at h
   rw [zm]at h
   split at h
   case isFalse=>exact zfi hE hF h d
   rename_i hs
   clear hs
   split at h
   ·rename_i e;cases h;simp [zc,Op.equalIn,zt hE e,Y1]
   ·rename_i k a j b e
    split at h
    ·rename_i hk
     cases h
     have:=(YH _ _).1 hk
     subst this
     simp [zc,Op.equalIn,zt hE e,Z0]
    ·cases h
   ·rename_i a b e;cases h
    rw [zbd hx hy]
    simp [zc,Op.equalIn,zt hE e,beq_toListBytes]
   ·rename_i e;cases h;(simp only [zc,Op.equalIn,Sem.run_bind,zt hE e,Result.andThen_ok,Sem.run_pure])<;>first | done | rfl | simp
   ·rename_i e;cases h;(simp only [zc,Op.equalIn,Sem.run_bind,zt hE e,Result.andThen_ok,Sem.run_pure])<;>first | done | rfl | simp
   ·rename_i e;cases h;(simp only [zc,Op.equalIn,Sem.run_bind,zt hE e,Result.andThen_ok,Sem.run_pure])<;>first | done | rfl | simp
   ·rename_i elem a i b j e
    split at h
    ·cases h
    ·cases h
    ·rename_i n hn
     split at h
     ·split at h
      ·rename_i hb
       rw [zw,beq_iff_eq]at hb
       cases h
       subst hb
       have e1:(sameAddr (β.addr a i) (β.addr a j)).run E.P w = .ok (Nat.beq i j) w:=by
        have e2:(β.addr a i==β.addr a j)=Nat.beq i j:=by
         rw [zw,Bool.eq_iff_iff,beq_iff_eq,beq_iff_eq]
         simp [Inj.addr]
        unfold sameAddr
        rw [e2]
        simp [Inj.addr]
       simp [zc,Op.equalIn,zt hE e,qo hE hn,e1]
      ·cases h
     ·cases h
   ·rename_i e;cases h;(simp only [zc,Op.equalIn,Sem.run_bind,zt hE e,Result.andThen_ok,Sem.run_pure])<;>first | done | rfl | simp
   ·rename_i e;cases h;(simp only [zc,Op.equalIn,Sem.run_bind,zt hE e,Result.andThen_ok,Sem.run_pure])<;>first | done | rfl | simp
   ·rename_i e;cases h;(simp only [zc,Op.equalIn,Sem.run_bind,zt hE e,Result.andThen_ok,Sem.run_pure])<;>first | done | rfl | simp
   ·rename_i e;cases h;(simp only [zc,Op.equalIn,Sem.run_bind,zt hE e,Result.andThen_ok,Sem.run_pure])<;>first | done | rfl | simp
   ·rename_i e;cases h;(simp only [zc,Op.equalIn,Sem.run_bind,zt hE e,Result.andThen_ok,Sem.run_pure])<;>first | done | rfl | simp
   ·rename_i e;cases h;(simp only [zc,Op.equalIn,Sem.run_bind,zt hE e,Result.andThen_ok,Sem.run_pure])<;>first | done | rfl | simp
   ·rename_i e;cases h;(simp only [zc,Op.equalIn,Sem.run_bind,zt hE e,Result.andThen_ok,Sem.run_pure])<;>first | done | rfl | simp
   ·rename_i e;cases h;(simp only [zc,Op.equalIn,Sem.run_bind,zt hE e,Result.andThen_ok,Sem.run_pure])<;>first | done | rfl | simp
   ·rename_i e;cases h;(simp only [zc,Op.equalIn,Sem.run_bind,zt hE e,Result.andThen_ok,Sem.run_pure])<;>first | done | rfl | simp
   ·rename_i e;cases h;(simp only [zc,Op.equalIn,Sem.run_bind,zt hE e,Result.andThen_ok,Sem.run_pure])<;>first | done | rfl | simp
   ·rename_i e;cases h;(simp only [zc,Op.equalIn,Sem.run_bind,zt hE e,Result.andThen_ok,Sem.run_pure])<;>first | done | rfl | simp
   ·rename_i e;cases h;(simp only [zc,Op.equalIn,Sem.run_bind,zt hE e,Result.andThen_ok,Sem.run_pure])<;>first | done | rfl | simp
   ·rename_i e;cases h;(simp only [zc,Op.equalIn,Sem.run_bind,zt hE e,Result.andThen_ok,Sem.run_pure])<;>first | done | rfl | simp
   ·rename_i e;cases h;(simp only [zc,Op.equalIn,Sem.run_bind,zt hE e,Result.andThen_ok,Sem.run_pure])<;>first | done | rfl | simp
   ·rename_i e;cases h;(simp only [zc,Op.equalIn,Sem.run_bind,zt hE e,Result.andThen_ok,Sem.run_pure])<;>first | done | rfl | simp
   ·rename_i e;cases h;(simp only [zc,Op.equalIn,Sem.run_bind,zt hE e,Result.andThen_ok,Sem.run_pure])<;>first | done | rfl | simp
   ·rename_i e;cases h;(simp only [zc,Op.equalIn,Sem.run_bind,zt hE e,Result.andThen_ok,Sem.run_pure])<;>first | done | rfl | simp
   ·rename_i e;cases h;(simp only [zc,Op.equalIn,Sem.run_bind,zt hE e,Result.andThen_ok,Sem.run_pure])<;>first | done | rfl | simp
   ·rename_i ms ta va tb vb e
    split at h
    ·rename_i hb
     cases h
     have hne:ta≠tb:=by
      intro hab
      rw [hab,zw]at hb
      simp at hb
     simp [zc,Op.equalIn,zt hE e,hne]
    ·rename_i hb
     rw [zw,beq_iff_eq]at hb
     subst hb
     split at h
     ·cases h
     ·rename_i i hi
      split at h
      ·rename_i hc
       have:=ih1 _ _ _ _ h hx hy d hd'
       simp [zc,Op.equalIn,zt hE e,kO hE hi,hc,this]
      ·cases h
   ·rename_i fs xs ys e
    split at h
    ·cases h
    ·rename_i hp
     have hu:=kG hE e
     have hf:E.P.fieldsOf t=fs:=by simp [Program.fieldsOf,hu]
     rw [zc,zc,run_equalIn_struct w d t _ _ (by rw [hf];exact hu) (by simpa using hp),hf]
     exact ih2 _ _ _ _ h hx hy d hd'
   ·rename_i n elem xs ys e
    split at h
    ·cases h
    ·rename_i s hs
     obtain ⟨i,h1,h2,h3,h4⟩:=ZX hE hs
     rw [zc,zc,run_equalIn_array w d _ _ (kG hE e) h1]
     have:E.P.cellsOf elem=s:=by simp [Program.cellsOf,h1,h3]
     rw [this]
     exact ih3 _ _ _ _ _ _ h hx hy d hd'
   ·cases h
  ·intro fs xs ys r h hx hy d hd
   cases fs with
   | nil=>simp only [QM]at h;cases h;simp [Op.eqFields]
   | cons fl fs=>
    simp only [QM]at h
    obtain ⟨h1,h⟩:=yf h
    obtain ⟨a,ha,h⟩:=ze h
    obtain ⟨b,hb,h⟩:=ze h
    obtain ⟨q,hq,h⟩:=ze h
    obtain ⟨a1,a2⟩:=yV hE ha hx w
    obtain ⟨b1,b2⟩:=yV hE hb hy w
    have hq':=ih1 _ _ _ _ hq a2 b2 d (by omega)
    have hne:fl.name ≠ "_" := by simpa using h1
    simp only [Op.eqFields,hne,ne_eq,not_false_eq_true,if_true,Sem.run_bind,a1,b1,Result.andThen_ok,hq']
    cases q with
    | true=>simpa using ih2 _ _ _ _ h hx hy d (by omega)
    | false=>cases h;simp
  ·intro e s is xs ys r h hx hy d hd
   cases is with
   | nil=>simp only [Ym]at h;cases h;simp [Op.eqItems]
   | cons i is=>
    simp only [Ym]at h
    obtain ⟨a,ha,h⟩:=ze h
    obtain ⟨b,hb,h⟩:=ze h
    obtain ⟨q,hq,h⟩:=ze h
    obtain ⟨a1,a2⟩:=yV hE ha hx w
    obtain ⟨b1,b2⟩:=yV hE hb hy w
    have hq':=ih1 _ _ _ _ hq a2 b2 d (by omega)
    have a1:(part e (zf β xs).toArray (i*s)).run E.P w = .ok (zc β a) w:=a1
    have b1:(part e (zf β ys).toArray (i*s)).run E.P w = .ok (zc β b) w:=b1
    simp only [Op.eqItems,Sem.run_bind,a1,b1,Result.andThen_ok,hq']
    cases q with
    | true=>simpa using ih3 _ _ _ _ _ _ h hx hy d (by omega)
    | false=>cases h;simp
theorem js (op:BinOp) (t:TypeId) (x y:Operand) (a b:Value) (w:World) (ha:(match a with | .nilIface=>false | .agg _=>false | _=>true)=true) :
  (eqGuard op t x y a b).run E.P w = .ok () w:=by
 have _:=hE
 unfold eqGuard
 cases op<;>first | rfl | (cases a<;>first | rfl | (simp at ha;done) | simp)
theorem zb5 (op:BinOp) (t:TypeId) (x y:Operand) (b:Value) (w:World) (h:ifB (isConst x) true (isConst y)=true) :
  (eqGuard op t x y .nilIface b).run E.P w = .ok () w:=by
 have _:=hE
 have hc:(isConst x||isConst y)=true:=by
  rw [zm]at h
  cases hx:isConst x
  ·rw [hx]at h;simpa using h
  ·rfl
 unfold eqGuard
 cases op<;>first | rfl | (cases b<;>first | rfl | (cases x<;>cases y<;>first | rfl | (simp [isConst]at hc)))
omit hE in
theorem binOp_eql (t:TypeId) (x y:Value) (h:zaK x=true):Go.binOp .eql t x y=(do pure (.bool (← Op.equal t x y)):Sem Value):=by
 cases x<;>first | (simp [zaK]at h;done) | rfl
omit hE in
theorem binOp_neq (t:TypeId) (x y:Value) (h:zaK x=true):Go.binOp .neq t x y=(do pure (.bool (!(← Op.equal t x y))):Sem Value):=by
 cases x<;>first | (simp [zaK]at h;done) | rfl
theorem zdP {β:Inj} (hF:zB E β) {w:World}{op:BinOp}{t:TypeId}{x y:Operand}{a b v:zb} (h:zhf E op t a b=some v) :
  (do eqGuard op t x y (zc β a) (zc β b);Go.binOp op t (zc β a) (zc β b)).run E.P w = .ok (zc β v) w∧WF β v:=by
 unfold zhf at h
 cases hb:findF (za9 op a b) E.facts with
 | some r=>
  rw [hb,zd]at h
  cases h
  obtain ⟨f,hf,e⟩:=qk hb
  obtain ⟨h1,h2,h3,h4,h5⟩:=XZ e (hF _ hf)
  refine ⟨?_,h3⟩
  rw [Sem.run_bind,js hE op t x y _ _ w h4,Result.andThen_ok,h5]
 | none=>
  rw [hb,zn]at h
  replace h:=ze h
  obtain ⟨g,hg,h⟩:=h
  replace h:=ze h
  obtain ⟨r,hr,h⟩:=h
  cases h
  refine ⟨?_,by rw [jX];trivial⟩
  replace hr:=ze hr
  obtain ⟨dd,hd,hr⟩:=hr
  replace hr:=ze hr
  obtain ⟨sh,hs,hr⟩:=hr
  obtain ⟨f,hf,e⟩:=qk hr
  have:=zh2 e
  subst this
  obtain ⟨h1,h2,h3⟩:=hF _ hf
  unfold zj5 at hg
  rcases h3 with ⟨rfl,k,m,n,e1,e2,rfl⟩ | ⟨rfl,s,u,e1,e2,rfl⟩ | ⟨rfl,s,u,e1,e2,rfl⟩
  rotate_left 2
  ·cases dd<;>simp [shapeOf]at hs
   have hbool:∀ d (s u:Bool),(Op.equalIn (d+1) t (.bool s) (.bool u)).run E.P w = .ok (s==u) w:=by
    intro d s u
    simp [Op.equalIn,zt hE hd]
   rw [Sem.run_bind,js hE op t x y _ _ w (by rw [e1]),Result.andThen_ok,e1,e2]
   have heq:(Op.equal t (.bool s) (.bool u)).run E.P w = .ok (s==u) w:=by
    exact hbool 9999 s u
   split at hg
   ·cases hg
    rw [binOp_eql _ _ _ rfl,Sem.run_bind,heq]
    cases s<;>cases u<;>rfl
   ·cases hg
    rw [binOp_neq _ _ _ rfl,Sem.run_bind,heq]
    cases s<;>cases u<;>rfl
   ·cases hg
  ·rw [Sem.run_bind,js hE op t x y _ _ w (by rw [e1]),Result.andThen_ok,e1,e2]
   split at hg
   ·cases hg;simp [Go.binOp,Op.intCmp,zc]
   ·cases hg;simp [Go.binOp,Op.intCmp,zc,qy];rfl
   ·cases hg
  ·rw [Sem.run_bind,js hE op t x y _ _ w (by rw [e1]),Result.andThen_ok,e1,e2]
   split at hg
   ·cases hg;simp [Go.binOp,Op.stringOp,zc,JD]
   ·cases hg;simp [Go.binOp,Op.stringOp,zc,qy,JD]
   ·cases hg
theorem zi8 {β:Inj} (hF:zB E β) {H:zl}{w:World}{op:BinOp}{t:TypeId}{x y:Operand}{a b v:zb} (h:zsL E H op t x y a b=some v) (ha:WF β a) (hb:WF β b) :
  (do eqGuard op t x y (zc β a) (zc β b);Go.binOp op t (zc β a) (zc β b)).run E.P w = .ok (zc β v) w∧WF β v:=by
 unfold zsL at h
 rw [zm]at h
 split at h
 case isFalse=>exact zdP hE hF h
 rename_i hsb
 have hsym:=hsb
 rw [zk,qy,qy,Bool.and_eq_true]at hsym
 cases hi:asInt a with
 | some p=>
  have:=je hi
  subst this
  rw [Sem.run_bind,js hE op t x y _ _ w rfl,Result.andThen_ok]
  rw [hi,zd]at h
  cases hj:asInt b with
  | some q=>
   have:=je hj
   subst this
   rw [hj,zd]at h
   exact zcG h t β w
  | none=>
   rw [hj,zn]at h
   obtain ⟨h1,h⟩:=zg h
   have h1:=yE h1
   cases b<;>simp only [zrt]at h<;>first | (cases h;done) | skip
   rename_i q c
   obtain ⟨h2,h⟩:=zg h
   cases hm:p.2 with
   | negSucc m=>rw [hm]at h;cases h
   | ofNat m=>
    rw [hm]at h
    obtain ⟨h3,h⟩:=zg h
    cases h
    rw [zE,decide_eq_true_eq]at h3
    cases op<;>simp [zrh]at h2
    refine ⟨?_,trivial⟩
    rw [h1]
    simp [zc,Go.binOp,Op.intCmp]
    omega
 | none=>
  rw [hi,zn]at h
  unfold zrx at h
  cases hs:jb a with
  | some s=>
   have:=qz hs
   subst this
   rw [hs,zd]at h
   obtain ⟨u,hu,h⟩:=ze h
   have:=qz hu
   subst this
   rw [Sem.run_bind,js hE op t x y _ _ w rfl,Result.andThen_ok]
   exact zkG h ha hb t β w
  | none=>
   rw [hs,zn]at h
   obtain ⟨f,hf,h⟩:=ze h
   obtain ⟨hg,h⟩:=zg h
   obtain ⟨r,hr,h⟩:=ze h
   cases h
   have heq:=(Kc hE β hF H w 10000).1 _ _ _ _ hr ha hb Op.maxDepth (by decide)
   refine ⟨?_,by rw [jX];trivial⟩
   have guard:(eqGuard op t x y (zc β a) (zc β b)).run E.P w = .ok () w:=by
    cases a
    case agg l=>
     have hb':∃ m,b = .agg m:=by
      cases b<;>first | exact ⟨_,rfl⟩ | (exfalso;unfold JR at hr;rw [hsb,qE]at hr;clear hsb hsym;split at hr<;>simp_all)
     obtain ⟨m,rfl⟩:=hb'
     simp only [zdk,qy,Bool.not_eq_true']at hg
     exact run_eqGuard_agg w op t x y _ _ hg
    case niliface=>exact zb5 hE op t x y (zc β b) w hg
    case sym i=>exact absurd hsym.1 (by simp [Ju])
    all_goals exact js hE op t x y _ _ w rfl
   rw [Sem.run_bind,guard,Result.andThen_ok]
   have hx:zaK (zc β a)=true:=by
    cases a
    case sym i=>simp [Ju]at hsym
    all_goals first | rfl | (cases hi;done) | (cases hs;done) | (exfalso;unfold JR at hr;rw [hsb,qE]at hr;clear hsb hsym;split at hr<;>simp_all;done)
   have heq':(Op.equal t (zc β a) (zc β b)).run E.P w = .ok r w:=heq
   unfold zj5 at hf
   split at hf
   ·cases hf
    rw [binOp_eql _ _ _ hx]
    simp [heq',zc]
   ·cases hf
    rw [binOp_neq _ _ _ hx]
    simp [heq',zc,qy]
   ·cases hf
end
end Go.AEv
namespace Go.AEv
set_option linter.unusedSectionVars false
variable [Unk]
def qb (P:Program) (β:Inj) (w:World) (m:Sem Value) (v:zb):Prop:=m.run P w = .ok (zc β v) w∧WF β v
theorem VS {α:Type}{v:Option zb}{d m:Nat}{f:Nat→Option α}{r:α} (h:jo v d m f=some r) :
  (v=none∧f d=some r)∨∃ k n,v=some (.int k (.ofNat n))∧n≤m∧f n=some r:=by
 cases v with
 | none=>exact .inl ⟨rfl,h⟩
 | some v=>
  obtain ⟨i,hi,h⟩:=ze h
  obtain ⟨k,rfl⟩:=Ja hi
  cases i with
  | negSucc n=>cases h
  | ofNat n=>
   obtain ⟨h1,h⟩:=zg h
   rw [zE,decide_eq_true_eq]at h1
   exact .inr ⟨k,n,rfl,h1,h⟩
theorem XT {P:Program}{w:World}{β:Inj} (k:IntKind) {n m:Nat} (h:n≤m) (c:BoundsCode) :
  (Instr.sliceBound (zc β (.int k (.ofNat n))) m c).run P w = .ok n w:=by
 unfold Instr.sliceBound
 simp [zc,asIntOf]
 omega
theorem ZE {P : Program} {w : World} {β : Inj} {isSlice : Bool} {len cap cap' : Nat} {lo hi mx : Option zb} {α : Type} {f : Nat → Nat → Nat → Option α} {r : α}
    (ho : zmO hi mx = true) (hc : cap ≤ cap') (hl : len ≤ cap) (h : (jo mx cap cap fun m => jo hi len m fun h => jo lo 0 h fun l => f m h l) = some r) :
    ∃ m h l, f m h l = some r ∧ l ≤ h ∧ h ≤ m ∧ m ≤ cap ∧
      (Instr.sliceBounds isSlice len cap' (lo.map (zc β)) (hi.map (zc β)) (mx.map (zc β))).run P w = .ok (l, h, if mx.isSome then m else cap') w ∧ (mx = none → m = cap) := by
  have low : ∀ m h, (jo lo 0 h fun l => f m h l) = some r → ∃ l, f m h l = some r ∧ l ≤ h ∧
      ∀ c K, (match lo.map (zc β) with
        | some v => do
          let l ← Instr.sliceBound v h c
          pure (l, h, K)
        | none => do
          let l ← pure 0
          pure (l, h, K) : Sem (Nat × Nat × Nat)).run P w = .ok (l, h, K) w := by
    intro m h hh
    rcases VS hh with ⟨e, hh⟩ | ⟨k3, l, e, h3, hh⟩
    · exact ⟨0, hh, Nat.zero_le _, fun c K => by rw [e]; rfl⟩
    · refine ⟨l, hh, h3, fun c K => ?_⟩
      rw [e, Option.map_some]
      simp only [Sem.run_bind, XT k3 h3 c, Result.andThen_ok, Sem.run_pure]
  rcases VS h with ⟨e1, h⟩ | ⟨k1, m, e1, h1, h⟩
  · rcases VS (show (jo hi len cap fun h => jo lo 0 h fun l => f cap h l) = some r from h) with ⟨e2, h⟩ | ⟨k2, n, e2, h2, h⟩
    · obtain ⟨l, g1, g2, g3⟩ := low _ _ h
      refine ⟨cap, len, l, g1, g2, hl, Nat.le_refl _, ?_, fun _ => rfl⟩
      subst e1; subst e2
      simp only [Instr.sliceBounds, Option.map_none, Sem.run_bind, Sem.run_pure, Result.andThen_ok, Option.isSome_none]
      exact g3 _ _
    · obtain ⟨l, g1, g2, g3⟩ := low _ _ h
      refine ⟨cap, n, l, g1, g2, h2, Nat.le_refl _, ?_, fun _ => rfl⟩
      subst e1; subst e2
      simp only [Instr.sliceBounds, Option.map_none, Option.map_some, Sem.run_bind, Sem.run_pure, Result.andThen_ok, XT k2 (Nat.le_trans h2 hc), Option.isSome_none]
      exact g3 _ _
  · rcases VS (show (jo hi len m fun h => jo lo 0 h fun l => f m h l) = some r from h) with ⟨e2, h⟩ | ⟨k2, n, e2, h2, h⟩
    · subst e1; subst e2; simp [zmO] at ho
    · obtain ⟨l, g1, g2, g3⟩ := low _ _ h
      refine ⟨m, n, l, g1, g2, h2, h1, ?_, fun e => by rw [e1] at e; cases e⟩
      subst e1; subst e2
      simp only [Instr.sliceBounds, Option.map_some, Sem.run_bind, Result.andThen_ok, XT k1 (Nat.le_trans h1 hc), XT k2 h2, Option.isSome_some]
      exact g3 _ _
theorem zjH {b off h l m sz:Nat}{ex:Bool}{v:zb} (hh:VF b off h l m sz ex=some v) :
  (m=l∧ex=true∧v = .slice b off (h-l) (m-l) true)∨(m=l∧ex=false∧v = .esl b off (off+l*sz))∨(m≠l∧v = .slice b (off+l*sz) (h-l) (m-l) ex):=by
 unfold VF at hh
 rw [zm,zw]at hh
 by_cases e:m=l
 ·rw [if_pos (by simp [e])]at hh
  cases ex with
  | true=>cases hh;exact .inl ⟨e,rfl,rfl⟩
  | false=>cases hh;exact .inr (.inl ⟨e,rfl,rfl⟩)
 ·rw [if_neg (by simp [e])]at hh
  cases hh
  exact .inr (.inr ⟨e,rfl⟩)
section
variable {E:Env} (hE:kH E)
include hE
omit hE in
theorem WT {o:Option zb} (h:isZ o=true):o=none∨∃ k,o=some (.int k 0):=by
 cases o with
 | none=>exact .inl rfl
 | some v=>
  replace h:zh (XM v) false (fun i=>KJ i (.ofNat 0))=true:=h
  cases hv:XM v with
  | none=>rw [hv]at h;cases h
  | some i=>
   rw [hv,zd,Z0,beq_iff_eq]at h
   obtain ⟨k,rfl⟩:=Ja hv
   subst h
   exact .inr ⟨k,rfl⟩
theorem zdN {β : Inj} (hF : zB E β) {w : World} {t : TypeId} (hd : E.desc t = some .string) {x : zb} {lo hi mx : Option zb} {v : zb} (h : zhe E x lo hi mx = some v) :
    qb E.P β w (Instr.sliceAt t (zc β x) (lo.map (zc β)) (hi.map (zc β)) (mx.map (zc β))) v := by
  unfold zhe at h
  cases mx with
  | some m => cases h
  | none =>
    cases hi with
    | none => cases h
    | some hh =>
      simp only [zn, zd] at h
      have key : ∀ l, findF (zna x l hh) E.facts = some v → (lo = some l ∨ (lo = none ∧ l = .int .i64 (.ofNat 0))) →
          qb E.P β w (Instr.sliceAt t (zc β x) (lo.map (zc β)) ((some hh).map (zc β)) ((none : Option zb).map (zc β))) v := by
        intro l h hl
        obtain ⟨f, hf, e⟩ := qk h
        have := zpb e
        subst this
        obtain ⟨h1, h2, h3, h4, s, j, n, k, m, e1, e2, e3, e4, e5, e6⟩ := hF _ hf
        refine ⟨?_, h4⟩
        have b1 : ∀ c M, m ≤ M → (Instr.sliceBound (.int k (Int.ofNat m)) M c).run E.P w = .ok m w := by
          intro c M hM
          unfold Instr.sliceBound
          simp [asIntOf]
          omega
        have b2 : ∀ c, (Instr.sliceBound (.int j (Int.ofNat n)) m c).run E.P w = .ok n w := by
          intro c
          unfold Instr.sliceBound
          simp [asIntOf]
          omega
        unfold Instr.sliceAt
        rw [Sem.run_bind, zt hE hd]
        simp only [Result.andThen_ok]
        unfold Instr.slice
        rw [Sem.run_bind, zt hE hd]
        simp only [Result.andThen_ok, e1, Option.map_some, Option.map_none, e3]
        rcases hl with rfl | ⟨rfl, rfl⟩
        · simp only [Option.map_some, Option.isSome_none, Bool.false_eq_true, if_false, e2, Instr.sliceBounds, Sem.run_bind, Sem.run_pure, Result.andThen_ok, b1 _ _ e5, b2, e6]
        · have hn : n = 0 := by
            simp only [zc] at e2
            injection e2 with e2 e2'
            have := Int.ofNat.inj e2'
            omega
          subst hn
          simp only [Option.map_none, Option.isSome_none, Bool.false_eq_true, if_false, Instr.sliceBounds, Sem.run_bind, Sem.run_pure, Result.andThen_ok, b1 _ _ e5, e6]
      cases lo with
      | none => exact key _ h (.inr ⟨rfl, rfl⟩)
      | some l => exact key _ h (.inl rfl)
theorem yz {β:Inj}{w:World}{t e:TypeId}{sz:Nat} (hd:E.desc t=some (.slice e)) (hsz:E.size e=some sz) {s:Sl}{lo hi mx:Option zb}{v:zb} (ho:zmO hi mx=true)
  (h:Vq s sz lo hi mx=some v) (hx:WF β (.slice s.b s.off s.len s.cap s.ex)) :
  qb E.P β w (Instr.slice t (zc β (.slice s.b s.off s.len s.cap s.ex)) (lo.map (zc β)) (hi.map (zc β)) (mx.map (zc β))) v:=by
 unfold qb Instr.slice
 rw [Sem.run_bind,zt hE hd]
 have hl:=hx.2
 obtain ⟨m,hh,l,e1,e2,e3,e4,e5,e6⟩:=ZE (P:=E.P) (w:=w) (β:=β) (isSlice:=true) (cap':=if s.ex then s.cap else s.cap+β.ext s.b) ho (by split<;>omega) hl h
 simp only [zc,Result.andThen_ok,Sem.run_bind,e5,qo hE hsz,Sem.run_pure]
 rcases zjH e1 with ⟨g1,g2,rfl⟩ | ⟨g1,g2,rfl⟩ | ⟨g1,rfl⟩
 ·refine ⟨?_,⟨hx.1,by omega⟩⟩
  cases mx with
  | none=>
   have:=e6 rfl
   rw [zn]at g2
   simp only [g2,Option.isSome_none,Bool.false_eq_true,if_false,if_true,zc]
   rw [if_pos (by omega),this]
  | some mx=>
   simp only [Option.isSome_some,if_true,zc]
   rw [if_pos g1]
 ·refine ⟨?_,hx.1⟩
  cases mx with
  | some mx=>rw [zd]at g2;cases g2
  | none=>
   have:=e6 rfl
   rw [zn]at g2
   simp only [g2,Option.isSome_none,Bool.false_eq_true,if_false,zc,Option.map_some,Inj.jy]
   by_cases he:β.ext s.b=0
   ·rw [if_pos (by omega),if_pos he]
    congr 2<;>omega
   ·rw [if_neg (by omega),if_neg he]
    congr 2<;>omega
 ·refine ⟨?_,⟨hx.1,by omega⟩⟩
  cases mx with
  | none=>
   have:=e6 rfl
   rw [this]at g1 e3 ⊢
   simp only [Option.isSome_none,Bool.false_eq_true,if_false,zc,zn,Option.map_some,Inj.jy]
   cases hex:s.ex
   ·simp only [Bool.false_eq_true,if_false]
    rw [if_neg (by omega)]
    congr 2
    omega
   ·simp only [if_true]
    rw [if_neg g1]
  | some mx=>
   simp only [Option.isSome_some,if_true,zc,zd,Option.map_some,Inj.jy]
   rw [if_neg g1]
omit hE in
theorem zgJ {v:zb}{q:Nat} (h:zdw v=some q):v = .sym q:=by cases v<;>cases h;rfl
omit hE in
theorem WS {β:Inj} (hF:zB E β) {q:Nat}{n:Nat×Nat} (h:findF (znh q) E.facts=some n):WF β (.sym q)∧∃ N:Nat,zc β (.sym q) = .int .i64 (N:Int)∧n.1≤N∧N≤n.2:=by
 obtain ⟨f,hf,e⟩:=qk h
 cases f<;>try cases e
 rename_i p lo hi
 obtain ⟨h1,h2⟩:=zg e
 rw [zw,beq_iff_eq]at h1
 subst h1
 cases h2
 exact hF _ hf
omit hE in
theorem zf0 {β:Inj} (hF:zB E β) {q m r:Nat} (h:findF (znk q m) E.facts=some r):WF β (.sym q)∧WF β (.sym r)∧∃ N:Nat,zc β (.sym q) = .int .i64 (N:Int)∧m≤N∧zc β (.sym r) = .int .i64 ((N-m:Nat):Int):=by
 obtain ⟨f,hf,e⟩:=qk h
 cases f<;>try cases e
 rename_i p k r'
 obtain ⟨h1,h2⟩:=zg e
 rw [zk,Bool.and_eq_true,zw,zw,beq_iff_eq,beq_iff_eq]at h1
 obtain ⟨h1,h3⟩:=h1
 subst h1
 subst h3
 cases h2
 exact hF _ hf
theorem zax {β:Inj} (hF:zB E β) {w:World}{t e:TypeId}{sz:Nat} (hd:E.desc t=some (.slice e)) (hsz:E.size e=some sz) {p:Psl}{lo hi mx:Option zb}{v x:zb} (ho:zmO hi mx=true)
  (h:zay E p sz lo hi mx=some v) (ex:x = .psl p.b p.o p.q p.c p.ex) (hx:WF β x) :
  qb E.P β w (Instr.slice t (zc β x) (lo.map (zc β)) (hi.map (zc β)) (mx.map (zc β))) v:=by
 subst ex
 obtain ⟨w1,w2,N,w3,w4⟩:=hx
 have cx:zc β (.psl p.b p.o p.q p.c p.ex)=zc β (.slice p.b p.o N p.c p.ex):=by
  simp only [zc]
  rw [w3]
  rfl
 have hx':WF β (.slice p.b p.o N p.c p.ex):=⟨w1,w4⟩
 rw [cx]
 unfold zay at h
 cases mx with
 | some m=>cases h
 | none=>
  rw [zn]at h
  cases hi with
  | some hh=>
   rw [zd]at h
   exact yz (s:=⟨p.b,p.o,N,p.c,p.ex⟩) hE hd hsz rfl h hx'
  | none=>
   rw [zn,zm]at h
   split at h
   ·rename_i hz
    cases h
    rw [zk,Bool.and_eq_true,zO,decide_eq_true_eq]at hz
    obtain ⟨hz,hc⟩:=hz
    have key:Vq ⟨p.b,p.o,N,p.c,p.ex⟩ sz lo none none=some (.slice p.b p.o N p.c p.ex):=by
     have e2:VF p.b p.o N 0 p.c sz p.ex=some (.slice p.b p.o N p.c p.ex):=by
      unfold VF
      rw [zm,zw,if_neg (by simp;omega)]
      simp only [zX]
      show some (zb.slice p.b (p.o+0*sz) (N-0) (p.c-0) p.ex)=_
      simp
     rcases WT hz with rfl | ⟨k,rfl⟩
     ·exact e2
     ·exact e2
    obtain ⟨g1,g2⟩:=yz (w:=w) hE hd hsz rfl key hx'
    exact ⟨by rw [cx];exact g1,⟨w1,w2,N,w3,w4⟩⟩
   ·obtain ⟨l,hl0,h'⟩:=ze h
    clear h
    subst hl0
    obtain ⟨i,hi',h⟩:=ze h'
    clear h'
    obtain ⟨k,rfl⟩:=Ja hi'
    cases i with
    | negSucc m=>cases h
    | ofNat m=>
    replace h:(bnd (findF (znh p.q) E.facts) fun n=>ifB (zq (Nat.blt m p.c) (Nat.ble m n.1)) (bnd (findF (znk p.q m) E.facts) fun q=>frc (Nat.add p.o (Nat.mul m sz)) fun o=>frc (Nat.sub p.c m) fun c=>some (zb.psl p.b o q c p.ex)) none)=some v:=h
    obtain ⟨n,hn,h⟩:=ze h
    obtain ⟨hc,h⟩:=zg h
    simp only [zk,Bool.and_eq_true,zO,zE,decide_eq_true_eq]at hc
    obtain ⟨hc1,hc2⟩:=hc
    obtain ⟨q',hq',h⟩:=ze h
    simp only [zX]at h
    cases h
    obtain ⟨k1,N1,k2,k3,k4⟩:=WS hF hn
    obtain ⟨d1,d2,N2,d3,d4,d5⟩:=zf0 hF hq'
    have eN:zW ((β p.q).getD (0,0,0)) = .int .i64 (N1:Int):=k2
    have eN2:zW ((β p.q).getD (0,0,0)) = .int .i64 (N2:Int):=d3
    rw [w3]at eN eN2
    have h1:N=N1:=by injection eN with _ e;omega
    have h2:N=N2:=by injection eN2 with _ e;omega
    subst h1
    subst h2
    have key:Vq ⟨p.b,p.o,N,p.c,p.ex⟩ sz (some (.int k (.ofNat m))) none none=some (.slice p.b (p.o+m*sz) (N-m) (p.c-m) p.ex):=by
     show (jo (some (.int k (.ofNat m))) 0 N fun l=>VF p.b p.o N l p.c sz p.ex)=_
     show ifB (Nat.ble m N) (VF p.b p.o N m p.c sz p.ex) none=_
     rw [zm,zE,if_pos (decide_eq_true (by omega))]
     unfold VF
     rw [zm,zw,if_neg (by simp;omega)]
     simp only [zX]
     rfl
    obtain ⟨g1,g2⟩:=yz (w:=w) hE hd hsz rfl key hx'
    refine ⟨?_,⟨w1,d2,N-m,d5,by show N-m≤p.c-m;omega⟩⟩
    rw [g1]
    simp only [zc]
    rw [show zW ((β q').getD (0,0,0)) = .int .i64 ((N-m:Nat):Int) from d5]
    rfl
theorem zeB {β:Inj} (hF:zB E β) {w:World}{t:TypeId}{x:zb}{lo hi mx:Option zb}{v:zb} (h:zoe E t x lo hi mx=some v) (hx:WF β x) :
  qb E.P β w (Instr.sliceAt t (zc β x) (lo.map (zc β)) (hi.map (zc β)) (mx.map (zc β))) v:=by
 obtain ⟨ho,h⟩:=zg h
 obtain ⟨d,hd,h⟩:=ze h
 unfold qb Instr.sliceAt
 rw [Sem.run_bind,zt hE hd]
 cases h1:jQ d with
 | some e=>
  have:=jB h1
  subst this
  rw [h1,zd]at h
  obtain ⟨sz,hsz,h⟩:=ze h
  simp only [Result.andThen_ok]
  cases h2:kr x with
  | some s=>
   have:=jG h2
   subst this
   rw [h2,zd]at h
   cases h4:bnd hi zdw with
   | none=>
    rw [h4,zn]at h
    exact yz hE hd hsz ho h hx
   | some q0=>
    rw [h4,zd]at h
    unfold zfp at h
    cases mx with
    | some m=>cases h
    | none=>
     rw [zn]at h
     obtain ⟨hh,hh0,h'⟩:=ze h
     clear h
     subst hh0
     obtain ⟨q,hq,hQ⟩:=ze h'
     have:=zgJ hq
     subst this
     obtain ⟨n,hn,hQ⟩:=ze hQ
     obtain ⟨hc,hQ⟩:=zg hQ
     cases hQ
     simp only [zk,Bool.and_eq_true,zO,zE,decide_eq_true_eq]at hc
     obtain ⟨hz,hc1,hc2⟩:=hc
     obtain ⟨k1,N,k2,k3,k4⟩:=WS hF hn
     have key:Vq s sz lo (some (.int .i64 (.ofNat N))) none=some (.slice s.b s.off N s.cap s.ex):=by
      have e1:∀ f:Nat→Option zb,jo (some (.int .i64 (.ofNat N))) s.len s.cap f=f N:=fun f=>by
       show ifB (Nat.ble N s.cap) (f N) none=f N
       rw [zm,zE,if_pos (decide_eq_true (by omega))]
      have e2:VF s.b s.off N 0 s.cap sz s.ex=some (.slice s.b s.off N s.cap s.ex):=by
       unfold VF
       rw [zm,zw,if_neg (by simp;omega)]
       simp only [zX]
       show some (zb.slice s.b (s.off+0*sz) (N-0) (s.cap-0) s.ex)=_
       simp
      show (jo (some (.int .i64 (.ofNat N))) s.len s.cap fun h=>jo lo 0 h fun l=>VF s.b s.off h l s.cap sz s.ex)=_
      rw [e1]
      rcases WT hz with rfl | ⟨k,rfl⟩
      ·exact e2
      ·exact e2
     obtain ⟨g1,g2⟩:=yz (w:=w) hE hd hsz (lo:=lo) (hi:=some (.int .i64 (.ofNat N))) (mx:=none) rfl key hx
     have e3:zc β (.int .i64 (.ofNat N))=zc β (.sym q):=by rw [k2];rfl
     refine ⟨?_,⟨hx.1,k1,N,k2,by omega⟩⟩
     simp only [Option.map_some,e3]at g1 ⊢
     rw [g1]
     simp only [zc]
     rw [show zW ((β q).getD (0,0,0)) = .int .i64 (N:Int) from k2]
     rfl
  | none=>
   rw [h2,zn]at h
   cases h3:jT x with
   | false=>
    rw [h3,ku]at h
    cases hos:Qf x with
    | none=>
     rw [hos,zn]at h
     cases hp:zdx x with
     | some p=>
      rw [hp,zd]at h
      exact zax hE hF hd hsz ho h (zbO hp) hx
     | none=>
      rw [hp,zn]at h
      unfold zfo at h
      cases mx with
      | some m=>cases h
      | none=>
       rw [zn]at h
       obtain ⟨hz,hQ⟩:=zg h
       obtain ⟨hh,hh0,hR⟩:=ze hQ
       subst hh0
       obtain ⟨f,hf,e0⟩:=qk hR
       have:=znb e0
       subst this
       obtain ⟨_,_,h3',p0,n0,c0,j0,k0,e1,e2,e3,e4⟩:=hF _ hf
       have b1:∀ c,(Instr.sliceBound (.int j0 (Int.ofNat k0)) c0 c).run E.P w = .ok k0 w:=by
        intro c
        unfold Instr.sliceBound
        simp [asIntOf]
        omega
       have b2:∀ j c,(Instr.sliceBound (.int j 0) k0 c).run E.P w = .ok 0 w:=by
        intro j c
        unfold Instr.sliceBound
        simp [asIntOf]
       refine ⟨?_,h3'⟩
       unfold Instr.slice
       rw [Sem.run_bind,zt hE hd]
       rcases WT hz with rfl | ⟨j,rfl⟩
       ·simp only [e1,e2,Option.map_some,Option.map_none,Option.isSome_none,Bool.false_eq_true,if_false,if_true,Instr.sliceBounds,Sem.run_bind,Sem.run_pure,Result.andThen_ok,b1,qo hE hsz,e4]
        split<;>cases p0<;>simp [Addr.add]
       ·simp only [e1,e2,zc,Option.map_some,Option.map_none,Option.isSome_none,Bool.false_eq_true,if_false,if_true,Instr.sliceBounds,Sem.run_bind,Sem.run_pure,Result.andThen_ok,b1,b2,qo hE hsz,e4]
        split<;>cases p0<;>simp [Addr.add]
    | some p=>
    rw [hos,zd]at h
    have hQ:=h
    have:=Q9 hos
    subst this
    unfold Instr.slice
    rw [Sem.run_bind,zt hE hd]
    obtain ⟨hw1,hw2,zfl,hs1,hs2⟩:=hx
    obtain ⟨hz,hQ⟩:=zg hQ
    cases mx with
    | none=>
     rw [zn]at hQ
     cases hi with
     | some _=>cases hQ
     | none=>
      cases hQ
      have key:(jo (none:Option zb) (β.ext p.1) (β.ext p.1) fun m=>jo (none:Option zb) zfl.size m fun h=>jo lo 0 h fun l=>some (m,h,l))=some (β.ext p.1,zfl.size,0):=by
       rcases WT hz with rfl | ⟨k,rfl⟩<;>rfl
      obtain ⟨m,hh,l,e1,e2,e3,e4,e5,e6⟩:=ZE (P:=E.P) (w:=w) (β:=β) (isSlice:=true) (len:=zfl.size) (cap:=β.ext p.1) (cap':=β.ext p.1) (f:=fun m h l=>some (m,h,l)) ho (Nat.le_refl _) hs2 key
      cases e1
      refine ⟨?_,hw1,hw2,zfl,hs1,hs2⟩
      simp only [zc,hs1,sOf,Result.andThen_ok,Sem.run_bind,e5,qo hE hsz,Sem.run_pure,Option.isSome_none,Bool.false_eq_true,if_false,Option.map_some,Inj.jy]
      split<;>simp
    | some mx=>
     rw [zd]at hQ
     cases hi with
     | none=>cases hQ
     | some hi=>
      rw [zd]at hQ
      obtain ⟨hz2,hQ⟩:=zg hQ
      cases hQ
      rw [zk,Bool.and_eq_true]at hz2
      obtain ⟨hm,hh⟩:=hz2
      rcases WT hm with hm | ⟨k1,hm⟩
      ·cases hm
      ·cases hm
       rcases WT hh with hh | ⟨k2,hh⟩
       ·cases hh
       ·cases hh
        have key:(jo (some (zb.int k1 0)) (β.ext p.1) (β.ext p.1) fun m=>jo (some (zb.int k2 0)) zfl.size m fun h=>jo lo 0 h fun l=>some (m,h,l))=some (0,0,0):=by
         rcases WT hz with rfl | ⟨k,rfl⟩<;>rfl
        obtain ⟨m,hh,l,e1,e2,e3,e4,e5,e6⟩:=ZE (P:=E.P) (w:=w) (β:=β) (isSlice:=true) (len:=zfl.size) (cap:=β.ext p.1) (cap':=β.ext p.1) (f:=fun m h l=>some (m,h,l)) ho (Nat.le_refl _) hs2 key
        cases e1
        refine ⟨?_,hw1,Nat.le_refl _⟩
        simp only [zc,hs1,sOf,Result.andThen_ok,Sem.run_bind,e5,qo hE hsz,Sem.run_pure,Option.isSome_some,if_true]
   | true=>
    rw [h3,qE]at h
    have h':=h
    clear h
    have:=jt h3
    subst this
    unfold Instr.slice
    rw [Sem.run_bind,zt hE hd]
    obtain ⟨m,hh,l,e1,e2,e3,e4,e5,e6⟩:=ZE (P:=E.P) (w:=w) (β:=β) (isSlice:=true) (len:=0) (cap:=0) (cap':=0) (f:=fun _ _ _=>some zb.nilslice) ho (Nat.le_refl _) (Nat.le_refl _)
     (show zfq lo hi mx=some v from h')
    cases e1
    refine ⟨?_,trivial⟩
    have hm:m=0:=by omega
    simp only [zc,Result.andThen_ok,Sem.run_bind,e5,qo hE hsz,Sem.run_pure]
    have h0:hh=0:=by omega
    have l0:l=0:=by omega
    subst h0 l0
    cases mx<;>simp [hm]
 | none=>
  rw [h1,zn]at h
  cases h2:ZO d with
  | some q=>
   have:=ZN h2
   subst this
   rw [h2,zd]at h
   obtain ⟨sz,hsz,h⟩:=ze h
   obtain ⟨p,hp,h⟩:=ze h
   have:=kX hp
   subst this
   obtain ⟨m,hh,l,e1,e2,e3,e4,e5,e6⟩:=ZE (P:=E.P) (w:=w) (β:=β) (isSlice:=false) (cap':=q.1) (f:=fun m h l=>VF p.1 p.2 h l m sz true) ho (Nat.le_refl _) (Nat.le_refl _) h
   simp only [zc,Result.andThen_ok,Sem.run_bind,Instr.sureAddr,e5,qo hE hsz,Sem.run_pure]
   have hm:(if mx.isSome=true then m else q.1)=m:=by
    cases mx with
    | none=>simp [e6 rfl]
    | some _=>simp
   rw [hm]
   rcases zjH e1 with ⟨g1,g2,rfl⟩ | ⟨g1,g2,rfl⟩ | ⟨g1,rfl⟩
   ·exact ⟨by simp [zc,g1],⟨hx,by omega⟩⟩
   ·cases g2
   ·exact ⟨by simp [zc,g1,Inj.jy],⟨hx,by omega⟩⟩
  | none=>
   rw [h2,zn]at h
   obtain ⟨h3,h⟩:=zg h
   have:=jh h3
   subst this
   cases hs:jb x with
   | none=>
    rw [hs,zn]at h
    have:=zdN (w:=w) hE hF hd h
    unfold qb Instr.sliceAt at this
    rw [Sem.run_bind,zt hE hd]at this
    exact this
   | some s=>
   rw [hs,zd]at h
   have h':=h
   clear h
   have:=qz hs
   subst this
   simp only [Result.andThen_ok]
   unfold Instr.slice
   rw [Sem.run_bind,zt hE hd]
   cases mx with
   | some mx=>cases h'
   | none=>
    have h:(jo hi (qM s 0) (qM s 0) fun h=>jo lo 0 h fun l=>some (zb.str (zdm l (zaq h s))))=some v:=h'
    obtain ⟨m,hh,l,e1,e2,e3,e4,e5,e6⟩:=ZE (P:=E.P) (w:=w) (β:=β) (isSlice:=false) (len:=s.length) (cap:=s.length) (cap':=s.length) (mx:=none) (lo:=lo) (hi:=hi)
     (f:=fun _ h l=>some (zb.str (zdm l (zaq h s)))) (r:=v) ho (Nat.le_refl _) (Nat.le_refl _) (by rw [jx]at h;exact h)
    cases e1
    have e7:(str s).extract l hh=str ((s.take hh).drop l):=by
     apply ByteArray.ext
     apply Array.toList_inj.1
     simp [str,List.drop_take,List.extract_eq_take_drop]
    simp only [zc,Result.andThen_ok,Option.map_none,Option.isSome_none,Bool.false_eq_true,if_false,qh]at e5 ⊢
    refine ⟨?_,fun b hb=>?_⟩
    ·rw [Sem.run_bind,e5]
     simp [e7]
    ·rw [zbx,Vl]at hb
     exact hx b (List.mem_of_mem_take (List.mem_of_mem_drop hb))
end
end Go.AEv
namespace Go.AEv
set_option linter.unusedSectionVars false
variable [Unk]
theorem J0 {α:Type}{n:Nat}{s:Nat→Option α}{a:α} (h:qP n none s=some a):∃ m,n=m+1∧s m=some a:=by
 cases n with
 | zero=>cases h
 | succ m=>exact ⟨m,rfl,h⟩
theorem qY {α:Type}{i:Int}{f:Nat→Option α}{a:α} (h:Xx i f=some a):∃ n,i = .ofNat n∧f n=some a:=by
 cases i with
 | ofNat n=>exact ⟨n,rfl,h⟩
 | negSucc n=>cases h
theorem zbk {α:Type}{i:Int}{n:Nat}{f:Nat→Option α}{a:α} (h:inB i n f=some a):∃ m,i = .ofNat m∧m<n∧f m=some a:=by
 cases i with
 | ofNat m=>
  replace h:=zg h
  obtain ⟨h1,h⟩:=h
  rw [zO,decide_eq_true_eq]at h1
  exact ⟨m,rfl,h1,h⟩
 | negSucc m=>cases h
section
variable {E:Env} (hE:kH E)
include hE
theorem zcg {β:Inj}{w:World}{s:TypeId}{x v:zb}{i:Nat}{d:TypeDesc}{fs:List Field}{fl:Field}{p:Nat×Nat}
  (hd:E.desc s=some d) (hs:Zk d=some fs) (hf:kg i fs=some fl) (hp:JB x=some p) (h:zj3 E p.1 p.2 fl=some v) (hx:WF β x) :
  qb E.P β w (Instr.fieldAt s (zc β x) i) v:=by
 obtain ⟨fs',rfl,rfl⟩:=YR hs
 have:=kX hp
 subst this
 replace h:=ze h
 obtain ⟨n,hn,h⟩:=h
 replace h:=J0 h
 obtain ⟨m,rfl,h⟩:=h
 cases h
 rw [kF,Array.getElem?_toList]at hf
 refine ⟨?_,hx⟩
 unfold Instr.fieldAt fieldPlace
 simp [zt hE hd,hf,zc,Instr.sureAddr,qo hE hn,Inj.jy]
theorem K3 {β:Inj} (hF:zB E β) {w:World}{t:TypeId}{x ix v:zb} (h:zbS E t x ix=some v) (hx:WF β x) :
  qb E.P β w (Instr.indexAt t (zc β x) (zc β ix)) v:=by
 replace h:=ze h
 obtain ⟨i,hi,h⟩:=h
 obtain ⟨k,rfl⟩:=Ja hi
 replace h:=ze h
 obtain ⟨d,hd,h⟩:=h
 cases h1:jQ d with
 | some e=>
  have:=jB h1
  subst this
  rw [h1,zd]at h
  replace h:=ze h
  obtain ⟨s,hs,h⟩:=h
  cases hq:kr x with
  | some q=>
   rw [hq,zd]at h
   have:=jG hq
   subst this
   replace h:=zbk h
   obtain ⟨m,rfl,hm,h⟩:=h
   cases h
   refine ⟨?_,hx.1⟩
   unfold Instr.indexAt
   simp [zt hE hd,zc,asIntOf,qo hE hs,Inj.jy,hm]
  | none=>
   rw [hq,zn]at h
   obtain ⟨p,hp,h⟩:=ze h
   have:=zbO hp
   subst this
   obtain ⟨w1,w2,N,w3,w4⟩:=hx
   obtain ⟨m,hi0,hQ⟩:=qY h
   subst hi0
   obtain ⟨n,hn,hQ⟩:=ze hQ
   obtain ⟨hm,hQ⟩:=zg hQ
   rw [zO,decide_eq_true_eq]at hm
   cases hQ
   obtain ⟨k1,N1,k2,k3,k4⟩:=WS hF hn
   have eN:zW ((β p.q).getD (0,0,0)) = .int .i64 (N1:Int):=k2
   rw [w3]at eN
   have h1:N=N1:=by injection eN with _ e;omega
   subst h1
   have hlt:m<N:=by omega
   refine ⟨?_,w1⟩
   unfold Instr.indexAt
   simp [zt hE hd,zc,asIntOf,qo hE hs,Inj.jy,w3,zfT,hlt]
 | none=>
  rw [h1,zn]at h
  replace h:=ze h
  obtain ⟨q,hq,h⟩:=h
  have:=ZN hq
  subst this
  replace h:=ze h
  obtain ⟨p,hp,h⟩:=h
  have:=kX hp
  subst this
  replace h:=ze h
  obtain ⟨s,hs,h⟩:=h
  replace h:=zbk h
  obtain ⟨m,rfl,hm,h⟩:=h
  cases h
  refine ⟨?_,hx⟩
  unfold Instr.indexAt
  simp [zt hE hd,zc,asIntOf,Instr.sureAddr,qo hE hs,Inj.jy,hm]
theorem zau {β:Inj} (hF:zB E β) {w:World}{t:TypeId}{x ix v:zb} (h:zfh E t x ix=some v) :
  qb E.P β w (Instr.index t (zc β x) (zc β ix)) v:=by
 replace h:=ze h
 obtain ⟨i,hi,h⟩:=h
 obtain ⟨k,rfl⟩:=Ja hi
 replace h:=ze h
 obtain ⟨d,hd,h⟩:=h
 replace h:=zg h
 obtain ⟨h2,h⟩:=h
 have:=jh h2
 subst this
 replace h:=qY h
 obtain ⟨n,rfl,h⟩:=h
 obtain ⟨f,hf,e⟩:=qk h
 have:=zsa e
 subst this
 obtain ⟨h1,h2,s,b,e1,e2,e3⟩:=hF _ hf
 refine ⟨?_,h2⟩
 have e4:s[n]? = some b:=by
  have hlt:=(Array.getElem?_eq_some_iff.1 e2).1
  rw [getElem?_pos s n hlt]
  congr 1
  exact (Array.getElem?_eq_some_iff.1 e2).2
 unfold Instr.index
 simp [zt hE hd,zc,asIntOf,e1,e3,e4]
theorem zeL {β:Inj}{w:World}{t:TypeId}{x ix v:zb} (h:zom E t x ix=some v) (hx:WF β x) :
  qb E.P β w (Instr.index t (zc β x) (zc β ix)) v:=by
 replace h:=ze h
 obtain ⟨i,hi,h⟩:=h
 obtain ⟨k,rfl⟩:=Ja hi
 cases h1:jb x with
 | some s=>
  have:=qz h1
  subst this
  rw [h1,zd]at h
  replace h:=ze h
  obtain ⟨d,hd,h⟩:=h
  replace h:=zg h
  obtain ⟨h2,h⟩:=h
  have:=jh h2
  subst this
  replace h:=qY h
  obtain ⟨n,rfl,h⟩:=h
  replace h:=ze h
  obtain ⟨b,hb,h⟩:=h
  cases h
  rw [kF]at hb
  have hb':b<256:=hx b (List.mem_of_getElem? hb)
  refine ⟨?_,trivial⟩
  unfold Instr.index
  have e:(str s)[n]? = some (UInt8.ofNat b):=by
   have hlt:=(List.getElem?_eq_some_iff.1 hb).1
   rw [getElem?_pos (str s) n (by rw [qh];exact hlt)]
   congr 1
   have:(str s)[n]'(by rw [qh];exact hlt)=UInt8.ofNat (s[n]'hlt):=by
    show (str s).data[n]'_=_
    simp [str]
   rw [this,(List.getElem?_eq_some_iff.1 hb).2]
  simp [zt hE hd,zc,asIntOf,e,u8]
  omega
 | none=>
  rw [h1,zn]at h
  replace h:=ze h
  obtain ⟨d,hd,h⟩:=h
  replace h:=ze h
  obtain ⟨q,hq,h⟩:=h
  have:=ZN hq
  subst this
  replace h:=ze h
  obtain ⟨cs,hc,h⟩:=h
  have:=zgL hc
  subst this
  replace h:=ze h
  obtain ⟨s,hs,h⟩:=h
  replace h:=zbk h
  obtain ⟨m,rfl,hm,h⟩:=h
  obtain ⟨g1,g2⟩:=yV hE h hx w
  refine ⟨?_,g2⟩
  have g1:(part q.2 (zf β cs).toArray (m*s)).run E.P w = .ok (zc β v) w:=g1
  unfold Instr.index
  simp [zt hE hd,zc,asIntOf,qo hE hs,hm,g1]
theorem zeN {β:Inj}{w:World}{t:TypeId}{x v:zb}{i:Nat}{d:TypeDesc}{fs:List Field}{fl:Field}{cs:List zb}
  (hd:E.desc t=some d) (hs:Zk d=some fs) (hf:kg i fs=some fl) (hp:asAgg x=some cs) (h:E.apart fl.type cs fl.offset=some v) (hx:WF β x) :
  qb E.P β w (Instr.field t (zc β x) i) v:=by
 obtain ⟨fs',rfl,rfl⟩:=YR hs
 have:=zgL hp
 subst this
 rw [kF,Array.getElem?_toList]at hf
 obtain ⟨g1,g2⟩:=yV hE h hx w
 refine ⟨?_,g2⟩
 unfold Instr.field
 simp [zt hE hd,hf,zc,Go.asAgg,g1]
omit hE in
theorem zbU {P:Program}{β:Inj}{w:World}{x v:zb}{i:Nat}{l:List zb} (hp:asTuple x=some l) (h:kg i l=some v) (hx:WF β x) :
  qb P β w (Instr.extract (zc β x) i) v:=by
 have:=ziS hp
 subst this
 rw [kF]at h
 refine ⟨?_,(zT _ _).1 hx v (List.mem_of_getElem? h)⟩
 unfold Instr.extract
 simp [zc,zy,h]
omit hE in
theorem V8 {P:Program}{β:Inj}{w:World}{op:UnOp}{x v:zb} (h:ziR op x=some v):qb P β w (Op.unary op (zc β x)) v:=by
 cases op with
 | neg=>
  replace h:=ze h
  obtain ⟨p,hp,h⟩:=h
  have:=je hp
  subst this
  cases h
  exact ⟨by simp [Op.unary,zc,Op.intArith,unNeg,jO,zjX],by simp [unNeg,WF]⟩
 | xor=>
  replace h:=ze h
  obtain ⟨p,hp,h⟩:=h
  have:=je hp
  subst this
  cases h
  obtain ⟨k,n⟩:=p
  refine ⟨?_,by simp [unXor,WF]⟩
  unfold unXor
  have hlt:Nat.xor (Zz k n) (Nat.sub (full k) 1)<full k:=jU k _ _ (Jm _ _) (by have:=zbq k;show full k-1<full k;omega)
  rw [jD,QL _ _ hlt]
  have e:Zz k (if k.signed then -1 else k.max)=full k-1:=by cases k<;>rfl
  simp only [Op.unary,zc,Op.intBits,Sem.run_pure,BitVec.toNat_xor,yX,e]
  rw [Nat.xor_comm];rfl
 | not=>
  replace h:=ze h
  obtain ⟨b,hb,h⟩:=h
  have:=ZT hb
  subst this
  cases h
  cases b<;>exact ⟨rfl,trivial⟩
 | plus=>cases h
theorem zi5 {β:Inj} (hF:zB E β) {H:zl}{w:World} (hR:Rel E.P β H w) {t:TypeId}{x v:zb} (h:zwI E H t x=some v) (hx:WF β x) (ts:Array TypeId) (ty:TypeId) (ht:ts[0]? = some t) (args:Array Value) (ha:args[0]? = some (zc β x)) :
  qb E.P β w (Builtin.len_ ts ty args) v:=by
 replace h:=ze h
 obtain ⟨d,hd,h⟩:=h
 unfold qb Builtin.len_
 simp only [ht,ha,Sem.run_bind,zt hE hd,Result.andThen_ok]
 cases h1:jQ d with
 | some e=>
  have:=jB h1
  subst this
  rw [h1,zd]at h
  cases h2:kr x with
  | some s=>
   have:=jG h2
   subst this
   rw [h2,zd]at h
   cases h
   exact ⟨by simp [zc,goInt],trivial⟩
  | none=>
   rw [h2,zn,zm]at h
   split at h
   ·rename_i h3
    have:=jt h3
    subst this
    cases h
    exact ⟨by simp [zc,goInt],trivial⟩
   ·rw [zm]at h
    split at h
    ·rename_i h3
     obtain ⟨b,o,q,rfl⟩:=znA h3
     cases h
     exact ⟨by simp [zc,goInt],trivial⟩
    ·cases hp:Qf x with
     | none=>
      rw [hp,zn]at h
      cases hp:zdx x with
      | some p=>
       rw [hp,zd]at h
       have:=zbO hp
       subst this
       cases h
       obtain ⟨w1,w2,N,w3,w4⟩:=hx
       exact ⟨by simp [zc,w3,zfT,goInt],w2⟩
      | none=>
       rw [hp,zn]at h
       obtain ⟨f,hf,e0⟩:=qk h
       have:=znd e0
       subst this
       obtain ⟨_,h2',p0,n0,c0,e1,e2⟩:=hF _ hf
       exact ⟨by simp [e1,e2,goInt],h2'⟩
     | some p=>
     rw [hp,zd]at h
     have:=Q9 hp
     subst this
     cases hs:jb p.2 with
     | some s=>
      rw [hs,zd]at h
      have hps:=qz hs
      cases h
      refine ⟨?_,trivial⟩
      simp [zc,hps,sOf,goInt,qh]
     | none=>
      rw [hs,zn]at h
      obtain ⟨f,hf,e⟩:=qk h
      have:=XY e
      subst this
      obtain ⟨h1,h2,s,e1,e2⟩:=hF _ hf
      exact ⟨by simp [zc,e1,e2,sOf,goInt],h2⟩
 | none=>
  rw [h1,zn,zm]at h
  split at h
  ·rename_i h2
   have:=jh h2
   subst this
   cases hs:jb x with
   | some s=>
    rw [hs,zd]at h
    have:=qz hs
    subst this
    cases h
    exact ⟨by simp [zc,goInt,qh],trivial⟩
   | none=>
    rw [hs,zn]at h
    obtain ⟨f,hf,e⟩:=qk h
    have:=XY e
    subst this
    obtain ⟨h1,h2,s,e1,e2⟩:=hF _ hf
    exact ⟨by simp [e1,e2,goInt],h2⟩
  ·unfold zuI at h
   cases h3:ZO d with
   | some q=>
    have:=ZN h3
    subst this
    rw [h3,zd]at h
    cases h
    exact ⟨by simp [zc,goInt],trivial⟩
   | none=>
    rw [h3,zn]at h
    cases h4:zlr d with
    | some q=>
     have:=zab h4
     subst this
     rw [h4,zd,zm]at h
     split at h
     ·rename_i h5
      have:=Us h5
      subst this
      cases h
      exact ⟨by simp [zc,goInt],trivial⟩
     ·replace h:=ze h
      obtain ⟨r,hr,h⟩:=h
      have:=V9 hr
      subst this
      replace h:=ze h
      obtain ⟨b,hb,h⟩:=h
      replace h:=ze h
      obtain ⟨m,hm,h⟩:=h
      cases h
      cases b<;>cases hm
      obtain ⟨y,hy⟩:=Option.isSome_iff_exists.1 hx
      obtain ⟨arr,g1,g2,g3⟩:=hR.blk _ _ _ hb hy
      refine ⟨?_,trivial⟩
      have e:β.blk r=y.1:=by simp [Inj.blk,hy]
      simp [zc,getObj,Sem.run,e,g1,goInt,← Array.length_toList,g2]
    | none=>
     rw [h4,zn]at h
     replace h:=ze h
     obtain ⟨a,ha',h⟩:=h
     have:=zaa ha'
     subst this
     replace h:=ze h
     obtain ⟨d',hd',h⟩:=h
     replace h:=ze h
     obtain ⟨q,hq,h⟩:=h
     have:=ZN hq
     subst this
     cases h
     exact ⟨by simp [zc,goInt,zt hE hd'],trivial⟩
theorem zi6 {β:Inj}{w:World}{t:TypeId}{x v:zb} (h:zwL E t x=some v) (hx:WF β x) (ts:Array TypeId) (ty:TypeId) (ht:ts[0]? = some t) (args:Array Value) (ha:args[0]? = some (zc β x)) :
  qb E.P β w (Builtin.cap_ ts ty args) v:=by
 replace h:=ze h
 obtain ⟨d,hd,h⟩:=h
 replace h:=ze h
 obtain ⟨e,he,h⟩:=h
 have:=jB he
 subst this
 unfold qb Builtin.cap_
 simp only [ht,ha,Sem.run_bind,zt hE hd,Result.andThen_ok]
 cases h2:kr x with
 | some s=>
  have:=jG h2
  subst this
  rw [h2,zd]at h
  cases h
  cases hs:s.ex
  ·exact ⟨by simp [zc,goInt],hx.1⟩
  ·exact ⟨by simp [zc,goInt],trivial⟩
 | none=>
  rw [h2,zn]at h
  replace h:=zg h
  obtain ⟨h3,h⟩:=h
  have:=jt h3
  subst this
  cases h
  exact ⟨by simp [zc,goInt],trivial⟩
omit hE in
theorem zi1 {P:Program}{β:Inj}{w:World}:∀ (l:List zb) (x v:zb),zsI l x=some v→WF β x→WFs β l→qb P β w ((zf β l).foldlM Builtin.min2 (zc β x)) v:=by
 intro l
 induction l with
 | nil=>intro x v h hx _;cases h;exact ⟨by simp [zf],hx⟩
 | cons b l ih=>
  intro x v h hx hl
  replace h:=ze h
  obtain ⟨p,hp,h⟩:=h
  replace h:=ze h
  obtain ⟨q,hq,h⟩:=h
  have:=je hp
  subst this
  have:=je hq
  subst this
  obtain ⟨g1,g2⟩:=ih _ _ h trivial hl.2
  refine ⟨?_,g2⟩
  simp only [zf,List.foldlM_cons,Sem.run_bind]
  have:(Builtin.min2 (zc β (.int p.1 p.2)) (zc β (.int q.1 q.2))).run P w = .ok (zc β (.int p.1 (ifB (ilt q.2 p.2) q.2 p.2))) w:=by
   simp [Builtin.min2,zc,zm,kz]
  rw [this];exact g1
omit hE in
theorem zi2 {P:Program}{β:Inj}{w:World}:∀ (l:List zb) (x v:zb),zsJ l x=some v→WF β x→WFs β l→qb P β w ((zf β l).foldlM Builtin.max2 (zc β x)) v:=by
 intro l
 induction l with
 | nil=>intro x v h hx _;cases h;exact ⟨by simp [zf],hx⟩
 | cons b l ih=>
  intro x v h hx hl
  replace h:=ze h
  obtain ⟨p,hp,h⟩:=h
  replace h:=ze h
  obtain ⟨q,hq,h⟩:=h
  have:=je hp
  subst this
  have:=je hq
  subst this
  obtain ⟨g1,g2⟩:=ih _ _ h trivial hl.2
  refine ⟨?_,g2⟩
  simp only [zf,List.foldlM_cons,Sem.run_bind]
  have:(Builtin.max2 (zc β (.int p.1 p.2)) (zc β (.int q.1 q.2))).run P w = .ok (zc β (.int p.1 (ifB (ilt p.2 q.2) q.2 p.2))) w:=by
   simp [Builtin.max2,zc,zm,kz]
  rw [this];exact g1
end
end Go.AEv
namespace Go.AEv
set_option linter.unusedSectionVars false
variable [Unk]
theorem kN (s:ByteArray):str (zF s)=s:=by
 apply ByteArray.ext
 apply Array.toList_inj.1
 have e:(UInt8.ofNat ∘ UInt8.toNat)=id:=funext fun x=>by simp
 simp [str,zF,e]
theorem Kp (s:ByteArray):∀ b∈zF s,b<256:=by
 intro b hb
 simp only [zF,jk,List.mem_map]at hb
 obtain ⟨x,_,rfl⟩:=hb
 exact x.toNat_lt
theorem JZ (β:Inj):∀ n,(∀ v a,ofV n v=some a→zc β a=v∧WF β a)∧(∀ l m,zhT n l=some m→zf β m=l∧WFs β m):=by
 intro n
 induction n with
 | zero=>exact ⟨fun v a h=>by simp [ofV]at h,fun l m h=>by simp [zhT]at h⟩
 | succ n ih=>
  refine ⟨fun v a h=>?_,fun l m h=>?_⟩
  ·cases v with
   | bool b=>simp only [ofV]at h;cases h;exact ⟨rfl,trivial⟩
   | int k n=>simp only [ofV]at h;cases h;exact ⟨rfl,trivial⟩
   | string s=>simp only [ofV]at h;cases h;exact ⟨by rw [zc,kN],Kp _⟩
   | pointer p=>cases p<;>simp only [ofV]at h<;>cases h;exact ⟨rfl,trivial⟩
   | slice p l c=>
    cases p with
    | some p=>simp only [ofV]at h;cases h
    | none=>
     cases l with
     | succ l=>simp only [ofV]at h;cases h
     | zero=>
      cases c with
      | succ c=>simp only [ofV]at h;cases h
      | zero=>simp only [ofV]at h;cases h;exact ⟨rfl,trivial⟩
   | map r=>cases r<;>simp only [ofV]at h<;>cases h;exact ⟨rfl,trivial⟩
   | nilFunc=>simp only [ofV]at h;cases h;exact ⟨rfl,trivial⟩
   | nilIface=>simp only [ofV]at h;cases h;exact ⟨rfl,trivial⟩
   | agg cs=>
    simp only [ofV]at h
    replace h:=ze h
    obtain ⟨l,hl,h⟩:=h
    cases h
    obtain ⟨g1,g2⟩:=ih.2 _ _ hl
    exact ⟨by rw [zc,g1],g2⟩
   | tuple cs=>
    simp only [ofV]at h
    replace h:=ze h
    obtain ⟨l,hl,h⟩:=h
    cases h
    obtain ⟨g1,g2⟩:=ih.2 _ _ hl
    exact ⟨by rw [zc,g1],g2⟩
   | _=>simp only [ofV]at h;cases h
  ·cases l with
   | nil=>simp only [zhT]at h;cases h;exact ⟨rfl,trivial⟩
   | cons v l=>
    simp only [zhT]at h
    obtain ⟨a,ha,h⟩:=ze h
    obtain ⟨m',hm,h⟩:=ze h
    cases h
    obtain ⟨g1,g2⟩:=ih.1 _ _ ha
    obtain ⟨g3,g4⟩:=ih.2 _ _ hm
    exact ⟨by rw [zf,g1,g3],g2,g4⟩
section
variable {E:Env} (hE:kH E)
include hE
theorem ko {t:TypeId}{z:zb} (h:E.zero t=some z) (β:Inj) (w:World):(zeroValue t).run E.P w = .ok (zc β z) w∧WF β z:=by
 replace h:=ze h
 obtain ⟨i,hi,h⟩:=h
 replace h:=ze h
 obtain ⟨v,hv,h⟩:=h
 obtain ⟨g1,g2⟩:=(JZ β _).1 _ _ h
 refine ⟨?_,g2⟩
 unfold zeroValue
 rw [Sem.run_bind,kO hE hi]
 simp [hv,g1]
end
theorem zd6:∀ (n:Nat) (m l:List zb),(Jp n m l).length=l.length:=by
 have zero:∀ (m l:List zb),(Jp 0 m l).length=l.length:=by
  intro m
  induction m with
  | nil=>intro l;rfl
  | cons a m ih=>
   intro l
   cases l with
   | nil=>rfl
   | cons b l=>
    have e:Jp 0 (a::m) (b::l)=a::Jp 0 m l:=rfl
    rw [e];simp [ih]
 intro n
 induction n with
 | zero=>exact zero
 | succ n ih=>
  intro m l
  cases l with
  | nil=>rfl
  | cons b l=>
   have e:Jp (n+1) m (b::l)=b::Jp n m l:=rfl
   rw [e];simp [ih]
theorem zcQ:∀ (n:Nat) (m l:List zb) (k:Nat),n+m.length≤l.length→(Jp n m l)[k]? = if n≤k∧k<n+m.length then m[k-n]? else l[k]?:=by
 have zero:∀ (m l:List zb) (k:Nat),m.length≤l.length→(Jp 0 m l)[k]? = if k<m.length then m[k]? else l[k]?:=by
  intro m
  induction m with
  | nil=>intro l k _;rw [if_neg (by simp)];rfl
  | cons a m ih=>
   intro l k h
   cases l with
   | nil=>simp at h
   | cons b l=>
    have e:Jp 0 (a::m) (b::l)=a::Jp 0 m l:=rfl
    rw [e]
    cases k with
    | zero=>simp
    | succ k=>simp only [List.getElem?_cons_succ,List.length_cons,Nat.add_lt_add_iff_right];exact ih l k (by simpa using h)
 intro n
 induction n with
 | zero=>intro m l k h;rw [zero m l k (by omega)];simp
 | succ n ih=>
  intro m l k h
  cases l with
  | nil=>simp at h
  | cons b l=>
   have e:Jp (n+1) m (b::l)=b::Jp n m l:=rfl
   rw [e]
   cases k with
   | zero=>rw [if_neg (by omega)];rfl
   | succ k=>
    simp only [List.length_cons]at h
    rw [List.getElem?_cons_succ,ih m l k (by omega)]
    by_cases hk:n≤k∧k<n+m.length
    ·rw [if_pos hk,if_pos (by omega)];congr 1;omega
    ·rw [if_neg hk,if_neg (by omega)];rfl
theorem zpz (off:Nat):∀ (vs:List Value) (i:Nat) (arr:Array Value),off+i+vs.length≤arr.size →
  ((vs.zipIdx i).foldl (fun cs x=>cs.setIfInBounds (off+x.2) x.1) arr).size=arr.size ∧
  ∀ k,((vs.zipIdx i).foldl (fun cs x=>cs.setIfInBounds (off+x.2) x.1) arr)[k]? = if off+i≤k∧k<off+i+vs.length then vs[k-(off+i)]? else arr[k]?:=by
 intro vs
 induction vs with
 | nil=>intro i arr _;exact ⟨rfl,fun k=>by rw [if_neg (by simp)];rfl⟩
 | cons v vs ih=>
  intro i arr h
  simp only [List.length_cons]at h
  obtain ⟨h1,h2⟩:=ih (i+1) (arr.setIfInBounds (off+i) v) (by simp;omega)
  rw [List.zipIdx_cons,List.foldl_cons]
  refine ⟨by rw [h1];simp,fun k=>?_⟩
  rw [h2 k]
  by_cases hk:off+(i+1)≤k∧k<off+(i+1)+vs.length
  ·rw [if_pos hk,if_pos (by simp;omega)]
   have:k-(off+i)=(k-(off+(i+1)))+1:=by omega
   rw [this,List.getElem?_cons_succ]
  ·rw [if_neg hk,Array.getElem?_setIfInBounds]
   by_cases hk':off+i=k
   ·subst hk'
    simp only [if_true]
    rw [if_pos (by omega),if_pos (by simp)]
    simp
   ·rw [if_neg hk',if_neg (by simp;omega)]
theorem YK {β : Inj} (place : Nat → Option (Nat × Nat)) : ∀ (ps : List (Nat × zb)) (cs l : List zb), zdg place cs.length ps cs = some l → (∀ p ∈ ps, WF β p.2) → WFs β cs →
    Instr.fill place (zf β cs).toArray (ps.map fun p => (p.1, zc β p.2)) = some (zf β l).toArray ∧ WFs β l ∧ l.length = cs.length := by
  intro ps
  induction ps with
  | nil => intro cs l h _ hw; cases h; exact ⟨rfl, hw, rfl⟩
  | cons p ps ih =>
    intro cs l h hp hw
    replace h := ze h
    obtain ⟨q, hq, h⟩ := h
    replace h := zg h
    obtain ⟨h1, h⟩ := h
    rw [zk, Bool.and_eq_true, zw, beq_iff_eq, jx, zE, decide_eq_true_eq] at h1
    obtain ⟨h2, h3⟩ := h1
    have h3 : q.1 + q.2 ≤ cs.length := h3
    have hw' : WFs β (Jp q.1 (zP p.2) cs) := by
      rw [zT]
      intro v hv
      obtain ⟨k, hk⟩ := List.mem_iff_getElem?.1 hv
      rw [zcQ _ _ _ _ (by omega)] at hk
      split at hk
      · have hc : WFs β (zP p.2) := by
          have := hp p (by simp)
          cases h : p.2 <;> rw [h] at this <;> first | exact this | exact ⟨this, trivial⟩
        exact (zT _ _).1 hc v (List.mem_of_getElem? hk)
      · exact (zT _ _).1 hw v (List.mem_of_getElem? hk)
    have hl := zd6 q.1 (zP p.2) cs
    rw [← hl] at h
    obtain ⟨g1, g2, g3⟩ := ih _ _ h (fun p hp' => hp p (by simp [hp'])) hw'
    refine ⟨?_, g2, by rw [g3, hl]⟩
    rw [List.map_cons]
    unfold Instr.fill
    have hpl : place (p.1, zc β p.2).1 = some q := hq
    simp only
    rw [hpl]
    obtain ⟨q1, q2⟩ := q
    simp only at h2 h3 g1 ⊢
    have hcs : (zc β p.2).cells = (zf β (zP p.2)).toArray := qV β p.2
    have hsz : (zc β p.2).cells.size = q2 := by rw [hcs, zy]; simpa using h2
    rw [if_neg (by rw [hsz]; simp [zy]; omega)]
    rw [← g1]
    congr 1
    apply Array.toList_inj.1
    apply List.ext_getElem?
    intro k
    obtain ⟨f1, f2⟩ := zpz q1 (zf β (zP p.2)) 0 (zf β cs).toArray (by simp [zy]; omega)
    have e : (zc β p.2).cells.zipIdx.foldl (fun cs x => cs.setIfInBounds (q1 + x.2) x.1) (zf β cs).toArray =
        ((zf β (zP p.2)).zipIdx 0).foldl (fun cs x => cs.setIfInBounds (q1 + x.2) x.1) (zf β cs).toArray := by
      rw [hcs, ← Array.foldl_toList]; simp
    have e' := congrArg (fun a : Array Value => a.toList[k]?) e
    simp only [Array.getElem?_toList] at e' f2 ⊢
    refine Eq.trans e' ?_
    rw [f2 k, zy, zy, zy]
    simp only [List.getElem?_toArray, List.getElem?_map, List.length_map, Nat.add_zero]
    rw [zcQ _ _ _ _ (by omega)]
    split <;> rfl
theorem WY {T:Tr zb}{β:Inj}{ρ:Operand→Value}:∀ (l:List (Nat×Operand)) (ps:List (Nat×zb)),zer T l=some ps →
  (∀ x∈l.map (·.2),∀ v,ev T x=some v→ρ x=zc β v∧WF β v)→l.map (fun x=>(x.1,ρ x.2))=ps.map (fun p=>(p.1,zc β p.2))∧∀ p∈ps,WF β p.2:=by
 intro l
 induction l with
 | nil=>intro ps h _;cases h;exact ⟨rfl,by simp⟩
 | cons x l ih=>
  intro ps h hρ
  replace h:=ze h
  obtain ⟨a,ha,h⟩:=h
  replace h:=ze h
  obtain ⟨m,hm,h⟩:=h
  cases h
  obtain ⟨g1,g2⟩:=hρ x.2 (by simp) a ha
  obtain ⟨g3,g4⟩:=ih m hm fun y hy=>hρ y (by simp only [List.map_cons,List.mem_cons];exact .inr hy)
  refine ⟨by simp [g1,g3],fun p hp=>?_⟩
  rcases List.mem_cons.1 hp with rfl | hp
  ·exact g2
  ·exact g4 p hp
theorem zep {T:Tr zb}{β:Inj}{ρ:Operand→Value}:∀ (l:List Operand) (vs:List zb),evs T l=some vs →
  (∀ x∈l,∀ v,ev T x=some v→ρ x=zc β v∧WF β v)→l.map ρ=zf β vs∧WFs β vs:=by
 intro l
 induction l with
 | nil=>intro vs h _;cases h;exact ⟨rfl,trivial⟩
 | cons x l ih=>
  intro vs h hρ
  replace h:=ze h
  obtain ⟨a,ha,h⟩:=h
  replace h:=ze h
  obtain ⟨m,hm,h⟩:=h
  cases h
  obtain ⟨g1,g2⟩:=hρ x (by simp) a ha
  obtain ⟨g3,g4⟩:=ih m hm fun y hy=>hρ y (by simp [hy])
  exact ⟨by simp [g1,g3,zf],g2,g4⟩
theorem jF {β:Inj}{v:zb} (h:WF β v):WFs β (zP v):=by
 cases v<;>first | exact h | exact ⟨h,trivial⟩
theorem zoQ (z:List zb) (s:Nat) (hz:z.length=s):∀ (n k:Nat),k<n*s→(Qy z n)[k]? = z[k % s]?:=by
 intro n
 induction n with
 | zero=>intro k h;omega
 | succ n ih=>
  intro k h
  have e:Qy z (n+1)=z++Qy z n:=by
   show zQ z (Qy z n)=_;rw [zR]
  rw [e,List.getElem?_append]
  by_cases hk:k<s
  ·rw [if_pos (by omega),Nat.mod_eq_of_lt hk]
  ·have hs:0<s:=by
    rcases Nat.eq_zero_or_pos s with h0 | h0
    ·subst h0;simp at h
    ·exact h0
   rw [Nat.succ_mul]at h
   rw [if_neg (by omega),hz,ih (k-s) (by omega)]
   congr 1
   conv=>rhs;rw [Nat.mod_eq_sub_mod (by omega)]
theorem Yz (z:List zb) (s:Nat) (hz:z.length=s) (n:Nat):(Qy z n).length=n*s:=by
 rw [zjv]
 induction n with
 | zero=>simp
 | succ n ih=>rw [List.replicate_succ,List.flatten_cons,List.length_append,ih,hz,Nat.succ_mul];omega
theorem Kq {β:Inj}{z:List zb} (h:WFs β z) (n:Nat):WFs β (Qy z n):=by
 rw [zjv,zT]
 intro v hv
 obtain ⟨l,hl,hv⟩:=List.mem_flatten.1 hv
 rw [(List.mem_replicate.1 hl).2]at hv
 exact (zT _ _).1 h v hv
theorem QH {β:Inj} (z:List zb) (s n:Nat) (hz:z.length=s) (zv:Array Value) (hv:n*s≠0→zv=(zf β z).toArray) :
  (Array.range (n*s)).map (fun i=>zv[i % zv.size]!)=(zf β (Qy z n)).toArray:=by
 apply Array.toList_inj.1
 apply List.ext_getElem?
 intro k
 rw [zy]
 simp only [Array.toList_map,Array.toList_range,List.getElem?_map]
 by_cases hk:k<n*s
 ·have e:=hv (by omega)
  subst e
  have hs:0<s:=by
   rcases Nat.eq_zero_or_pos s with h0 | h0
   ·subst h0;simp at hk
   ·exact h0
  have hm:k % s<z.length:=by rw [hz];exact Nat.mod_lt _ hs
  rw [List.getElem?_range hk,zoQ z s hz n k hk]
  simp only [Option.map_some,zy,List.size_toArray,List.length_map,hz]
  rw [List.getElem?_eq_getElem hm]
  simp [hm]
 ·rw [List.getElem?_eq_none (by simp;omega),List.getElem?_eq_none (by rw [Yz z s hz];omega)]
  rfl
end Go.AEv
