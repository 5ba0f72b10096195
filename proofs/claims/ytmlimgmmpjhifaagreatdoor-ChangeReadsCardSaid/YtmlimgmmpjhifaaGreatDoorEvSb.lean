/- A verified evaluator of Go code, and its soundness (EvSb). Conditions: those of each theorem. -/
import Derived.Test.YtmlimgmmpjhifaaGreatDoorEvSa
import Derived.Laws.Strings
import Derived.Laws.StructEq
import Derived.ChangeKeysEq
import GoSem.Dispatch
set_option maxHeartbeats 1000000
set_option linter.all false
namespace Go.AEv
section
variable [Unk]
theorem asBool_eq {v:AVal}{b:Bool} (h:asBool v=some b):v = .bool b:=by cases v<;>cases h;rfl
theorem asInt_eq {v:AVal}{p:IntKind×Int} (h:asInt v=some p):v = .int p.1 p.2:=by cases v<;>cases h;rfl
theorem asIdx_eq {v:AVal}{i:Int} (h:asIdx v=some i):∃ k,v = .int k i:=by cases v<;>cases h;exact ⟨_,rfl⟩
theorem asPtr_eq {v:AVal}{p:Nat×Nat} (h:asPtr v=some p):v = .ptr p.1 p.2:=by cases v<;>cases h;rfl
theorem asSl_eq {v:AVal}{s:Sl} (h:asSl v=some s):v = .slice s.b s.off s.len s.cap s.ex:=by cases v<;>cases h;rfl
theorem asStr_eq {v:AVal}{s:List Nat} (h:asStr v=some s):v = .str s:=by cases v<;>cases h;rfl
theorem asAgg_eq {v:AVal}{s:List AVal} (h:asAgg v=some s):v = .agg s:=by cases v<;>cases h;rfl
theorem asTuple_eq {v:AVal}{s:List AVal} (h:asTuple v=some s):v = .tuple s:=by cases v<;>cases h;rfl
theorem asIface_eq {v:AVal}{p:TypeId×AVal} (h:asIface v=some p):v = .iface p.1 p.2:=by cases v<;>cases h;rfl
theorem asMap_eq {v:AVal}{r:Nat} (h:asMap v=some r):v = .map r:=by cases v<;>cases h;rfl
theorem isNilSl_eq {v:AVal} (h:isNilSl v=true):v = .nilslice:=by cases v<;>cases h;rfl
theorem isEsl_eq {v:AVal} (h:isEsl v=true):∃ b o q,v = .esl b o q:=by cases v<;>cases h;exact ⟨_,_,_,rfl⟩
theorem asPsl_eq {v:AVal}{p:Psl} (h:asPsl v=some p):v = .psl p.b p.o p.q p.c p.ex:=by cases v<;>cases h;rfl
theorem asOsl_eq {v:AVal}{p:Nat×AVal} (h:asOsl v=some p):v = .osl p.1 p.2:=by cases v<;>cases h;rfl
theorem isNilP_eq {v:AVal} (h:isNilP v=true):v = .nilp:=by cases v<;>cases h;rfl
theorem isNilMap_eq {v:AVal} (h:isNilMap v=true):v = .nilmap:=by cases v<;>first | rfl | (simp [isNilMap]at h)
theorem dSlice_eq {d:TypeDesc}{e:TypeId} (h:dSlice d=some e):d = .slice e:=by cases d<;>cases h;rfl
theorem dArray_eq {d:TypeDesc}{q:Nat×TypeId} (h:dArray d=some q):d = .array q.1 q.2:=by cases d<;>cases h;rfl
theorem dStruct_eq {d:TypeDesc}{l:List Field} (h:dStruct d=some l):∃ fs:Array Field,d = .struct fs∧l=fs.toList:=by
 cases d<;>cases h;exact ⟨_,rfl,rfl⟩
theorem dPtr_eq {d:TypeDesc}{e:TypeId} (h:dPtr d=some e):d = .pointer e:=by cases d<;>cases h;rfl
theorem dInt_eq {d:TypeDesc}{k:IntKind} (h:dInt d=some k):d = .int k:=by cases d<;>cases h;rfl
theorem dMap_eq {d:TypeDesc}{q:TypeId×TypeId} (h:dMap d=some q):d = .map q.1 q.2:=by cases d<;>cases h;rfl
theorem dString_eq {d:TypeDesc} (h:dString d=true):d = .string:=by cases d<;>cases h;rfl
theorem dUnsafe_eq {d:TypeDesc} (h:dUnsafe d=true):d = .unsafePointer:=by cases d<;>cases h;rfl
theorem isU8_eq {k:IntKind} (h:isU8 k=true):k = .u8:=by cases k<;>revert h<;>decide
theorem isI64_eq {k:IntKind} (h:isI64 k=true):k = .i64:=by cases k<;>revert h<;>decide
theorem full_eq (k:IntKind):full k=2 ^ k.bits:=by cases k<;>rfl
theorem nbits_eq (k:IntKind):nbits k=k.bits:=by cases k<;>rfl
theorem full_pos (k:IntKind):0<full k:=by cases k<;>decide
theorem twos_lt (k:IntKind) (n:Int):twos k n<full k:=by
 have h:=full_pos k
 cases n with
 | ofNat m=>exact Nat.mod_lt _ h
 | negSucc m=>show full k-1-m % full k<full k;omega
theorem twos_mod (k:IntKind) (n:Int):((twos k n:Nat):Int)=n % (2 ^ k.bits:Int):=by
 have h:=full_pos k
 have e:(2 ^ k.bits:Int)=((full k:Nat):Int):=by rw [full_eq];simp
 rw [e]
 cases n with
 | ofNat m=>show ((m % full k:Nat):Int)=_;simp
 | negSucc m=>
  show ((full k-1-m % full k:Nat):Int)=_
  rw [Int.negSucc_emod _ (by omega)]
  have h2:m % full k<full k:=Nat.mod_lt _ h
  have h3:((m:Int) % (full k:Int))=((m % full k:Nat):Int):=by simp
  rw [h3];omega
theorem back_wrap (k : IntKind) (m : Nat) (h : m < full k) : back k m = k.wrap m := by
  unfold back IntKind.wrap
  rw [ifB_eq, nblt_eq]
  have e : (2 ^ k.bits : Int) = ((full k : Nat) : Int) := by rw [full_eq]; simp
  have hm : (m : Int) % (2 ^ k.bits : Int) = m := by rw [e]; exact Int.emod_eq_of_lt (by omega) (by omega)
  simp only [hm]
  have key : ∀ hf fl : Nat, half k = hf → full k = fl → (k.signed = true → hf + hf = fl ∧ (2 ^ (k.bits - 1) : Int) = hf) → (k.signed = false → hf = fl) →
      (if decide (m < hf) = true then Int.ofNat m else Int.negSucc (Nat.sub (Nat.sub fl 1) m)) =
      if k.signed && decide ((m : Int) ≥ (2 ^ (k.bits - 1) : Int)) then (m : Int) - (2 ^ k.bits : Int) else m := by
    intro hf fl h1 h2 h3 h4
    rw [h2] at h e
    rw [e]
    cases hs : k.signed with
    | false =>
      have := h4 hs
      rw [if_pos (by simp; omega), if_neg (by simp)]; rfl
    | true =>
      obtain ⟨h5, h6⟩ := h3 hs
      rw [h6]
      by_cases hlt : m < hf
      · rw [if_pos (by simp; omega), if_neg (by simp; omega)]; rfl
      · rw [if_neg (by simp; omega), if_pos (by simp; omega), Int.negSucc_eq]
        show -(((fl - 1 - m : Nat) : Int) + 1) = _
        omega
  exact key _ _ rfl rfl (by cases k <;> simp [IntKind.signed, half, full, IntKind.bits]) (by cases k <;> simp [IntKind.signed, half, full])
theorem awrap_eq (k:IntKind) (n:Int):awrap k n=k.wrap n:=by
 unfold awrap
 rw [back_wrap _ _ (twos_lt k n)]
 unfold IntKind.wrap
 rw [twos_mod]
 simp only [Int.emod_emod]
theorem subNN_eq (m n:Nat):subNN m n=(m:Int)-n:=by
 unfold subNN
 rw [ifB_eq,nble_eq]
 by_cases h:n≤m
 ·rw [if_pos (by simp [h])];show ((m-n:Nat):Int)=_;omega
 ·rw [if_neg (by simp [h]),Int.negSucc_eq];show -(((n-m-1:Nat):Int)+1)=_;omega
theorem ineg_eq (a:Int):ineg a = -a:=by
 cases a with
 | ofNat m=>show subNN 0 m=_;rw [subNN_eq];simp
 | negSucc m=>show Int.ofNat (m+1)=_;rw [Int.neg_negSucc];rfl
theorem iadd_eq (a b:Int):iadd a b=a+b:=by
 cases a<;>cases b<;>simp only [iadd,intC_ofNat,intC_negSucc,subNN_eq]
 ·rfl
 ·rename_i m n;rw [Int.negSucc_eq];show (m:Int)-((n+1:Nat):Int)=Int.ofNat m+_;simp;omega
 ·rename_i m n;rw [Int.negSucc_eq];show (n:Int)-((m+1:Nat):Int)=_+Int.ofNat n;simp;omega
 ·rename_i m n;rw [Int.negSucc_eq,Int.negSucc_eq,Int.negSucc_eq];show -(((m+n+1:Nat):Int)+1)=_;omega
theorem isub_eq (a b:Int):isub a b=a-b:=by unfold isub;rw [iadd_eq,ineg_eq];omega
theorem imul_eq (a b:Int):imul a b=a*b:=by
 cases a<;>cases b<;>simp only [imul,intC_ofNat,intC_negSucc,subNN_eq]
 ·rfl
 ·rename_i m n
  rw [Int.negSucc_eq]
  show ((0:Nat):Int)-((m*(n+1):Nat):Int)=Int.ofNat m*_
  rw [Int.natCast_mul];simp [Int.mul_neg]
 ·rename_i m n
  rw [Int.negSucc_eq]
  show ((0:Nat):Int)-(((m+1)*n:Nat):Int)=_*Int.ofNat n
  rw [Int.natCast_mul];simp [Int.neg_mul]
 ·rename_i m n
  rw [Int.negSucc_eq,Int.negSucc_eq]
  show (((m+1)*(n+1):Nat):Int)=_
  rw [Int.neg_mul_neg,Int.natCast_mul];rfl
theorem itdiv_eq (a b:Int):itdiv a b=a.tdiv b:=by
 cases a<;>cases b<;>simp only [itdiv,intC_ofNat,intC_negSucc,subNN_eq]
 ·rfl
 ·rename_i m n;show ((0:Nat):Int)-((m / (n+1):Nat):Int) = -((m / (n+1):Nat):Int);simp
 ·rename_i m n;show ((0:Nat):Int)-(((m+1) / n:Nat):Int) = -(((m+1) / n:Nat):Int);simp
 ·rfl
theorem itmod_eq (a b:Int):itmod a b=a.tmod b:=by
 cases a<;>cases b<;>simp only [itmod,intC_ofNat,intC_negSucc,subNN_eq]
 ·rfl
 ·rename_i m n;rfl
 ·rename_i m n;show ((0:Nat):Int)-(((m+1) % n:Nat):Int) = -(((m+1) % n:Nat):Int);simp
 ·rename_i m n;show ((0:Nat):Int)-(((m+1) % (n+1):Nat):Int) = -(((m+1) % (n+1):Nat):Int);simp
@[simp] theorem mkInt_eq (k:IntKind) (n:Int):mkInt k n = .int k n:=by cases n<;>rfl
@[simp] theorem mkBool_eq (b:Bool):mkBool b = .bool b:=by cases b<;>rfl
@[simp] theorem mkNat_eq (n:Nat):mkNat n = .int .i64 n:=rfl
theorem ofInt_toNat (k:IntKind) (x:Int):(BitVec.ofInt k.bits x).toNat=twos k x:=by
 have h:=twos_mod k x
 rw [BitVec.toNat_ofInt]
 have e:((2 ^ k.bits:Nat):Int)=(2 ^ k.bits:Int):=by simp
 rw [e,← h];simp
theorem same_eq {k j:IntKind}{u v:AVal} (h:same k j u=some v):k=j∧u=v:=by
 obtain ⟨h1,h2⟩:=ifB_some h
 exact ⟨(kbeq_eq _ _).1 h1,by injection h2⟩
theorem land_lt (k:IntKind) (a b:Nat) (h:a<full k):a &&& b<full k:=Nat.lt_of_le_of_lt Nat.and_le_left h
theorem lor_lt (k:IntKind) (a b:Nat) (ha:a<full k) (hb:b<full k):a ||| b<full k:=by
 rw [full_eq]at *;exact Nat.or_lt_two_pow ha hb
theorem xor_lt (k:IntKind) (a b:Nat) (ha:a<full k) (hb:b<full k):a ^^^ b<full k:=by
 rw [full_eq]at *;exact Nat.xor_lt_two_pow ha hb
theorem not_toNat (k:IntKind) (b:Int):(~~~ (BitVec.ofInt k.bits b)).toNat=Nat.xor (twos k b) (Nat.sub (full k) 1):=by
 rw [← BitVec.xor_allOnes,BitVec.toNat_xor,ofInt_toNat,BitVec.toNat_allOnes,full_eq];rfl
theorem run_intOp {P:Program}{op:BinOp}{k j:IntKind}{a b:Int}{v:AVal} (h:intOp op k a j b=some v) (t:TypeId) (β:Inj) (w:World) :
  (Go.binOp op t (.int k a) (.int j b)).run P w = .ok (conc β v) w∧WF β v:=by
 cases op
 case add=>obtain ⟨rfl,rfl⟩:=same_eq h;simp [Go.binOp,Op.intArith,conc,WF,awrap_eq,iadd_eq]
 case sub=>obtain ⟨rfl,rfl⟩:=same_eq h;simp [Go.binOp,Op.intArith,conc,WF,awrap_eq,isub_eq]
 case mul=>obtain ⟨rfl,rfl⟩:=same_eq h;simp [Go.binOp,Op.intArith,conc,WF,awrap_eq,imul_eq]
 case quo=>
  obtain ⟨h1,h⟩:=ifB_some' h
  obtain ⟨rfl,rfl⟩:=same_eq h
  rw [ibeq_eq]at h1
  have h1:b≠0:=by simpa using h1
  simp [Go.binOp,Op.intDiv,conc,WF,awrap_eq,itdiv_eq,h1]
 case rem=>
  obtain ⟨h1,h⟩:=ifB_some' h
  obtain ⟨rfl,rfl⟩:=same_eq h
  rw [ibeq_eq]at h1
  have h1:b≠0:=by simpa using h1
  simp [Go.binOp,Op.intDiv,conc,WF,itmod_eq,h1]
 case and=>
  obtain ⟨rfl,rfl⟩:=same_eq h
  refine ⟨?_,by simp [WF]⟩
  rw [mkInt_eq,back_wrap _ _ (show Nat.land _ _<full k from land_lt _ _ _ (twos_lt _ _))]
  simp only [Go.binOp,Op.intBits,ne_eq,not_true_eq_false,if_false,Sem.run_pure,conc,BitVec.toNat_and,ofInt_toNat];rfl
 case or=>
  obtain ⟨rfl,rfl⟩:=same_eq h
  refine ⟨?_,by simp [WF]⟩
  rw [mkInt_eq,back_wrap _ _ (show Nat.lor _ _<full k from lor_lt _ _ _ (twos_lt _ _) (twos_lt _ _))]
  simp only [Go.binOp,Op.intBits,ne_eq,not_true_eq_false,if_false,Sem.run_pure,conc,BitVec.toNat_or,ofInt_toNat];rfl
 case xor=>
  obtain ⟨rfl,rfl⟩:=same_eq h
  refine ⟨?_,by simp [WF]⟩
  rw [mkInt_eq,back_wrap _ _ (show Nat.xor _ _<full k from xor_lt _ _ _ (twos_lt _ _) (twos_lt _ _))]
  simp only [Go.binOp,Op.intBits,ne_eq,not_true_eq_false,if_false,Sem.run_pure,conc,BitVec.toNat_xor,ofInt_toNat];rfl
 case andNot=>
  obtain ⟨rfl,rfl⟩:=same_eq h
  refine ⟨?_,by simp [WF]⟩
  rw [mkInt_eq,back_wrap _ _ (show Nat.land _ _<full k from land_lt _ _ _ (twos_lt _ _))]
  simp only [Go.binOp,Op.intBits,ne_eq,not_true_eq_false,if_false,Sem.run_pure,conc,BitVec.toNat_and,ofInt_toNat,not_toNat];rfl
 case shl=>
  cases b with
  | negSucc n=>cases h
  | ofNat n=>
   cases h
   have e:min n k.bits=shN k n:=by
    unfold shN;rw [ifB_eq,nble_eq,nbits_eq]
    by_cases h:n≤k.bits
    ·rw [if_pos (by simp [h])];omega
    ·rw [if_neg (by simp [h])];omega
   simp only [Go.binOp,Op.shift]
   rw [if_neg (by simp)]
   simp [conc,WF,awrap_eq,imul_eq,e]
 case shr=>
  cases b with
  | negSucc n=>cases h
  | ofNat n=>
   cases h
   have e:min n k.bits=shN k n:=by
    unfold shN;rw [ifB_eq,nble_eq,nbits_eq]
    by_cases h:n≤k.bits
    ·rw [if_pos (by simp [h])];omega
    ·rw [if_neg (by simp [h])];omega
   simp only [Go.binOp,Op.shift]
   rw [if_neg (by simp)]
   refine ⟨?_,by simp [WF]⟩
   have e2:a.fdiv ((2:Int) ^ shN k n)=intC a (fun m=>.ofNat (Nat.div m (Nat.pow 2 (shN k n)))) fun m=>.negSucc (Nat.div m (Nat.pow 2 (shN k n))):=by
    have hp:(2:Int) ^ shN k n=((2 ^ shN k n:Nat):Int):=by simp
    rw [hp]
    have hpos:0<2 ^ shN k n:=Nat.pow_pos (by decide)
    show a.fdiv _=intC (α:=Int) a (fun m=>Int.ofNat (m / 2 ^ shN k n)) fun m=>Int.negSucc (m / 2 ^ shN k n)
    generalize 2 ^ shN k n=q at *
    obtain ⟨q,rfl⟩:∃ r,q=r+1:=⟨q-1,by omega⟩
    cases a with
    | ofNat m=>
     cases m with
     | zero=>show (0:Int)=Int.ofNat (0 / (q+1));rw [Nat.zero_div];rfl
     | succ m=>rfl
    | negSucc m=>rfl
   simp [conc,e,e2]
 case eql=>obtain ⟨rfl,rfl⟩:=same_eq h;simp [Go.binOp,Op.intCmp,conc,WF,ibeq_eq]
 case neq=>obtain ⟨rfl,rfl⟩:=same_eq h;simp [Go.binOp,Op.intCmp,conc,WF,ibeq_eq,bnot_eq];rfl
 case lss=>obtain ⟨rfl,rfl⟩:=same_eq h;simp [Go.binOp,Op.intCmp,conc,WF,ilt_eq]
 case leq=>obtain ⟨rfl,rfl⟩:=same_eq h;simp [Go.binOp,Op.intCmp,conc,WF,ilt_eq,bnot_eq,← Int.not_lt]
 case gtr=>obtain ⟨rfl,rfl⟩:=same_eq h;simp [Go.binOp,Op.intCmp,conc,WF,ilt_eq]
 case geq=>obtain ⟨rfl,rfl⟩:=same_eq h;simp [Go.binOp,Op.intCmp,conc,WF,ilt_eq,bnot_eq,← Int.not_lt]
theorem str_list (s:List Nat):(str s).data.toList=s.map UInt8.ofNat:=by simp [str]
theorem str_size (s:List Nat):(str s).size=s.length:=by simp [str,ByteArray.size]
theorem str_toList (s:List Nat):(str s).toList=s.map UInt8.ofNat:=by
 rw [ByteArray.toList_eq];exact str_list s
theorem ofNat_inj {a b:Nat} (ha:a<256) (hb:b<256) (h:UInt8.ofNat a=UInt8.ofNat b):a=b:=by
 have:=congrArg UInt8.toNat h
 simp at this
 omega
theorem map_ofNat_inj:∀ {s t:List Nat},(∀ b∈s,b<256)→(∀ b∈t,b<256)→s.map UInt8.ofNat=t.map UInt8.ofNat→s=t
 | [],[],_,_,_=>rfl
 | [],_::_,_,_,h=>by simp at h
 | _::_,[],_,_,h=>by simp at h
 | a::s,b::t,hs,ht,h=>by
  simp only [List.map_cons,List.cons.injEq]at h
  rw [ofNat_inj (hs a (by simp)) (ht b (by simp)) h.1,map_ofNat_inj (fun x hx=>hs x (by simp [hx])) (fun x hx=>ht x (by simp [hx])) h.2]
theorem lbeq_str {s t:List Nat} (hs:∀ b∈s,b<256) (ht:∀ b∈t,b<256):lbeq s t=((str s).toList==(str t).toList):=by
 rw [lbeq_eq,Bool.eq_iff_iff,beq_iff_eq,beq_iff_eq,str_toList,str_toList]
 exact ⟨fun h=>by rw [h],map_ofNat_inj hs ht⟩
theorem lesB_str:∀ {s t:List Nat},(∀ b∈s,b<256)→(∀ b∈t,b<256)→lesB s t=Op.bytesLess (s.map UInt8.ofNat) (t.map UInt8.ofNat)
 | [],[],_,_=>rfl
 | [],_::_,_,_=>rfl
 | _::_,[],_,_=>rfl
 | a::s,b::t,hs,ht=>by
  have e:lesB (a::s) (b::t)=ifB (Nat.blt a b) true (ifB (Nat.beq a b) (lesB s t) false):=rfl
  rw [e,lesB_str (fun x hx=>hs x (by simp [hx])) (fun x hx=>ht x (by simp [hx])),ifB_eq,ifB_eq,nblt_eq,nbeq_eq]
  simp only [List.map_cons,Op.bytesLess]
  have ha:=hs a (by simp)
  have hb:=ht b (by simp)
  have e1:(UInt8.ofNat a<UInt8.ofNat b)↔a<b:=by
   rw [UInt8.lt_iff_toNat_lt];simp;omega
  have e2:(UInt8.ofNat a==UInt8.ofNat b)=(a==b):=by
   rw [Bool.eq_iff_iff,beq_iff_eq,beq_iff_eq];exact ⟨ofNat_inj ha hb,fun h=>by rw [h]⟩
  simp only [e1,e2]
  by_cases h1:a<b<;>by_cases h2:a=b<;>simp [h1,h2]
theorem str_append (s t:List Nat):str s++str t=str (s++t):=by
 apply ByteArray.ext
 simp [str,ByteArray.data_append]
theorem lesB_tri:∀ a b:List Nat,(lesB a b||(a==b))=bnot (lesB b a)
 | [],[]=>rfl
 | [],_::_=>rfl
 | _::_,[]=>rfl
 | a::s,b::t=>by
  have e:∀ a b s t,lesB (a::s) (b::t)=ifB (Nat.blt a b) true (ifB (Nat.beq a b) (lesB s t) false):=fun _ _ _ _=>rfl
  have ih:=lesB_tri s t
  rw [e,e,bnot_eq,ifB_eq,ifB_eq,ifB_eq,ifB_eq,nblt_eq,nbeq_eq,nblt_eq,nbeq_eq]
  rw [bnot_eq]at ih
  rcases Nat.lt_trichotomy a b with h | h | h
  ·have h1:¬ b<a:=by omega
   have h2:¬ b=a:=by omega
   simp [h,h1,h2]
  ·subst h;simp [← ih]
  ·have h1:¬ a<b:=by omega
   have h2:¬ a=b:=by omega
   simp [h,h1,h2]
theorem run_strOp {P:Program}{op:BinOp}{a b:List Nat}{v:AVal} (h:strOp op a b=some v) (ha:∀ x∈a,x<256) (hb:∀ x∈b,x<256) (t:TypeId) (β:Inj) (w:World) :
  (Go.binOp op t (.string (str a)) (.string (str b))).run P w = .ok (conc β v) w∧WF β v:=by
 have hl:=lbeq_str ha hb
 have hs1:=lesB_str ha hb
 have hs2:=lesB_str hb ha
 have les1:Op.bytesLess (str a).toList (str b).toList=lesB a b:=by rw [str_toList,str_toList,hs1]
 have les2:Op.bytesLess (str b).toList (str a).toList=lesB b a:=by rw [str_toList,str_toList,hs2]
 have tri:(Op.bytesLess (str a).toList (str b).toList||((str a).toList==(str b).toList))=bnot (lesB b a):=by
  rw [les1,← hl,lbeq_eq,lesB_tri]
 cases op<;>first | (cases h;done) | skip
 case add=>
  obtain ⟨h1,h⟩:=ifB_some h
  cases h
  rw [nble_eq,decide_eq_true_eq,lenA_eq,lenA0]at h1
  refine ⟨?_,?_⟩
  ·simp only [Go.binOp,Op.stringOp]
   rw [if_neg (by rw [str_size,str_size];show ¬ (((a.length+b.length:Nat)):Int) > IntKind.i64.max;simp [IntKind.max,IntKind.signed,IntKind.bits];omega)]
   simp [conc,str_append]
  ·intro x hx
   simp only [appA_eq,List.mem_append]at hx
   exact hx.elim (ha x) (hb x)
 case eql=>cases h;simp [Go.binOp,Op.stringOp,conc,WF,hl]
 case neq=>cases h;simp [Go.binOp,Op.stringOp,conc,WF,hl,bnot_eq]
 case lss=>cases h;simp [Go.binOp,Op.stringOp,conc,WF,les1]
 case leq=>cases h;simp only [Go.binOp,Op.stringOp,Sem.run_pure,tri,mkBool_eq,conc];exact ⟨trivial,trivial⟩
 case gtr=>cases h;simp only [Go.binOp,Op.stringOp,Sem.run_pure,tri,mkBool_eq,conc,bnot_eq,Bool.not_not];exact ⟨trivial,trivial⟩
 case geq=>cases h;simp [Go.binOp,Op.stringOp,conc,WF,les1,bnot_eq]
end
section
variable [Unk]
def plainX (x:Value):Bool:=match x with | .int _ _=>false | .float _ _=>false | .complex _ _ _=>false | .string _=>false | _=>true
section
variable {E:Env} (hE:EnvOk E)
include hE
theorem run_apart {β:Inj}{t:TypeId}{cs:List AVal}{off:Nat}{v:AVal} (h:E.apart t cs off=some v) (hw:WFs β cs) (w:World) :
  (part t (concs β cs).toArray off).run E.P w = .ok (conc β v) w∧WF β v:=by
 obtain ⟨g,hg,h⟩:=bnd_eq h
 unfold part
 rw [Sem.run_bind,run_isAgg hE hg]
 cases g with
 | true=>
  obtain ⟨n,hn,h⟩:=bnd_eq h
  cases h
  refine ⟨?_,?_⟩
  ·simp only [Result.andThen_ok,if_true,Sem.run_bind,run_size hE hn,Sem.run_pure,conc]
   congr 2
   apply Array.toList_inj.1
   simp [concs_eq,takeA_eq,dropA_eq,List.map_drop,List.map_take]
  ·rw [WF,WFs_iff]
   intro v hv
   rw [takeA_eq,dropA_eq]at hv
   exact (WFs_iff _ _).1 hw v (List.mem_of_mem_drop (List.mem_of_mem_take hv))
 | false=>
  have h:nthA off cs=some v:=h
  rw [nthA_eq]at h
  refine ⟨?_,(WFs_iff _ _).1 hw v (List.mem_of_getElem? h)⟩
  simp [concs_eq,h]
omit hE in
theorem toList_eq_dec (s u:ByteArray):(s.toList==u.toList)=decide (s=u):=by
 rw [ByteArray.toList_eq,ByteArray.toList_eq,Bool.eq_iff_iff,decide_eq_true_eq,beq_iff_eq]
 obtain ⟨⟨x⟩⟩:=s
 obtain ⟨⟨y⟩⟩:=u
 simp
theorem symEq_sound {β:Inj} (hF:FactsOk E β) {w:World}{t:TypeId}{x y:AVal}{r:Bool} (h:symEq E t x y=some r) (d:Nat) :
  (Op.equalIn (d+1) t (conc β x) (conc β y)).run E.P w = .ok r w:=by
 replace h:=bnd_eq h
 obtain ⟨dd,hd,h⟩:=h
 replace h:=bnd_eq h
 obtain ⟨sh,hs,h⟩:=h
 obtain ⟨f,hf,e⟩:=findF_eq h
 have:=mEq_eq e
 subst this
 obtain ⟨h1,h2,h3⟩:=hF _ hf
 rcases h3 with ⟨rfl,k,m,n,e1,e2,rfl⟩ | ⟨rfl,s,u,e1,e2,rfl⟩ | ⟨rfl,s,u,e1,e2,rfl⟩
 ·cases dd<;>simp [shapeOf]at hs
  simp [e1,e2,Op.equalIn,run_under hE hd]
 ·cases dd<;>simp [shapeOf]at hs
  simp [e1,e2,Op.equalIn,run_under hE hd,beq_toListBytes,toList_eq_dec]
 ·cases dd<;>simp [shapeOf]at hs
  simp [e1,e2,Op.equalIn,run_under hE hd]
theorem aequal_sound (β:Inj) (hF:FactsOk E β) (H:Heap) (w:World):∀ f,
  (∀ t x y r,aequal E H f t x y=some r→WF β x→WF β y→∀ d,f≤d→(Op.equalIn d t (conc β x) (conc β y)).run E.P w = .ok r w) ∧
  (∀ fs xs ys r,aeqFields E H f fs xs ys=some r→WFs β xs→WFs β ys→∀ d,f≤d→(Op.eqFields d (concs β xs).toArray (concs β ys).toArray fs).run E.P w = .ok r w) ∧
  (∀ e s is xs ys r,aeqElems E H f e s is xs ys=some r→WFs β xs→WFs β ys→∀ d,f≤d→(Op.eqItems d e s (concs β xs).toArray (concs β ys).toArray is).run E.P w = .ok r w):=by
 intro f
 induction f with
 | zero=>exact ⟨fun _ _ _ _ h=>by simp [aequal]at h,fun _ _ _ _ h=>by simp [aeqFields]at h,fun _ _ _ _ _ _ h=>by simp [aeqElems]at h⟩
 | succ f ih=>
  obtain ⟨ih1,ih2,ih3⟩:=ih
  refine ⟨?_,?_,?_⟩
  ·intro t x y r h hx hy d hd
   obtain ⟨d,rfl⟩:∃ e,d=e+1:=⟨d-1,by omega⟩
   have hd':f≤d:=by omega
   unfold aequal at h
   rw [ifB_eq]at h
   split at h
   case isFalse=>exact symEq_sound hE hF h d
   rename_i hs
   clear hs
   split at h
   ·rename_i e;cases h;simp [conc,Op.equalIn,run_under hE e,bbeq_eq]
   ·rename_i k a j b e
    split at h
    ·rename_i hk
     cases h
     have:=(kbeq_eq _ _).1 hk
     subst this
     simp [conc,Op.equalIn,run_under hE e,ibeq_eq]
    ·cases h
   ·rename_i a b e;cases h
    rw [lbeq_str hx hy]
    simp [conc,Op.equalIn,run_under hE e,beq_toListBytes]
   ·rename_i e;cases h;(simp only [conc,Op.equalIn,Sem.run_bind,run_under hE e,Result.andThen_ok,Sem.run_pure])<;>first | done | rfl | simp
   ·rename_i e;cases h;(simp only [conc,Op.equalIn,Sem.run_bind,run_under hE e,Result.andThen_ok,Sem.run_pure])<;>first | done | rfl | simp
   ·rename_i e;cases h;(simp only [conc,Op.equalIn,Sem.run_bind,run_under hE e,Result.andThen_ok,Sem.run_pure])<;>first | done | rfl | simp
   ·rename_i elem a i b j e
    split at h
    ·cases h
    ·cases h
    ·rename_i n hn
     split at h
     ·split at h
      ·rename_i hb
       rw [nbeq_eq,beq_iff_eq]at hb
       cases h
       subst hb
       have e1:(sameAddr (β.addr a i) (β.addr a j)).run E.P w = .ok (Nat.beq i j) w:=by
        have e2:(β.addr a i==β.addr a j)=Nat.beq i j:=by
         rw [nbeq_eq,Bool.eq_iff_iff,beq_iff_eq,beq_iff_eq]
         simp [Inj.addr]
        unfold sameAddr
        rw [e2]
        simp [Inj.addr]
       simp [conc,Op.equalIn,run_under hE e,run_size hE hn,e1]
      ·cases h
     ·cases h
   ·rename_i e;cases h;(simp only [conc,Op.equalIn,Sem.run_bind,run_under hE e,Result.andThen_ok,Sem.run_pure])<;>first | done | rfl | simp
   ·rename_i e;cases h;(simp only [conc,Op.equalIn,Sem.run_bind,run_under hE e,Result.andThen_ok,Sem.run_pure])<;>first | done | rfl | simp
   ·rename_i e;cases h;(simp only [conc,Op.equalIn,Sem.run_bind,run_under hE e,Result.andThen_ok,Sem.run_pure])<;>first | done | rfl | simp
   ·rename_i e;cases h;(simp only [conc,Op.equalIn,Sem.run_bind,run_under hE e,Result.andThen_ok,Sem.run_pure])<;>first | done | rfl | simp
   ·rename_i e;cases h;(simp only [conc,Op.equalIn,Sem.run_bind,run_under hE e,Result.andThen_ok,Sem.run_pure])<;>first | done | rfl | simp
   ·rename_i e;cases h;(simp only [conc,Op.equalIn,Sem.run_bind,run_under hE e,Result.andThen_ok,Sem.run_pure])<;>first | done | rfl | simp
   ·rename_i e;cases h;(simp only [conc,Op.equalIn,Sem.run_bind,run_under hE e,Result.andThen_ok,Sem.run_pure])<;>first | done | rfl | simp
   ·rename_i e;cases h;(simp only [conc,Op.equalIn,Sem.run_bind,run_under hE e,Result.andThen_ok,Sem.run_pure])<;>first | done | rfl | simp
   ·rename_i e;cases h;(simp only [conc,Op.equalIn,Sem.run_bind,run_under hE e,Result.andThen_ok,Sem.run_pure])<;>first | done | rfl | simp
   ·rename_i e;cases h;(simp only [conc,Op.equalIn,Sem.run_bind,run_under hE e,Result.andThen_ok,Sem.run_pure])<;>first | done | rfl | simp
   ·rename_i e;cases h;(simp only [conc,Op.equalIn,Sem.run_bind,run_under hE e,Result.andThen_ok,Sem.run_pure])<;>first | done | rfl | simp
   ·rename_i e;cases h;(simp only [conc,Op.equalIn,Sem.run_bind,run_under hE e,Result.andThen_ok,Sem.run_pure])<;>first | done | rfl | simp
   ·rename_i e;cases h;(simp only [conc,Op.equalIn,Sem.run_bind,run_under hE e,Result.andThen_ok,Sem.run_pure])<;>first | done | rfl | simp
   ·rename_i e;cases h;(simp only [conc,Op.equalIn,Sem.run_bind,run_under hE e,Result.andThen_ok,Sem.run_pure])<;>first | done | rfl | simp
   ·rename_i e;cases h;(simp only [conc,Op.equalIn,Sem.run_bind,run_under hE e,Result.andThen_ok,Sem.run_pure])<;>first | done | rfl | simp
   ·rename_i e;cases h;(simp only [conc,Op.equalIn,Sem.run_bind,run_under hE e,Result.andThen_ok,Sem.run_pure])<;>first | done | rfl | simp
   ·rename_i e;cases h;(simp only [conc,Op.equalIn,Sem.run_bind,run_under hE e,Result.andThen_ok,Sem.run_pure])<;>first | done | rfl | simp
   ·rename_i e;cases h;(simp only [conc,Op.equalIn,Sem.run_bind,run_under hE e,Result.andThen_ok,Sem.run_pure])<;>first | done | rfl | simp
   ·rename_i ms ta va tb vb e
    split at h
    ·rename_i hb
     cases h
     have hne:ta≠tb:=by
      intro hab
      rw [hab,nbeq_eq]at hb
      simp at hb
     simp [conc,Op.equalIn,run_under hE e,hne]
    ·rename_i hb
     rw [nbeq_eq,beq_iff_eq]at hb
     subst hb
     split at h
     ·cases h
     ·rename_i i hi
      split at h
      ·rename_i hc
       have:=ih1 _ _ _ _ h hx hy d hd'
       simp [conc,Op.equalIn,run_under hE e,run_info hE hi,hc,this]
      ·cases h
   ·rename_i fs xs ys e
    split at h
    ·cases h
    ·rename_i hp
     have hu:=desc_of hE e
     have hf:E.P.fieldsOf t=fs:=by simp [Program.fieldsOf,hu]
     rw [conc,conc,run_equalIn_struct w d t _ _ (by rw [hf];exact hu) (by simpa using hp),hf]
     exact ih2 _ _ _ _ h hx hy d hd'
   ·rename_i n elem xs ys e
    split at h
    ·cases h
    ·rename_i s hs
     obtain ⟨i,h1,h2,h3,h4⟩:=size_of hE hs
     rw [conc,conc,run_equalIn_array w d _ _ (desc_of hE e) h1]
     have:E.P.cellsOf elem=s:=by simp [Program.cellsOf,h1,h3]
     rw [this]
     exact ih3 _ _ _ _ _ _ h hx hy d hd'
   ·cases h
  ·intro fs xs ys r h hx hy d hd
   cases fs with
   | nil=>simp only [aeqFields]at h;cases h;simp [Op.eqFields]
   | cons fl fs=>
    simp only [aeqFields]at h
    obtain ⟨h1,h⟩:=ifB_some' h
    obtain ⟨a,ha,h⟩:=bnd_eq h
    obtain ⟨b,hb,h⟩:=bnd_eq h
    obtain ⟨q,hq,h⟩:=bnd_eq h
    obtain ⟨a1,a2⟩:=run_apart hE ha hx w
    obtain ⟨b1,b2⟩:=run_apart hE hb hy w
    have hq':=ih1 _ _ _ _ hq a2 b2 d (by omega)
    have hne:fl.name ≠ "_" := by simpa using h1
    simp only [Op.eqFields,hne,ne_eq,not_false_eq_true,if_true,Sem.run_bind,a1,b1,Result.andThen_ok,hq']
    cases q with
    | true=>simpa using ih2 _ _ _ _ h hx hy d (by omega)
    | false=>cases h;simp
  ·intro e s is xs ys r h hx hy d hd
   cases is with
   | nil=>simp only [aeqElems]at h;cases h;simp [Op.eqItems]
   | cons i is=>
    simp only [aeqElems]at h
    obtain ⟨a,ha,h⟩:=bnd_eq h
    obtain ⟨b,hb,h⟩:=bnd_eq h
    obtain ⟨q,hq,h⟩:=bnd_eq h
    obtain ⟨a1,a2⟩:=run_apart hE ha hx w
    obtain ⟨b1,b2⟩:=run_apart hE hb hy w
    have hq':=ih1 _ _ _ _ hq a2 b2 d (by omega)
    have a1:(part e (concs β xs).toArray (i*s)).run E.P w = .ok (conc β a) w:=a1
    have b1:(part e (concs β ys).toArray (i*s)).run E.P w = .ok (conc β b) w:=b1
    simp only [Op.eqItems,Sem.run_bind,a1,b1,Result.andThen_ok,hq']
    cases q with
    | true=>simpa using ih3 _ _ _ _ _ _ h hx hy d (by omega)
    | false=>cases h;simp
theorem run_guard_plain (op:BinOp) (t:TypeId) (x y:Operand) (a b:Value) (w:World) (ha:(match a with | .nilIface=>false | .agg _=>false | _=>true)=true) :
  (eqGuard op t x y a b).run E.P w = .ok () w:=by
 have _:=hE
 unfold eqGuard
 cases op<;>first | rfl | (cases a<;>first | rfl | (simp at ha;done) | simp)
theorem run_guard_nil (op:BinOp) (t:TypeId) (x y:Operand) (b:Value) (w:World) (h:ifB (isConst x) true (isConst y)=true) :
  (eqGuard op t x y .nilIface b).run E.P w = .ok () w:=by
 have _:=hE
 have hc:(isConst x||isConst y)=true:=by
  rw [ifB_eq]at h
  cases hx:isConst x
  ·rw [hx]at h;simpa using h
  ·rfl
 unfold eqGuard
 cases op<;>first | rfl | (cases b<;>first | rfl | (cases x<;>cases y<;>first | rfl | (simp [isConst]at hc)))
omit hE in
theorem binOp_eql (t:TypeId) (x y:Value) (h:plainX x=true):Go.binOp .eql t x y=(do pure (.bool (← Op.equal t x y)):Sem Value):=by
 cases x<;>first | (simp [plainX]at h;done) | rfl
omit hE in
theorem binOp_neq (t:TypeId) (x y:Value) (h:plainX x=true):Go.binOp .neq t x y=(do pure (.bool (!(← Op.equal t x y))):Sem Value):=by
 cases x<;>first | (simp [plainX]at h;done) | rfl
theorem symBin_sound {β:Inj} (hF:FactsOk E β) {w:World}{op:BinOp}{t:TypeId}{x y:Operand}{a b v:AVal} (h:symBin E op t a b=some v) :
  (do eqGuard op t x y (conc β a) (conc β b);Go.binOp op t (conc β a) (conc β b)).run E.P w = .ok (conc β v) w∧WF β v:=by
 unfold symBin at h
 cases hb:findF (mBin op a b) E.facts with
 | some r=>
  rw [hb,obind_some]at h
  cases h
  obtain ⟨f,hf,e⟩:=findF_eq hb
  obtain ⟨h1,h2,h3,h4,h5⟩:=mBin_true e (hF _ hf)
  refine ⟨?_,h3⟩
  rw [Sem.run_bind,run_guard_plain hE op t x y _ _ w h4,Result.andThen_ok,h5]
 | none=>
  rw [hb,obind_none]at h
  replace h:=bnd_eq h
  obtain ⟨g,hg,h⟩:=h
  replace h:=bnd_eq h
  obtain ⟨r,hr,h⟩:=h
  cases h
  refine ⟨?_,by rw [mkBool_eq];trivial⟩
  replace hr:=bnd_eq hr
  obtain ⟨dd,hd,hr⟩:=hr
  replace hr:=bnd_eq hr
  obtain ⟨sh,hs,hr⟩:=hr
  obtain ⟨f,hf,e⟩:=findF_eq hr
  have:=mEq_eq e
  subst this
  obtain ⟨h1,h2,h3⟩:=hF _ hf
  unfold eqlOf at hg
  rcases h3 with ⟨rfl,k,m,n,e1,e2,rfl⟩ | ⟨rfl,s,u,e1,e2,rfl⟩ | ⟨rfl,s,u,e1,e2,rfl⟩
  rotate_left 2
  ·cases dd<;>simp [shapeOf]at hs
   have hbool:∀ d (s u:Bool),(Op.equalIn (d+1) t (.bool s) (.bool u)).run E.P w = .ok (s==u) w:=by
    intro d s u
    simp [Op.equalIn,run_under hE hd]
   rw [Sem.run_bind,run_guard_plain hE op t x y _ _ w (by rw [e1]),Result.andThen_ok,e1,e2]
   have heq:(Op.equal t (.bool s) (.bool u)).run E.P w = .ok (s==u) w:=by
    exact hbool 9999 s u
   split at hg
   ·cases hg
    rw [binOp_eql _ _ _ rfl,Sem.run_bind,heq]
    cases s<;>cases u<;>rfl
   ·cases hg
    rw [binOp_neq _ _ _ rfl,Sem.run_bind,heq]
    cases s<;>cases u<;>rfl
   ·cases hg
  ·rw [Sem.run_bind,run_guard_plain hE op t x y _ _ w (by rw [e1]),Result.andThen_ok,e1,e2]
   split at hg
   ·cases hg;simp [Go.binOp,Op.intCmp,conc]
   ·cases hg;simp [Go.binOp,Op.intCmp,conc,bnot_eq];rfl
   ·cases hg
  ·rw [Sem.run_bind,run_guard_plain hE op t x y _ _ w (by rw [e1]),Result.andThen_ok,e1,e2]
   split at hg
   ·cases hg;simp [Go.binOp,Op.stringOp,conc,toList_eq_dec]
   ·cases hg;simp [Go.binOp,Op.stringOp,conc,bnot_eq,toList_eq_dec]
   ·cases hg
theorem abin_sound {β:Inj} (hF:FactsOk E β) {H:Heap}{w:World}{op:BinOp}{t:TypeId}{x y:Operand}{a b v:AVal} (h:abin E H op t x y a b=some v) (ha:WF β a) (hb:WF β b) :
  (do eqGuard op t x y (conc β a) (conc β b);Go.binOp op t (conc β a) (conc β b)).run E.P w = .ok (conc β v) w∧WF β v:=by
 unfold abin at h
 rw [ifB_eq]at h
 split at h
 case isFalse=>exact symBin_sound hE hF h
 rename_i hsb
 have hsym:=hsb
 rw [band_eq,bnot_eq,bnot_eq,Bool.and_eq_true]at hsym
 cases hi:asInt a with
 | some p=>
  have:=asInt_eq hi
  subst this
  rw [Sem.run_bind,run_guard_plain hE op t x y _ _ w rfl,Result.andThen_ok]
  rw [hi,obind_some]at h
  cases hj:asInt b with
  | some q=>
   have:=asInt_eq hj
   subst this
   rw [hj,obind_some]at h
   exact run_intOp h t β w
  | none=>
   rw [hj,obind_none]at h
   obtain ⟨h1,h⟩:=ifB_some h
   have h1:=isI64_eq h1
   cases b<;>simp only [capOp]at h<;>first | (cases h;done) | skip
   rename_i q c
   obtain ⟨h2,h⟩:=ifB_some h
   cases hm:p.2 with
   | negSucc m=>rw [hm]at h;cases h
   | ofNat m=>
    rw [hm]at h
    obtain ⟨h3,h⟩:=ifB_some h
    cases h
    rw [nble_eq,decide_eq_true_eq]at h3
    cases op<;>simp [isGtr]at h2
    refine ⟨?_,trivial⟩
    rw [h1]
    simp [conc,Go.binOp,Op.intCmp]
    omega
 | none=>
  rw [hi,obind_none]at h
  unfold abinS at h
  cases hs:asStr a with
  | some s=>
   have:=asStr_eq hs
   subst this
   rw [hs,obind_some]at h
   obtain ⟨u,hu,h⟩:=bnd_eq h
   have:=asStr_eq hu
   subst this
   rw [Sem.run_bind,run_guard_plain hE op t x y _ _ w rfl,Result.andThen_ok]
   exact run_strOp h ha hb t β w
  | none=>
   rw [hs,obind_none]at h
   obtain ⟨f,hf,h⟩:=bnd_eq h
   obtain ⟨hg,h⟩:=ifB_some h
   obtain ⟨r,hr,h⟩:=bnd_eq h
   cases h
   have heq:=(aequal_sound hE β hF H w 10000).1 _ _ _ _ hr ha hb Op.maxDepth (by decide)
   refine ⟨?_,by rw [mkBool_eq];trivial⟩
   have guard:(eqGuard op t x y (conc β a) (conc β b)).run E.P w = .ok () w:=by
    cases a
    case agg l=>
     have hb':∃ m,b = .agg m:=by
      cases b<;>first | exact ⟨_,rfl⟩ | (exfalso;unfold aequal at hr;rw [hsb,ifB_true]at hr;clear hsb hsym;split at hr<;>simp_all)
     obtain ⟨m,rfl⟩:=hb'
     simp only [eqGuardOk,bnot_eq,Bool.not_eq_true']at hg
     exact run_eqGuard_agg w op t x y _ _ hg
    case niliface=>exact run_guard_nil hE op t x y (conc β b) w hg
    case sym i=>exact absurd hsym.1 (by simp [isSym])
    all_goals exact run_guard_plain hE op t x y _ _ w rfl
   rw [Sem.run_bind,guard,Result.andThen_ok]
   have hx:plainX (conc β a)=true:=by
    cases a
    case sym i=>simp [isSym]at hsym
    all_goals first | rfl | (cases hi;done) | (cases hs;done) | (exfalso;unfold aequal at hr;rw [hsb,ifB_true]at hr;clear hsb hsym;split at hr<;>simp_all;done)
   have heq':(Op.equal t (conc β a) (conc β b)).run E.P w = .ok r w:=heq
   unfold eqlOf at hf
   split at hf
   ·cases hf
    rw [binOp_eql _ _ _ hx]
    simp [heq',conc]
   ·cases hf
    rw [binOp_neq _ _ _ hx]
    simp [heq',conc,bnot_eq]
   ·cases hf
end
end
section
variable [Unk]
def Gives (P:Program) (β:Inj) (w:World) (m:Sem Value) (v:AVal):Prop:=m.run P w = .ok (conc β v) w∧WF β v
theorem inBle_eq {α:Type}{v:Option AVal}{d m:Nat}{f:Nat→Option α}{r:α} (h:inBle v d m f=some r) :
  (v=none∧f d=some r)∨∃ k n,v=some (.int k (.ofNat n))∧n≤m∧f n=some r:=by
 cases v with
 | none=>exact .inl ⟨rfl,h⟩
 | some v=>
  obtain ⟨i,hi,h⟩:=bnd_eq h
  obtain ⟨k,rfl⟩:=asIdx_eq hi
  cases i with
  | negSucc n=>cases h
  | ofNat n=>
   obtain ⟨h1,h⟩:=ifB_some h
   rw [nble_eq,decide_eq_true_eq]at h1
   exact .inr ⟨k,n,rfl,h1,h⟩
theorem run_bound {P:Program}{w:World}{β:Inj} (k:IntKind) {n m:Nat} (h:n≤m) (c:BoundsCode) :
  (Instr.sliceBound (conc β (.int k (.ofNat n))) m c).run P w = .ok n w:=by
 unfold Instr.sliceBound
 simp [conc,asIntOf]
 omega
theorem run_bounds {P : Program} {w : World} {β : Inj} {isSlice : Bool} {len cap cap' : Nat} {lo hi mx : Option AVal} {α : Type} {f : Nat → Nat → Nat → Option α} {r : α}
    (ho : okMx hi mx = true) (hc : cap ≤ cap') (hl : len ≤ cap) (h : (inBle mx cap cap fun m => inBle hi len m fun h => inBle lo 0 h fun l => f m h l) = some r) :
    ∃ m h l, f m h l = some r ∧ l ≤ h ∧ h ≤ m ∧ m ≤ cap ∧
      (Instr.sliceBounds isSlice len cap' (lo.map (conc β)) (hi.map (conc β)) (mx.map (conc β))).run P w = .ok (l, h, if mx.isSome then m else cap') w ∧ (mx = none → m = cap) := by
  have low : ∀ m h, (inBle lo 0 h fun l => f m h l) = some r → ∃ l, f m h l = some r ∧ l ≤ h ∧
      ∀ c K, (match lo.map (conc β) with
        | some v => do
          let l ← Instr.sliceBound v h c
          pure (l, h, K)
        | none => do
          let l ← pure 0
          pure (l, h, K) : Sem (Nat × Nat × Nat)).run P w = .ok (l, h, K) w := by
    intro m h hh
    rcases inBle_eq hh with ⟨e, hh⟩ | ⟨k3, l, e, h3, hh⟩
    · exact ⟨0, hh, Nat.zero_le _, fun c K => by rw [e]; rfl⟩
    · refine ⟨l, hh, h3, fun c K => ?_⟩
      rw [e, Option.map_some]
      simp only [Sem.run_bind, run_bound k3 h3 c, Result.andThen_ok, Sem.run_pure]
  rcases inBle_eq h with ⟨e1, h⟩ | ⟨k1, m, e1, h1, h⟩
  · rcases inBle_eq (show (inBle hi len cap fun h => inBle lo 0 h fun l => f cap h l) = some r from h) with ⟨e2, h⟩ | ⟨k2, n, e2, h2, h⟩
    · obtain ⟨l, g1, g2, g3⟩ := low _ _ h
      refine ⟨cap, len, l, g1, g2, hl, Nat.le_refl _, ?_, fun _ => rfl⟩
      subst e1; subst e2
      simp only [Instr.sliceBounds, Option.map_none, Sem.run_bind, Sem.run_pure, Result.andThen_ok, Option.isSome_none]
      exact g3 _ _
    · obtain ⟨l, g1, g2, g3⟩ := low _ _ h
      refine ⟨cap, n, l, g1, g2, h2, Nat.le_refl _, ?_, fun _ => rfl⟩
      subst e1; subst e2
      simp only [Instr.sliceBounds, Option.map_none, Option.map_some, Sem.run_bind, Sem.run_pure, Result.andThen_ok, run_bound k2 (Nat.le_trans h2 hc), Option.isSome_none]
      exact g3 _ _
  · rcases inBle_eq (show (inBle hi len m fun h => inBle lo 0 h fun l => f m h l) = some r from h) with ⟨e2, h⟩ | ⟨k2, n, e2, h2, h⟩
    · subst e1; subst e2; simp [okMx] at ho
    · obtain ⟨l, g1, g2, g3⟩ := low _ _ h
      refine ⟨m, n, l, g1, g2, h2, h1, ?_, fun e => by rw [e1] at e; cases e⟩
      subst e1; subst e2
      simp only [Instr.sliceBounds, Option.map_some, Sem.run_bind, Result.andThen_ok, run_bound k1 (Nat.le_trans h1 hc), run_bound k2 h2, Option.isSome_some]
      exact g3 _ _
theorem mkSl_eq {b off h l m sz:Nat}{ex:Bool}{v:AVal} (hh:mkSl b off h l m sz ex=some v) :
  (m=l∧ex=true∧v = .slice b off (h-l) (m-l) true)∨(m=l∧ex=false∧v = .esl b off (off+l*sz))∨(m≠l∧v = .slice b (off+l*sz) (h-l) (m-l) ex):=by
 unfold mkSl at hh
 rw [ifB_eq,nbeq_eq]at hh
 by_cases e:m=l
 ·rw [if_pos (by simp [e])]at hh
  cases ex with
  | true=>cases hh;exact .inl ⟨e,rfl,rfl⟩
  | false=>cases hh;exact .inr (.inl ⟨e,rfl,rfl⟩)
 ·rw [if_neg (by simp [e])]at hh
  cases hh
  exact .inr (.inr ⟨e,rfl⟩)
section
variable {E:Env} (hE:EnvOk E)
include hE
omit hE in
theorem isZ_eq {o:Option AVal} (h:isZ o=true):o=none∨∃ k,o=some (.int k 0):=by
 cases o with
 | none=>exact .inl rfl
 | some v=>
  replace h:obind (asIdx v) false (fun i=>ibeq i (.ofNat 0))=true:=h
  cases hv:asIdx v with
  | none=>rw [hv]at h;cases h
  | some i=>
   rw [hv,obind_some,ibeq_eq,beq_iff_eq]at h
   obtain ⟨k,rfl⟩:=asIdx_eq hv
   subst h
   exact .inr ⟨k,rfl⟩
theorem symSub_sound {β : Inj} (hF : FactsOk E β) {w : World} {t : TypeId} (hd : E.desc t = some .string) {x : AVal} {lo hi mx : Option AVal} {v : AVal} (h : symSub E x lo hi mx = some v) :
    Gives E.P β w (Instr.sliceAt t (conc β x) (lo.map (conc β)) (hi.map (conc β)) (mx.map (conc β))) v := by
  unfold symSub at h
  cases mx with
  | some m => cases h
  | none =>
    cases hi with
    | none => cases h
    | some hh =>
      simp only [obind_none, obind_some] at h
      have key : ∀ l, findF (mSub x l hh) E.facts = some v → (lo = some l ∨ (lo = none ∧ l = .int .i64 (.ofNat 0))) →
          Gives E.P β w (Instr.sliceAt t (conc β x) (lo.map (conc β)) ((some hh).map (conc β)) ((none : Option AVal).map (conc β))) v := by
        intro l h hl
        obtain ⟨f, hf, e⟩ := findF_eq h
        have := mSub_eq e
        subst this
        obtain ⟨h1, h2, h3, h4, s, j, n, k, m, e1, e2, e3, e4, e5, e6⟩ := hF _ hf
        refine ⟨?_, h4⟩
        have b1 : ∀ c M, m ≤ M → (Instr.sliceBound (.int k (Int.ofNat m)) M c).run E.P w = .ok m w := by
          intro c M hM
          unfold Instr.sliceBound
          simp [asIntOf]
          omega
        have b2 : ∀ c, (Instr.sliceBound (.int j (Int.ofNat n)) m c).run E.P w = .ok n w := by
          intro c
          unfold Instr.sliceBound
          simp [asIntOf]
          omega
        unfold Instr.sliceAt
        rw [Sem.run_bind, run_under hE hd]
        simp only [Result.andThen_ok]
        unfold Instr.slice
        rw [Sem.run_bind, run_under hE hd]
        simp only [Result.andThen_ok, e1, Option.map_some, Option.map_none, e3]
        rcases hl with rfl | ⟨rfl, rfl⟩
        · simp only [Option.map_some, Option.isSome_none, Bool.false_eq_true, if_false, e2, Instr.sliceBounds, Sem.run_bind, Sem.run_pure, Result.andThen_ok, b1 _ _ e5, b2, e6]
        · have hn : n = 0 := by
            simp only [conc] at e2
            injection e2 with e2 e2'
            have := Int.ofNat.inj e2'
            omega
          subst hn
          simp only [Option.map_none, Option.isSome_none, Bool.false_eq_true, if_false, Instr.sliceBounds, Sem.run_bind, Sem.run_pure, Result.andThen_ok, b1 _ _ e5, e6]
      cases lo with
      | none => exact key _ h (.inr ⟨rfl, rfl⟩)
      | some l => exact key _ h (.inl rfl)
theorem sliceSl_sound {β:Inj}{w:World}{t e:TypeId}{sz:Nat} (hd:E.desc t=some (.slice e)) (hsz:E.size e=some sz) {s:Sl}{lo hi mx:Option AVal}{v:AVal} (ho:okMx hi mx=true)
  (h:sliceSl s sz lo hi mx=some v) (hx:WF β (.slice s.b s.off s.len s.cap s.ex)) :
  Gives E.P β w (Instr.slice t (conc β (.slice s.b s.off s.len s.cap s.ex)) (lo.map (conc β)) (hi.map (conc β)) (mx.map (conc β))) v:=by
 unfold Gives Instr.slice
 rw [Sem.run_bind,run_under hE hd]
 have hl:=hx.2
 obtain ⟨m,hh,l,e1,e2,e3,e4,e5,e6⟩:=run_bounds (P:=E.P) (w:=w) (β:=β) (isSlice:=true) (cap':=if s.ex then s.cap else s.cap+β.ext s.b) ho (by split<;>omega) hl h
 simp only [conc,Result.andThen_ok,Sem.run_bind,e5,run_size hE hsz,Sem.run_pure]
 rcases mkSl_eq e1 with ⟨g1,g2,rfl⟩ | ⟨g1,g2,rfl⟩ | ⟨g1,rfl⟩
 ·refine ⟨?_,⟨hx.1,by omega⟩⟩
  cases mx with
  | none=>
   have:=e6 rfl
   rw [obind_none]at g2
   simp only [g2,Option.isSome_none,Bool.false_eq_true,if_false,if_true,conc]
   rw [if_pos (by omega),this]
  | some mx=>
   simp only [Option.isSome_some,if_true,conc]
   rw [if_pos g1]
 ·refine ⟨?_,hx.1⟩
  cases mx with
  | some mx=>rw [obind_some]at g2;cases g2
  | none=>
   have:=e6 rfl
   rw [obind_none]at g2
   simp only [g2,Option.isSome_none,Bool.false_eq_true,if_false,conc,Option.map_some,Inj.addr_add]
   by_cases he:β.ext s.b=0
   ·rw [if_pos (by omega),if_pos he]
    congr 2<;>omega
   ·rw [if_neg (by omega),if_neg he]
    congr 2<;>omega
 ·refine ⟨?_,⟨hx.1,by omega⟩⟩
  cases mx with
  | none=>
   have:=e6 rfl
   rw [this]at g1 e3 ⊢
   simp only [Option.isSome_none,Bool.false_eq_true,if_false,conc,obind_none,Option.map_some,Inj.addr_add]
   cases hex:s.ex
   ·simp only [Bool.false_eq_true,if_false]
    rw [if_neg (by omega)]
    congr 2
    omega
   ·simp only [if_true]
    rw [if_neg g1]
  | some mx=>
   simp only [Option.isSome_some,if_true,conc,obind_some,Option.map_some,Inj.addr_add]
   rw [if_neg g1]
omit hE in
theorem asSym_eq {v:AVal}{q:Nat} (h:asSym v=some q):v = .sym q:=by cases v<;>cases h;rfl
omit hE in
theorem mNum_sound {β:Inj} (hF:FactsOk E β) {q:Nat}{n:Nat×Nat} (h:findF (mNum q) E.facts=some n):WF β (.sym q)∧∃ N:Nat,conc β (.sym q) = .int .i64 (N:Int)∧n.1≤N∧N≤n.2:=by
 obtain ⟨f,hf,e⟩:=findF_eq h
 cases f<;>try cases e
 rename_i p lo hi
 obtain ⟨h1,h2⟩:=ifB_some e
 rw [nbeq_eq,beq_iff_eq]at h1
 subst h1
 cases h2
 exact hF _ hf
omit hE in
theorem mDiff_sound {β:Inj} (hF:FactsOk E β) {q m r:Nat} (h:findF (mDiff q m) E.facts=some r):WF β (.sym q)∧WF β (.sym r)∧∃ N:Nat,conc β (.sym q) = .int .i64 (N:Int)∧m≤N∧conc β (.sym r) = .int .i64 ((N-m:Nat):Int):=by
 obtain ⟨f,hf,e⟩:=findF_eq h
 cases f<;>try cases e
 rename_i p k r'
 obtain ⟨h1,h2⟩:=ifB_some e
 rw [band_eq,Bool.and_eq_true,nbeq_eq,nbeq_eq,beq_iff_eq,beq_iff_eq]at h1
 obtain ⟨h1,h3⟩:=h1
 subst h1
 subst h3
 cases h2
 exact hF _ hf
theorem slicePsl_sound {β:Inj} (hF:FactsOk E β) {w:World}{t e:TypeId}{sz:Nat} (hd:E.desc t=some (.slice e)) (hsz:E.size e=some sz) {p:Psl}{lo hi mx:Option AVal}{v x:AVal} (ho:okMx hi mx=true)
  (h:slicePsl E p sz lo hi mx=some v) (ex:x = .psl p.b p.o p.q p.c p.ex) (hx:WF β x) :
  Gives E.P β w (Instr.slice t (conc β x) (lo.map (conc β)) (hi.map (conc β)) (mx.map (conc β))) v:=by
 subst ex
 obtain ⟨w1,w2,N,w3,w4⟩:=hx
 have cx:conc β (.psl p.b p.o p.q p.c p.ex)=conc β (.slice p.b p.o N p.c p.ex):=by
  simp only [conc]
  rw [w3]
  rfl
 have hx':WF β (.slice p.b p.o N p.c p.ex):=⟨w1,w4⟩
 rw [cx]
 unfold slicePsl at h
 cases mx with
 | some m=>cases h
 | none=>
  rw [obind_none]at h
  cases hi with
  | some hh=>
   rw [obind_some]at h
   exact sliceSl_sound (s:=⟨p.b,p.o,N,p.c,p.ex⟩) hE hd hsz rfl h hx'
  | none=>
   rw [obind_none,ifB_eq]at h
   split at h
   ·rename_i hz
    cases h
    rw [band_eq,Bool.and_eq_true,nblt_eq,decide_eq_true_eq]at hz
    obtain ⟨hz,hc⟩:=hz
    have key:sliceSl ⟨p.b,p.o,N,p.c,p.ex⟩ sz lo none none=some (.slice p.b p.o N p.c p.ex):=by
     have e2:mkSl p.b p.o N 0 p.c sz p.ex=some (.slice p.b p.o N p.c p.ex):=by
      unfold mkSl
      rw [ifB_eq,nbeq_eq,if_neg (by simp;omega)]
      simp only [frc_eq]
      show some (AVal.slice p.b (p.o+0*sz) (N-0) (p.c-0) p.ex)=_
      simp
     rcases isZ_eq hz with rfl | ⟨k,rfl⟩
     ·exact e2
     ·exact e2
    obtain ⟨g1,g2⟩:=sliceSl_sound (w:=w) hE hd hsz rfl key hx'
    exact ⟨by rw [cx];exact g1,⟨w1,w2,N,w3,w4⟩⟩
   ·obtain ⟨l,hl0,h'⟩:=bnd_eq h
    clear h
    subst hl0
    obtain ⟨i,hi',h⟩:=bnd_eq h'
    clear h'
    obtain ⟨k,rfl⟩:=asIdx_eq hi'
    cases i with
    | negSucc m=>cases h
    | ofNat m=>
    replace h:(bnd (findF (mNum p.q) E.facts) fun n=>ifB (band (Nat.blt m p.c) (Nat.ble m n.1)) (bnd (findF (mDiff p.q m) E.facts) fun q=>frc (Nat.add p.o (Nat.mul m sz)) fun o=>frc (Nat.sub p.c m) fun c=>some (AVal.psl p.b o q c p.ex)) none)=some v:=h
    obtain ⟨n,hn,h⟩:=bnd_eq h
    obtain ⟨hc,h⟩:=ifB_some h
    simp only [band_eq,Bool.and_eq_true,nblt_eq,nble_eq,decide_eq_true_eq]at hc
    obtain ⟨hc1,hc2⟩:=hc
    obtain ⟨q',hq',h⟩:=bnd_eq h
    simp only [frc_eq]at h
    cases h
    obtain ⟨k1,N1,k2,k3,k4⟩:=mNum_sound hF hn
    obtain ⟨d1,d2,N2,d3,d4,d5⟩:=mDiff_sound hF hq'
    have eN:symVal ((β p.q).getD (0,0,0)) = .int .i64 (N1:Int):=k2
    have eN2:symVal ((β p.q).getD (0,0,0)) = .int .i64 (N2:Int):=d3
    rw [w3]at eN eN2
    have h1:N=N1:=by injection eN with _ e;omega
    have h2:N=N2:=by injection eN2 with _ e;omega
    subst h1
    subst h2
    have key:sliceSl ⟨p.b,p.o,N,p.c,p.ex⟩ sz (some (.int k (.ofNat m))) none none=some (.slice p.b (p.o+m*sz) (N-m) (p.c-m) p.ex):=by
     show (inBle (some (.int k (.ofNat m))) 0 N fun l=>mkSl p.b p.o N l p.c sz p.ex)=_
     show ifB (Nat.ble m N) (mkSl p.b p.o N m p.c sz p.ex) none=_
     rw [ifB_eq,nble_eq,if_pos (decide_eq_true (by omega))]
     unfold mkSl
     rw [ifB_eq,nbeq_eq,if_neg (by simp;omega)]
     simp only [frc_eq]
     rfl
    obtain ⟨g1,g2⟩:=sliceSl_sound (w:=w) hE hd hsz rfl key hx'
    refine ⟨?_,⟨w1,d2,N-m,d5,by show N-m≤p.c-m;omega⟩⟩
    rw [g1]
    simp only [conc]
    rw [show symVal ((β q').getD (0,0,0)) = .int .i64 ((N-m:Nat):Int) from d5]
    rfl
theorem aslice_sound {β:Inj} (hF:FactsOk E β) {w:World}{t:TypeId}{x:AVal}{lo hi mx:Option AVal}{v:AVal} (h:aslice E t x lo hi mx=some v) (hx:WF β x) :
  Gives E.P β w (Instr.sliceAt t (conc β x) (lo.map (conc β)) (hi.map (conc β)) (mx.map (conc β))) v:=by
 obtain ⟨ho,h⟩:=ifB_some h
 obtain ⟨d,hd,h⟩:=bnd_eq h
 unfold Gives Instr.sliceAt
 rw [Sem.run_bind,run_under hE hd]
 cases h1:dSlice d with
 | some e=>
  have:=dSlice_eq h1
  subst this
  rw [h1,obind_some]at h
  obtain ⟨sz,hsz,h⟩:=bnd_eq h
  simp only [Result.andThen_ok]
  cases h2:asSl x with
  | some s=>
   have:=asSl_eq h2
   subst this
   rw [h2,obind_some]at h
   cases h4:bnd hi asSym with
   | none=>
    rw [h4,obind_none]at h
    exact sliceSl_sound hE hd hsz ho h hx
   | some q0=>
    rw [h4,obind_some]at h
    unfold slicePre at h
    cases mx with
    | some m=>cases h
    | none=>
     rw [obind_none]at h
     obtain ⟨hh,hh0,h'⟩:=bnd_eq h
     clear h
     subst hh0
     obtain ⟨q,hq,hQ⟩:=bnd_eq h'
     have:=asSym_eq hq
     subst this
     obtain ⟨n,hn,hQ⟩:=bnd_eq hQ
     obtain ⟨hc,hQ⟩:=ifB_some hQ
     cases hQ
     simp only [band_eq,Bool.and_eq_true,nblt_eq,nble_eq,decide_eq_true_eq]at hc
     obtain ⟨hz,hc1,hc2⟩:=hc
     obtain ⟨k1,N,k2,k3,k4⟩:=mNum_sound hF hn
     have key:sliceSl s sz lo (some (.int .i64 (.ofNat N))) none=some (.slice s.b s.off N s.cap s.ex):=by
      have e1:∀ f:Nat→Option AVal,inBle (some (.int .i64 (.ofNat N))) s.len s.cap f=f N:=fun f=>by
       show ifB (Nat.ble N s.cap) (f N) none=f N
       rw [ifB_eq,nble_eq,if_pos (decide_eq_true (by omega))]
      have e2:mkSl s.b s.off N 0 s.cap sz s.ex=some (.slice s.b s.off N s.cap s.ex):=by
       unfold mkSl
       rw [ifB_eq,nbeq_eq,if_neg (by simp;omega)]
       simp only [frc_eq]
       show some (AVal.slice s.b (s.off+0*sz) (N-0) (s.cap-0) s.ex)=_
       simp
      show (inBle (some (.int .i64 (.ofNat N))) s.len s.cap fun h=>inBle lo 0 h fun l=>mkSl s.b s.off h l s.cap sz s.ex)=_
      rw [e1]
      rcases isZ_eq hz with rfl | ⟨k,rfl⟩
      ·exact e2
      ·exact e2
     obtain ⟨g1,g2⟩:=sliceSl_sound (w:=w) hE hd hsz (lo:=lo) (hi:=some (.int .i64 (.ofNat N))) (mx:=none) rfl key hx
     have e3:conc β (.int .i64 (.ofNat N))=conc β (.sym q):=by rw [k2];rfl
     refine ⟨?_,⟨hx.1,k1,N,k2,by omega⟩⟩
     simp only [Option.map_some,e3]at g1 ⊢
     rw [g1]
     simp only [conc]
     rw [show symVal ((β q).getD (0,0,0)) = .int .i64 (N:Int) from k2]
     rfl
  | none=>
   rw [h2,obind_none]at h
   cases h3:isNilSl x with
   | false=>
    rw [h3,ifB_false]at h
    cases hos:asOsl x with
    | none=>
     rw [hos,obind_none]at h
     cases hp:asPsl x with
     | some p=>
      rw [hp,obind_some]at h
      exact slicePsl_sound hE hF hd hsz ho h (asPsl_eq hp) hx
     | none=>
      rw [hp,obind_none]at h
      unfold sliceSym at h
      cases mx with
      | some m=>cases h
      | none=>
       rw [obind_none]at h
       obtain ⟨hz,hQ⟩:=ifB_some h
       obtain ⟨hh,hh0,hR⟩:=bnd_eq hQ
       subst hh0
       obtain ⟨f,hf,e0⟩:=findF_eq hR
       have:=mSsub_eq e0
       subst this
       obtain ⟨_,_,h3',p0,n0,c0,j0,k0,e1,e2,e3,e4⟩:=hF _ hf
       have b1:∀ c,(Instr.sliceBound (.int j0 (Int.ofNat k0)) c0 c).run E.P w = .ok k0 w:=by
        intro c
        unfold Instr.sliceBound
        simp [asIntOf]
        omega
       have b2:∀ j c,(Instr.sliceBound (.int j 0) k0 c).run E.P w = .ok 0 w:=by
        intro j c
        unfold Instr.sliceBound
        simp [asIntOf]
       refine ⟨?_,h3'⟩
       unfold Instr.slice
       rw [Sem.run_bind,run_under hE hd]
       rcases isZ_eq hz with rfl | ⟨j,rfl⟩
       ·simp only [e1,e2,Option.map_some,Option.map_none,Option.isSome_none,Bool.false_eq_true,if_false,if_true,Instr.sliceBounds,Sem.run_bind,Sem.run_pure,Result.andThen_ok,b1,run_size hE hsz,e4]
        split<;>cases p0<;>simp [Addr.add]
       ·simp only [e1,e2,conc,Option.map_some,Option.map_none,Option.isSome_none,Bool.false_eq_true,if_false,if_true,Instr.sliceBounds,Sem.run_bind,Sem.run_pure,Result.andThen_ok,b1,b2,run_size hE hsz,e4]
        split<;>cases p0<;>simp [Addr.add]
    | some p=>
    rw [hos,obind_some]at h
    have hQ:=h
    have:=asOsl_eq hos
    subst this
    unfold Instr.slice
    rw [Sem.run_bind,run_under hE hd]
    obtain ⟨hw1,hw2,str0,hs1,hs2⟩:=hx
    obtain ⟨hz,hQ⟩:=ifB_some hQ
    cases mx with
    | none=>
     rw [obind_none]at hQ
     cases hi with
     | some _=>cases hQ
     | none=>
      cases hQ
      have key:(inBle (none:Option AVal) (β.ext p.1) (β.ext p.1) fun m=>inBle (none:Option AVal) str0.size m fun h=>inBle lo 0 h fun l=>some (m,h,l))=some (β.ext p.1,str0.size,0):=by
       rcases isZ_eq hz with rfl | ⟨k,rfl⟩<;>rfl
      obtain ⟨m,hh,l,e1,e2,e3,e4,e5,e6⟩:=run_bounds (P:=E.P) (w:=w) (β:=β) (isSlice:=true) (len:=str0.size) (cap:=β.ext p.1) (cap':=β.ext p.1) (f:=fun m h l=>some (m,h,l)) ho (Nat.le_refl _) hs2 key
      cases e1
      refine ⟨?_,hw1,hw2,str0,hs1,hs2⟩
      simp only [conc,hs1,sOf,Result.andThen_ok,Sem.run_bind,e5,run_size hE hsz,Sem.run_pure,Option.isSome_none,Bool.false_eq_true,if_false,Option.map_some,Inj.addr_add]
      split<;>simp
    | some mx=>
     rw [obind_some]at hQ
     cases hi with
     | none=>cases hQ
     | some hi=>
      rw [obind_some]at hQ
      obtain ⟨hz2,hQ⟩:=ifB_some hQ
      cases hQ
      rw [band_eq,Bool.and_eq_true]at hz2
      obtain ⟨hm,hh⟩:=hz2
      rcases isZ_eq hm with hm | ⟨k1,hm⟩
      ·cases hm
      ·cases hm
       rcases isZ_eq hh with hh | ⟨k2,hh⟩
       ·cases hh
       ·cases hh
        have key:(inBle (some (AVal.int k1 0)) (β.ext p.1) (β.ext p.1) fun m=>inBle (some (AVal.int k2 0)) str0.size m fun h=>inBle lo 0 h fun l=>some (m,h,l))=some (0,0,0):=by
         rcases isZ_eq hz with rfl | ⟨k,rfl⟩<;>rfl
        obtain ⟨m,hh,l,e1,e2,e3,e4,e5,e6⟩:=run_bounds (P:=E.P) (w:=w) (β:=β) (isSlice:=true) (len:=str0.size) (cap:=β.ext p.1) (cap':=β.ext p.1) (f:=fun m h l=>some (m,h,l)) ho (Nat.le_refl _) hs2 key
        cases e1
        refine ⟨?_,hw1,Nat.le_refl _⟩
        simp only [conc,hs1,sOf,Result.andThen_ok,Sem.run_bind,e5,run_size hE hsz,Sem.run_pure,Option.isSome_some,if_true]
   | true=>
    rw [h3,ifB_true]at h
    have h':=h
    clear h
    have:=isNilSl_eq h3
    subst this
    unfold Instr.slice
    rw [Sem.run_bind,run_under hE hd]
    obtain ⟨m,hh,l,e1,e2,e3,e4,e5,e6⟩:=run_bounds (P:=E.P) (w:=w) (β:=β) (isSlice:=true) (len:=0) (cap:=0) (cap':=0) (f:=fun _ _ _=>some AVal.nilslice) ho (Nat.le_refl _) (Nat.le_refl _)
     (show sliceNil lo hi mx=some v from h')
    cases e1
    refine ⟨?_,trivial⟩
    have hm:m=0:=by omega
    simp only [conc,Result.andThen_ok,Sem.run_bind,e5,run_size hE hsz,Sem.run_pure]
    have h0:hh=0:=by omega
    have l0:l=0:=by omega
    subst h0 l0
    cases mx<;>simp [hm]
 | none=>
  rw [h1,obind_none]at h
  cases h2:dArray d with
  | some q=>
   have:=dArray_eq h2
   subst this
   rw [h2,obind_some]at h
   obtain ⟨sz,hsz,h⟩:=bnd_eq h
   obtain ⟨p,hp,h⟩:=bnd_eq h
   have:=asPtr_eq hp
   subst this
   obtain ⟨m,hh,l,e1,e2,e3,e4,e5,e6⟩:=run_bounds (P:=E.P) (w:=w) (β:=β) (isSlice:=false) (cap':=q.1) (f:=fun m h l=>mkSl p.1 p.2 h l m sz true) ho (Nat.le_refl _) (Nat.le_refl _) h
   simp only [conc,Result.andThen_ok,Sem.run_bind,Instr.sureAddr,e5,run_size hE hsz,Sem.run_pure]
   have hm:(if mx.isSome=true then m else q.1)=m:=by
    cases mx with
    | none=>simp [e6 rfl]
    | some _=>simp
   rw [hm]
   rcases mkSl_eq e1 with ⟨g1,g2,rfl⟩ | ⟨g1,g2,rfl⟩ | ⟨g1,rfl⟩
   ·exact ⟨by simp [conc,g1],⟨hx,by omega⟩⟩
   ·cases g2
   ·exact ⟨by simp [conc,g1,Inj.addr_add],⟨hx,by omega⟩⟩
  | none=>
   rw [h2,obind_none]at h
   obtain ⟨h3,h⟩:=ifB_some h
   have:=dString_eq h3
   subst this
   cases hs:asStr x with
   | none=>
    rw [hs,obind_none]at h
    have:=symSub_sound (w:=w) hE hF hd h
    unfold Gives Instr.sliceAt at this
    rw [Sem.run_bind,run_under hE hd]at this
    exact this
   | some s=>
   rw [hs,obind_some]at h
   have h':=h
   clear h
   have:=asStr_eq hs
   subst this
   simp only [Result.andThen_ok]
   unfold Instr.slice
   rw [Sem.run_bind,run_under hE hd]
   cases mx with
   | some mx=>cases h'
   | none=>
    have h:(inBle hi (lenA s 0) (lenA s 0) fun h=>inBle lo 0 h fun l=>some (AVal.str (dropA l (takeA h s))))=some v:=h'
    obtain ⟨m,hh,l,e1,e2,e3,e4,e5,e6⟩:=run_bounds (P:=E.P) (w:=w) (β:=β) (isSlice:=false) (len:=s.length) (cap:=s.length) (cap':=s.length) (mx:=none) (lo:=lo) (hi:=hi)
     (f:=fun _ h l=>some (AVal.str (dropA l (takeA h s)))) (r:=v) ho (Nat.le_refl _) (Nat.le_refl _) (by rw [lenA0]at h;exact h)
    cases e1
    have e7:(str s).extract l hh=str ((s.take hh).drop l):=by
     apply ByteArray.ext
     apply Array.toList_inj.1
     simp [str,List.drop_take,List.extract_eq_take_drop]
    simp only [conc,Result.andThen_ok,Option.map_none,Option.isSome_none,Bool.false_eq_true,if_false,str_size]at e5 ⊢
    refine ⟨?_,fun b hb=>?_⟩
    ·rw [Sem.run_bind,e5]
     simp [e7]
    ·rw [dropA_eq,takeA_eq]at hb
     exact hx b (List.mem_of_mem_take (List.mem_of_mem_drop hb))
end
end
section
variable [Unk]
theorem natC_some {α:Type}{n:Nat}{s:Nat→Option α}{a:α} (h:natC n none s=some a):∃ m,n=m+1∧s m=some a:=by
 cases n with
 | zero=>cases h
 | succ m=>exact ⟨m,rfl,h⟩
theorem nneg_some {α:Type}{i:Int}{f:Nat→Option α}{a:α} (h:nneg i f=some a):∃ n,i = .ofNat n∧f n=some a:=by
 cases i with
 | ofNat n=>exact ⟨n,rfl,h⟩
 | negSucc n=>cases h
theorem inB_some {α:Type}{i:Int}{n:Nat}{f:Nat→Option α}{a:α} (h:inB i n f=some a):∃ m,i = .ofNat m∧m<n∧f m=some a:=by
 cases i with
 | ofNat m=>
  replace h:=ifB_some h
  obtain ⟨h1,h⟩:=h
  rw [nblt_eq,decide_eq_true_eq]at h1
  exact ⟨m,rfl,h1,h⟩
 | negSucc m=>cases h
section
variable {E:Env} (hE:EnvOk E)
include hE
theorem fieldOf_sound {β:Inj}{w:World}{s:TypeId}{x v:AVal}{i:Nat}{d:TypeDesc}{fs:List Field}{fl:Field}{p:Nat×Nat}
  (hd:E.desc s=some d) (hs:dStruct d=some fs) (hf:nthA i fs=some fl) (hp:asPtr x=some p) (h:fieldOf E p.1 p.2 fl=some v) (hx:WF β x) :
  Gives E.P β w (Instr.fieldAt s (conc β x) i) v:=by
 obtain ⟨fs',rfl,rfl⟩:=dStruct_eq hs
 have:=asPtr_eq hp
 subst this
 replace h:=bnd_eq h
 obtain ⟨n,hn,h⟩:=h
 replace h:=natC_some h
 obtain ⟨m,rfl,h⟩:=h
 cases h
 rw [nthA_eq,Array.getElem?_toList]at hf
 refine ⟨?_,hx⟩
 unfold Instr.fieldAt fieldPlace
 simp [run_under hE hd,hf,conc,Instr.sureAddr,run_size hE hn,Inj.addr_add]
theorem aindexAddr_sound {β:Inj} (hF:FactsOk E β) {w:World}{t:TypeId}{x ix v:AVal} (h:aindexAddr E t x ix=some v) (hx:WF β x) :
  Gives E.P β w (Instr.indexAt t (conc β x) (conc β ix)) v:=by
 replace h:=bnd_eq h
 obtain ⟨i,hi,h⟩:=h
 obtain ⟨k,rfl⟩:=asIdx_eq hi
 replace h:=bnd_eq h
 obtain ⟨d,hd,h⟩:=h
 cases h1:dSlice d with
 | some e=>
  have:=dSlice_eq h1
  subst this
  rw [h1,obind_some]at h
  replace h:=bnd_eq h
  obtain ⟨s,hs,h⟩:=h
  cases hq:asSl x with
  | some q=>
   rw [hq,obind_some]at h
   have:=asSl_eq hq
   subst this
   replace h:=inB_some h
   obtain ⟨m,rfl,hm,h⟩:=h
   cases h
   refine ⟨?_,hx.1⟩
   unfold Instr.indexAt
   simp [run_under hE hd,conc,asIntOf,run_size hE hs,Inj.addr_add,hm]
  | none=>
   rw [hq,obind_none]at h
   obtain ⟨p,hp,h⟩:=bnd_eq h
   have:=asPsl_eq hp
   subst this
   obtain ⟨w1,w2,N,w3,w4⟩:=hx
   obtain ⟨m,hi0,hQ⟩:=nneg_some h
   subst hi0
   obtain ⟨n,hn,hQ⟩:=bnd_eq hQ
   obtain ⟨hm,hQ⟩:=ifB_some hQ
   rw [nblt_eq,decide_eq_true_eq]at hm
   cases hQ
   obtain ⟨k1,N1,k2,k3,k4⟩:=mNum_sound hF hn
   have eN:symVal ((β p.q).getD (0,0,0)) = .int .i64 (N1:Int):=k2
   rw [w3]at eN
   have h1:N=N1:=by injection eN with _ e;omega
   subst h1
   have hlt:m<N:=by omega
   refine ⟨?_,w1⟩
   unfold Instr.indexAt
   simp [run_under hE hd,conc,asIntOf,run_size hE hs,Inj.addr_add,w3,natOf,hlt]
 | none=>
  rw [h1,obind_none]at h
  replace h:=bnd_eq h
  obtain ⟨q,hq,h⟩:=h
  have:=dArray_eq hq
  subst this
  replace h:=bnd_eq h
  obtain ⟨p,hp,h⟩:=h
  have:=asPtr_eq hp
  subst this
  replace h:=bnd_eq h
  obtain ⟨s,hs,h⟩:=h
  replace h:=inB_some h
  obtain ⟨m,rfl,hm,h⟩:=h
  cases h
  refine ⟨?_,hx⟩
  unfold Instr.indexAt
  simp [run_under hE hd,conc,asIntOf,Instr.sureAddr,run_size hE hs,Inj.addr_add,hm]
theorem symIndex_sound {β:Inj} (hF:FactsOk E β) {w:World}{t:TypeId}{x ix v:AVal} (h:symIndex E t x ix=some v) :
  Gives E.P β w (Instr.index t (conc β x) (conc β ix)) v:=by
 replace h:=bnd_eq h
 obtain ⟨i,hi,h⟩:=h
 obtain ⟨k,rfl⟩:=asIdx_eq hi
 replace h:=bnd_eq h
 obtain ⟨d,hd,h⟩:=h
 replace h:=ifB_some h
 obtain ⟨h2,h⟩:=h
 have:=dString_eq h2
 subst this
 replace h:=nneg_some h
 obtain ⟨n,rfl,h⟩:=h
 obtain ⟨f,hf,e⟩:=findF_eq h
 have:=mAt_eq e
 subst this
 obtain ⟨h1,h2,s,b,e1,e2,e3⟩:=hF _ hf
 refine ⟨?_,h2⟩
 have e4:s[n]? = some b:=by
  have hlt:=(Array.getElem?_eq_some_iff.1 e2).1
  rw [getElem?_pos s n hlt]
  congr 1
  exact (Array.getElem?_eq_some_iff.1 e2).2
 unfold Instr.index
 simp [run_under hE hd,conc,asIntOf,e1,e3,e4]
theorem aindex_sound {β:Inj}{w:World}{t:TypeId}{x ix v:AVal} (h:aindex E t x ix=some v) (hx:WF β x) :
  Gives E.P β w (Instr.index t (conc β x) (conc β ix)) v:=by
 replace h:=bnd_eq h
 obtain ⟨i,hi,h⟩:=h
 obtain ⟨k,rfl⟩:=asIdx_eq hi
 cases h1:asStr x with
 | some s=>
  have:=asStr_eq h1
  subst this
  rw [h1,obind_some]at h
  replace h:=bnd_eq h
  obtain ⟨d,hd,h⟩:=h
  replace h:=ifB_some h
  obtain ⟨h2,h⟩:=h
  have:=dString_eq h2
  subst this
  replace h:=nneg_some h
  obtain ⟨n,rfl,h⟩:=h
  replace h:=bnd_eq h
  obtain ⟨b,hb,h⟩:=h
  cases h
  rw [nthA_eq]at hb
  have hb':b<256:=hx b (List.mem_of_getElem? hb)
  refine ⟨?_,trivial⟩
  unfold Instr.index
  have e:(str s)[n]? = some (UInt8.ofNat b):=by
   have hlt:=(List.getElem?_eq_some_iff.1 hb).1
   rw [getElem?_pos (str s) n (by rw [str_size];exact hlt)]
   congr 1
   have:(str s)[n]'(by rw [str_size];exact hlt)=UInt8.ofNat (s[n]'hlt):=by
    show (str s).data[n]'_=_
    simp [str]
   rw [this,(List.getElem?_eq_some_iff.1 hb).2]
  simp [run_under hE hd,conc,asIntOf,e,u8]
  omega
 | none=>
  rw [h1,obind_none]at h
  replace h:=bnd_eq h
  obtain ⟨d,hd,h⟩:=h
  replace h:=bnd_eq h
  obtain ⟨q,hq,h⟩:=h
  have:=dArray_eq hq
  subst this
  replace h:=bnd_eq h
  obtain ⟨cs,hc,h⟩:=h
  have:=asAgg_eq hc
  subst this
  replace h:=bnd_eq h
  obtain ⟨s,hs,h⟩:=h
  replace h:=inB_some h
  obtain ⟨m,rfl,hm,h⟩:=h
  obtain ⟨g1,g2⟩:=run_apart hE h hx w
  refine ⟨?_,g2⟩
  have g1:(part q.2 (concs β cs).toArray (m*s)).run E.P w = .ok (conc β v) w:=g1
  unfold Instr.index
  simp [run_under hE hd,conc,asIntOf,run_size hE hs,hm,g1]
theorem afield_sound {β:Inj}{w:World}{t:TypeId}{x v:AVal}{i:Nat}{d:TypeDesc}{fs:List Field}{fl:Field}{cs:List AVal}
  (hd:E.desc t=some d) (hs:dStruct d=some fs) (hf:nthA i fs=some fl) (hp:asAgg x=some cs) (h:E.apart fl.type cs fl.offset=some v) (hx:WF β x) :
  Gives E.P β w (Instr.field t (conc β x) i) v:=by
 obtain ⟨fs',rfl,rfl⟩:=dStruct_eq hs
 have:=asAgg_eq hp
 subst this
 rw [nthA_eq,Array.getElem?_toList]at hf
 obtain ⟨g1,g2⟩:=run_apart hE h hx w
 refine ⟨?_,g2⟩
 unfold Instr.field
 simp [run_under hE hd,hf,conc,Go.asAgg,g1]
omit hE in
theorem aextract_sound {P:Program}{β:Inj}{w:World}{x v:AVal}{i:Nat}{l:List AVal} (hp:asTuple x=some l) (h:nthA i l=some v) (hx:WF β x) :
  Gives P β w (Instr.extract (conc β x) i) v:=by
 have:=asTuple_eq hp
 subst this
 rw [nthA_eq]at h
 refine ⟨?_,(WFs_iff _ _).1 hx v (List.mem_of_getElem? h)⟩
 unfold Instr.extract
 simp [conc,concs_eq,h]
omit hE in
theorem aunary_sound {P:Program}{β:Inj}{w:World}{op:UnOp}{x v:AVal} (h:aunary op x=some v):Gives P β w (Op.unary op (conc β x)) v:=by
 cases op with
 | neg=>
  replace h:=bnd_eq h
  obtain ⟨p,hp,h⟩:=h
  have:=asInt_eq hp
  subst this
  cases h
  exact ⟨by simp [Op.unary,conc,Op.intArith,unNeg,awrap_eq,ineg_eq],by simp [unNeg,WF]⟩
 | xor=>
  replace h:=bnd_eq h
  obtain ⟨p,hp,h⟩:=h
  have:=asInt_eq hp
  subst this
  cases h
  obtain ⟨k,n⟩:=p
  refine ⟨?_,by simp [unXor,WF]⟩
  unfold unXor
  have hlt:Nat.xor (twos k n) (Nat.sub (full k) 1)<full k:=xor_lt k _ _ (twos_lt _ _) (by have:=full_pos k;show full k-1<full k;omega)
  rw [mkInt_eq,back_wrap _ _ hlt]
  have e:twos k (if k.signed then -1 else k.max)=full k-1:=by cases k<;>rfl
  simp only [Op.unary,conc,Op.intBits,Sem.run_pure,BitVec.toNat_xor,ofInt_toNat,e]
  rw [Nat.xor_comm];rfl
 | not=>
  replace h:=bnd_eq h
  obtain ⟨b,hb,h⟩:=h
  have:=asBool_eq hb
  subst this
  cases h
  cases b<;>exact ⟨rfl,trivial⟩
 | plus=>cases h
theorem alen_sound {β:Inj} (hF:FactsOk E β) {H:Heap}{w:World} (hR:Rel E.P β H w) {t:TypeId}{x v:AVal} (h:alen E H t x=some v) (hx:WF β x) (ts:Array TypeId) (ty:TypeId) (ht:ts[0]? = some t) (args:Array Value) (ha:args[0]? = some (conc β x)) :
  Gives E.P β w (Builtin.len_ ts ty args) v:=by
 replace h:=bnd_eq h
 obtain ⟨d,hd,h⟩:=h
 unfold Gives Builtin.len_
 simp only [ht,ha,Sem.run_bind,run_under hE hd,Result.andThen_ok]
 cases h1:dSlice d with
 | some e=>
  have:=dSlice_eq h1
  subst this
  rw [h1,obind_some]at h
  cases h2:asSl x with
  | some s=>
   have:=asSl_eq h2
   subst this
   rw [h2,obind_some]at h
   cases h
   exact ⟨by simp [conc,goInt],trivial⟩
  | none=>
   rw [h2,obind_none,ifB_eq]at h
   split at h
   ·rename_i h3
    have:=isNilSl_eq h3
    subst this
    cases h
    exact ⟨by simp [conc,goInt],trivial⟩
   ·rw [ifB_eq]at h
    split at h
    ·rename_i h3
     obtain ⟨b,o,q,rfl⟩:=isEsl_eq h3
     cases h
     exact ⟨by simp [conc,goInt],trivial⟩
    ·cases hp:asOsl x with
     | none=>
      rw [hp,obind_none]at h
      cases hp:asPsl x with
      | some p=>
       rw [hp,obind_some]at h
       have:=asPsl_eq hp
       subst this
       cases h
       obtain ⟨w1,w2,N,w3,w4⟩:=hx
       exact ⟨by simp [conc,w3,natOf,goInt],w2⟩
      | none=>
       rw [hp,obind_none]at h
       obtain ⟨f,hf,e0⟩:=findF_eq h
       have:=mSlen_eq e0
       subst this
       obtain ⟨_,h2',p0,n0,c0,e1,e2⟩:=hF _ hf
       exact ⟨by simp [e1,e2,goInt],h2'⟩
     | some p=>
     rw [hp,obind_some]at h
     have:=asOsl_eq hp
     subst this
     cases hs:asStr p.2 with
     | some s=>
      rw [hs,obind_some]at h
      have hps:=asStr_eq hs
      cases h
      refine ⟨?_,trivial⟩
      simp [conc,hps,sOf,goInt,str_size]
     | none=>
      rw [hs,obind_none]at h
      obtain ⟨f,hf,e⟩:=findF_eq h
      have:=mLen_eq e
      subst this
      obtain ⟨h1,h2,s,e1,e2⟩:=hF _ hf
      exact ⟨by simp [conc,e1,e2,sOf,goInt],h2⟩
 | none=>
  rw [h1,obind_none,ifB_eq]at h
  split at h
  ·rename_i h2
   have:=dString_eq h2
   subst this
   cases hs:asStr x with
   | some s=>
    rw [hs,obind_some]at h
    have:=asStr_eq hs
    subst this
    cases h
    exact ⟨by simp [conc,goInt,str_size],trivial⟩
   | none=>
    rw [hs,obind_none]at h
    obtain ⟨f,hf,e⟩:=findF_eq h
    have:=mLen_eq e
    subst this
    obtain ⟨h1,h2,s,e1,e2⟩:=hF _ hf
    exact ⟨by simp [e1,e2,goInt],h2⟩
  ·unfold lenX at h
   cases h3:dArray d with
   | some q=>
    have:=dArray_eq h3
    subst this
    rw [h3,obind_some]at h
    cases h
    exact ⟨by simp [conc,goInt],trivial⟩
   | none=>
    rw [h3,obind_none]at h
    cases h4:dMap d with
    | some q=>
     have:=dMap_eq h4
     subst this
     rw [h4,obind_some,ifB_eq]at h
     split at h
     ·rename_i h5
      have:=isNilMap_eq h5
      subst this
      cases h
      exact ⟨by simp [conc,goInt],trivial⟩
     ·replace h:=bnd_eq h
      obtain ⟨r,hr,h⟩:=h
      have:=asMap_eq hr
      subst this
      replace h:=bnd_eq h
      obtain ⟨b,hb,h⟩:=h
      replace h:=bnd_eq h
      obtain ⟨m,hm,h⟩:=h
      cases h
      cases b<;>cases hm
      obtain ⟨y,hy⟩:=Option.isSome_iff_exists.1 hx
      obtain ⟨arr,g1,g2,g3⟩:=hR.blk _ _ _ hb hy
      refine ⟨?_,trivial⟩
      have e:β.blk r=y.1:=by simp [Inj.blk,hy]
      simp [conc,getObj,Sem.run,e,g1,goInt,← Array.length_toList,g2]
    | none=>
     rw [h4,obind_none]at h
     replace h:=bnd_eq h
     obtain ⟨a,ha',h⟩:=h
     have:=dPtr_eq ha'
     subst this
     replace h:=bnd_eq h
     obtain ⟨d',hd',h⟩:=h
     replace h:=bnd_eq h
     obtain ⟨q,hq,h⟩:=h
     have:=dArray_eq hq
     subst this
     cases h
     exact ⟨by simp [conc,goInt,run_under hE hd'],trivial⟩
theorem acap_sound {β:Inj}{w:World}{t:TypeId}{x v:AVal} (h:acap E t x=some v) (hx:WF β x) (ts:Array TypeId) (ty:TypeId) (ht:ts[0]? = some t) (args:Array Value) (ha:args[0]? = some (conc β x)) :
  Gives E.P β w (Builtin.cap_ ts ty args) v:=by
 replace h:=bnd_eq h
 obtain ⟨d,hd,h⟩:=h
 replace h:=bnd_eq h
 obtain ⟨e,he,h⟩:=h
 have:=dSlice_eq he
 subst this
 unfold Gives Builtin.cap_
 simp only [ht,ha,Sem.run_bind,run_under hE hd,Result.andThen_ok]
 cases h2:asSl x with
 | some s=>
  have:=asSl_eq h2
  subst this
  rw [h2,obind_some]at h
  cases h
  cases hs:s.ex
  ·exact ⟨by simp [conc,goInt],hx.1⟩
  ·exact ⟨by simp [conc,goInt],trivial⟩
 | none=>
  rw [h2,obind_none]at h
  replace h:=ifB_some h
  obtain ⟨h3,h⟩:=h
  have:=isNilSl_eq h3
  subst this
  cases h
  exact ⟨by simp [conc,goInt],trivial⟩
omit hE in
theorem amin_sound {P:Program}{β:Inj}{w:World}:∀ (l:List AVal) (x v:AVal),amin l x=some v→WF β x→WFs β l→Gives P β w ((concs β l).foldlM Builtin.min2 (conc β x)) v:=by
 intro l
 induction l with
 | nil=>intro x v h hx _;cases h;exact ⟨by simp [concs],hx⟩
 | cons b l ih=>
  intro x v h hx hl
  replace h:=bnd_eq h
  obtain ⟨p,hp,h⟩:=h
  replace h:=bnd_eq h
  obtain ⟨q,hq,h⟩:=h
  have:=asInt_eq hp
  subst this
  have:=asInt_eq hq
  subst this
  obtain ⟨g1,g2⟩:=ih _ _ h trivial hl.2
  refine ⟨?_,g2⟩
  simp only [concs,List.foldlM_cons,Sem.run_bind]
  have:(Builtin.min2 (conc β (.int p.1 p.2)) (conc β (.int q.1 q.2))).run P w = .ok (conc β (.int p.1 (ifB (ilt q.2 p.2) q.2 p.2))) w:=by
   simp [Builtin.min2,conc,ifB_eq,ilt_eq]
  rw [this];exact g1
omit hE in
theorem amax_sound {P:Program}{β:Inj}{w:World}:∀ (l:List AVal) (x v:AVal),amax l x=some v→WF β x→WFs β l→Gives P β w ((concs β l).foldlM Builtin.max2 (conc β x)) v:=by
 intro l
 induction l with
 | nil=>intro x v h hx _;cases h;exact ⟨by simp [concs],hx⟩
 | cons b l ih=>
  intro x v h hx hl
  replace h:=bnd_eq h
  obtain ⟨p,hp,h⟩:=h
  replace h:=bnd_eq h
  obtain ⟨q,hq,h⟩:=h
  have:=asInt_eq hp
  subst this
  have:=asInt_eq hq
  subst this
  obtain ⟨g1,g2⟩:=ih _ _ h trivial hl.2
  refine ⟨?_,g2⟩
  simp only [concs,List.foldlM_cons,Sem.run_bind]
  have:(Builtin.max2 (conc β (.int p.1 p.2)) (conc β (.int q.1 q.2))).run P w = .ok (conc β (.int p.1 (ifB (ilt p.2 q.2) q.2 p.2))) w:=by
   simp [Builtin.max2,conc,ifB_eq,ilt_eq]
  rw [this];exact g1
end
end
section
variable [Unk]
theorem sbytes_str (s:ByteArray):str (sbytes s)=s:=by
 apply ByteArray.ext
 apply Array.toList_inj.1
 have e:(UInt8.ofNat ∘ UInt8.toNat)=id:=funext fun x=>by simp
 simp [str,sbytes,e]
theorem sbytes_lt (s:ByteArray):∀ b∈sbytes s,b<256:=by
 intro b hb
 simp only [sbytes,mapA_eq,List.mem_map]at hb
 obtain ⟨x,_,rfl⟩:=hb
 exact x.toNat_lt
theorem ofV_sound (β:Inj):∀ n,(∀ v a,ofV n v=some a→conc β a=v∧WF β a)∧(∀ l m,ofVs n l=some m→concs β m=l∧WFs β m):=by
 intro n
 induction n with
 | zero=>exact ⟨fun v a h=>by simp [ofV]at h,fun l m h=>by simp [ofVs]at h⟩
 | succ n ih=>
  refine ⟨fun v a h=>?_,fun l m h=>?_⟩
  ·cases v with
   | bool b=>simp only [ofV]at h;cases h;exact ⟨rfl,trivial⟩
   | int k n=>simp only [ofV]at h;cases h;exact ⟨rfl,trivial⟩
   | string s=>simp only [ofV]at h;cases h;exact ⟨by rw [conc,sbytes_str],sbytes_lt _⟩
   | pointer p=>cases p<;>simp only [ofV]at h<;>cases h;exact ⟨rfl,trivial⟩
   | slice p l c=>
    cases p with
    | some p=>simp only [ofV]at h;cases h
    | none=>
     cases l with
     | succ l=>simp only [ofV]at h;cases h
     | zero=>
      cases c with
      | succ c=>simp only [ofV]at h;cases h
      | zero=>simp only [ofV]at h;cases h;exact ⟨rfl,trivial⟩
   | map r=>cases r<;>simp only [ofV]at h<;>cases h;exact ⟨rfl,trivial⟩
   | nilFunc=>simp only [ofV]at h;cases h;exact ⟨rfl,trivial⟩
   | nilIface=>simp only [ofV]at h;cases h;exact ⟨rfl,trivial⟩
   | agg cs=>
    simp only [ofV]at h
    replace h:=bnd_eq h
    obtain ⟨l,hl,h⟩:=h
    cases h
    obtain ⟨g1,g2⟩:=ih.2 _ _ hl
    exact ⟨by rw [conc,g1],g2⟩
   | tuple cs=>
    simp only [ofV]at h
    replace h:=bnd_eq h
    obtain ⟨l,hl,h⟩:=h
    cases h
    obtain ⟨g1,g2⟩:=ih.2 _ _ hl
    exact ⟨by rw [conc,g1],g2⟩
   | _=>simp only [ofV]at h;cases h
  ·cases l with
   | nil=>simp only [ofVs]at h;cases h;exact ⟨rfl,trivial⟩
   | cons v l=>
    simp only [ofVs]at h
    obtain ⟨a,ha,h⟩:=bnd_eq h
    obtain ⟨m',hm,h⟩:=bnd_eq h
    cases h
    obtain ⟨g1,g2⟩:=ih.1 _ _ ha
    obtain ⟨g3,g4⟩:=ih.2 _ _ hm
    exact ⟨by rw [concs,g1,g3],g2,g4⟩
section
variable {E:Env} (hE:EnvOk E)
include hE
theorem run_zero {t:TypeId}{z:AVal} (h:E.zero t=some z) (β:Inj) (w:World):(zeroValue t).run E.P w = .ok (conc β z) w∧WF β z:=by
 replace h:=bnd_eq h
 obtain ⟨i,hi,h⟩:=h
 replace h:=bnd_eq h
 obtain ⟨v,hv,h⟩:=h
 obtain ⟨g1,g2⟩:=(ofV_sound β _).1 _ _ h
 refine ⟨?_,g2⟩
 unfold zeroValue
 rw [Sem.run_bind,run_info hE hi]
 simp [hv,g1]
end
theorem overA_length:∀ (n:Nat) (m l:List AVal),(overA n m l).length=l.length:=by
 have zero:∀ (m l:List AVal),(overA 0 m l).length=l.length:=by
  intro m
  induction m with
  | nil=>intro l;rfl
  | cons a m ih=>
   intro l
   cases l with
   | nil=>rfl
   | cons b l=>
    have e:overA 0 (a::m) (b::l)=a::overA 0 m l:=rfl
    rw [e];simp [ih]
 intro n
 induction n with
 | zero=>exact zero
 | succ n ih=>
  intro m l
  cases l with
  | nil=>rfl
  | cons b l=>
   have e:overA (n+1) m (b::l)=b::overA n m l:=rfl
   rw [e];simp [ih]
theorem overA_get:∀ (n:Nat) (m l:List AVal) (k:Nat),n+m.length≤l.length→(overA n m l)[k]? = if n≤k∧k<n+m.length then m[k-n]? else l[k]?:=by
 have zero:∀ (m l:List AVal) (k:Nat),m.length≤l.length→(overA 0 m l)[k]? = if k<m.length then m[k]? else l[k]?:=by
  intro m
  induction m with
  | nil=>intro l k _;rw [if_neg (by simp)];rfl
  | cons a m ih=>
   intro l k h
   cases l with
   | nil=>simp at h
   | cons b l=>
    have e:overA 0 (a::m) (b::l)=a::overA 0 m l:=rfl
    rw [e]
    cases k with
    | zero=>simp
    | succ k=>simp only [List.getElem?_cons_succ,List.length_cons,Nat.add_lt_add_iff_right];exact ih l k (by simpa using h)
 intro n
 induction n with
 | zero=>intro m l k h;rw [zero m l k (by omega)];simp
 | succ n ih=>
  intro m l k h
  cases l with
  | nil=>simp at h
  | cons b l=>
   have e:overA (n+1) m (b::l)=b::overA n m l:=rfl
   rw [e]
   cases k with
   | zero=>rw [if_neg (by omega)];rfl
   | succ k=>
    simp only [List.length_cons]at h
    rw [List.getElem?_cons_succ,ih m l k (by omega)]
    by_cases hk:n≤k∧k<n+m.length
    ·rw [if_pos hk,if_pos (by omega)];congr 1;omega
    ·rw [if_neg hk,if_neg (by omega)];rfl
theorem foldSet (off:Nat):∀ (vs:List Value) (i:Nat) (arr:Array Value),off+i+vs.length≤arr.size →
  ((vs.zipIdx i).foldl (fun cs x=>cs.setIfInBounds (off+x.2) x.1) arr).size=arr.size ∧
  ∀ k,((vs.zipIdx i).foldl (fun cs x=>cs.setIfInBounds (off+x.2) x.1) arr)[k]? = if off+i≤k∧k<off+i+vs.length then vs[k-(off+i)]? else arr[k]?:=by
 intro vs
 induction vs with
 | nil=>intro i arr _;exact ⟨rfl,fun k=>by rw [if_neg (by simp)];rfl⟩
 | cons v vs ih=>
  intro i arr h
  simp only [List.length_cons]at h
  obtain ⟨h1,h2⟩:=ih (i+1) (arr.setIfInBounds (off+i) v) (by simp;omega)
  rw [List.zipIdx_cons,List.foldl_cons]
  refine ⟨by rw [h1];simp,fun k=>?_⟩
  rw [h2 k]
  by_cases hk:off+(i+1)≤k∧k<off+(i+1)+vs.length
  ·rw [if_pos hk,if_pos (by simp;omega)]
   have:k-(off+i)=(k-(off+(i+1)))+1:=by omega
   rw [this,List.getElem?_cons_succ]
  ·rw [if_neg hk,Array.getElem?_setIfInBounds]
   by_cases hk':off+i=k
   ·subst hk'
    simp only [if_true]
    rw [if_pos (by omega),if_pos (by simp)]
    simp
   ·rw [if_neg hk',if_neg (by simp;omega)]
theorem fill_sound {β : Inj} (place : Nat → Option (Nat × Nat)) : ∀ (ps : List (Nat × AVal)) (cs l : List AVal), fillA place cs.length ps cs = some l → (∀ p ∈ ps, WF β p.2) → WFs β cs →
    Instr.fill place (concs β cs).toArray (ps.map fun p => (p.1, conc β p.2)) = some (concs β l).toArray ∧ WFs β l ∧ l.length = cs.length := by
  intro ps
  induction ps with
  | nil => intro cs l h _ hw; cases h; exact ⟨rfl, hw, rfl⟩
  | cons p ps ih =>
    intro cs l h hp hw
    replace h := bnd_eq h
    obtain ⟨q, hq, h⟩ := h
    replace h := ifB_some h
    obtain ⟨h1, h⟩ := h
    rw [band_eq, Bool.and_eq_true, nbeq_eq, beq_iff_eq, lenA0, nble_eq, decide_eq_true_eq] at h1
    obtain ⟨h2, h3⟩ := h1
    have h3 : q.1 + q.2 ≤ cs.length := h3
    have hw' : WFs β (overA q.1 (acells p.2) cs) := by
      rw [WFs_iff]
      intro v hv
      obtain ⟨k, hk⟩ := List.mem_iff_getElem?.1 hv
      rw [overA_get _ _ _ _ (by omega)] at hk
      split at hk
      · have hc : WFs β (acells p.2) := by
          have := hp p (by simp)
          cases h : p.2 <;> rw [h] at this <;> first | exact this | exact ⟨this, trivial⟩
        exact (WFs_iff _ _).1 hc v (List.mem_of_getElem? hk)
      · exact (WFs_iff _ _).1 hw v (List.mem_of_getElem? hk)
    have hl := overA_length q.1 (acells p.2) cs
    rw [← hl] at h
    obtain ⟨g1, g2, g3⟩ := ih _ _ h (fun p hp' => hp p (by simp [hp'])) hw'
    refine ⟨?_, g2, by rw [g3, hl]⟩
    rw [List.map_cons]
    unfold Instr.fill
    have hpl : place (p.1, conc β p.2).1 = some q := hq
    simp only
    rw [hpl]
    obtain ⟨q1, q2⟩ := q
    simp only at h2 h3 g1 ⊢
    have hcs : (conc β p.2).cells = (concs β (acells p.2)).toArray := conc_cells β p.2
    have hsz : (conc β p.2).cells.size = q2 := by rw [hcs, concs_eq]; simpa using h2
    rw [if_neg (by rw [hsz]; simp [concs_eq]; omega)]
    rw [← g1]
    congr 1
    apply Array.toList_inj.1
    apply List.ext_getElem?
    intro k
    obtain ⟨f1, f2⟩ := foldSet q1 (concs β (acells p.2)) 0 (concs β cs).toArray (by simp [concs_eq]; omega)
    have e : (conc β p.2).cells.zipIdx.foldl (fun cs x => cs.setIfInBounds (q1 + x.2) x.1) (concs β cs).toArray =
        ((concs β (acells p.2)).zipIdx 0).foldl (fun cs x => cs.setIfInBounds (q1 + x.2) x.1) (concs β cs).toArray := by
      rw [hcs, ← Array.foldl_toList]; simp
    have e' := congrArg (fun a : Array Value => a.toList[k]?) e
    simp only [Array.getElem?_toList] at e' f2 ⊢
    refine Eq.trans e' ?_
    rw [f2 k, concs_eq, concs_eq, concs_eq]
    simp only [List.getElem?_toArray, List.getElem?_map, List.length_map, Nat.add_zero]
    rw [overA_get _ _ _ _ (by omega)]
    split <;> rfl
theorem evParts_eq {T:Tr AVal}{β:Inj}{ρ:Operand→Value}:∀ (l:List (Nat×Operand)) (ps:List (Nat×AVal)),evParts T l=some ps →
  (∀ x∈l.map (·.2),∀ v,ev T x=some v→ρ x=conc β v∧WF β v)→l.map (fun x=>(x.1,ρ x.2))=ps.map (fun p=>(p.1,conc β p.2))∧∀ p∈ps,WF β p.2:=by
 intro l
 induction l with
 | nil=>intro ps h _;cases h;exact ⟨rfl,by simp⟩
 | cons x l ih=>
  intro ps h hρ
  replace h:=bnd_eq h
  obtain ⟨a,ha,h⟩:=h
  replace h:=bnd_eq h
  obtain ⟨m,hm,h⟩:=h
  cases h
  obtain ⟨g1,g2⟩:=hρ x.2 (by simp) a ha
  obtain ⟨g3,g4⟩:=ih m hm fun y hy=>hρ y (by simp only [List.map_cons,List.mem_cons];exact .inr hy)
  refine ⟨by simp [g1,g3],fun p hp=>?_⟩
  rcases List.mem_cons.1 hp with rfl | hp
  ·exact g2
  ·exact g4 p hp
theorem evs_eq {T:Tr AVal}{β:Inj}{ρ:Operand→Value}:∀ (l:List Operand) (vs:List AVal),evs T l=some vs →
  (∀ x∈l,∀ v,ev T x=some v→ρ x=conc β v∧WF β v)→l.map ρ=concs β vs∧WFs β vs:=by
 intro l
 induction l with
 | nil=>intro vs h _;cases h;exact ⟨rfl,trivial⟩
 | cons x l ih=>
  intro vs h hρ
  replace h:=bnd_eq h
  obtain ⟨a,ha,h⟩:=h
  replace h:=bnd_eq h
  obtain ⟨m,hm,h⟩:=h
  cases h
  obtain ⟨g1,g2⟩:=hρ x (by simp) a ha
  obtain ⟨g3,g4⟩:=ih m hm fun y hy=>hρ y (by simp [hy])
  exact ⟨by simp [g1,g3,concs],g2,g4⟩
theorem WFs_acells {β:Inj}{v:AVal} (h:WF β v):WFs β (acells v):=by
 cases v<;>first | exact h | exact ⟨h,trivial⟩
theorem rep_get (z:List AVal) (s:Nat) (hz:z.length=s):∀ (n k:Nat),k<n*s→(repA z n)[k]? = z[k % s]?:=by
 intro n
 induction n with
 | zero=>intro k h;omega
 | succ n ih=>
  intro k h
  have e:repA z (n+1)=z++repA z n:=by
   show appA z (repA z n)=_;rw [appA_eq]
  rw [e,List.getElem?_append]
  by_cases hk:k<s
  ·rw [if_pos (by omega),Nat.mod_eq_of_lt hk]
  ·have hs:0<s:=by
    rcases Nat.eq_zero_or_pos s with h0 | h0
    ·subst h0;simp at h
    ·exact h0
   rw [Nat.succ_mul]at h
   rw [if_neg (by omega),hz,ih (k-s) (by omega)]
   congr 1
   conv=>rhs;rw [Nat.mod_eq_sub_mod (by omega)]
theorem rep_length (z:List AVal) (s:Nat) (hz:z.length=s) (n:Nat):(repA z n).length=n*s:=by
 rw [repA_eq]
 induction n with
 | zero=>simp
 | succ n ih=>rw [List.replicate_succ,List.flatten_cons,List.length_append,ih,hz,Nat.succ_mul];omega
theorem rep_WF {β:Inj}{z:List AVal} (h:WFs β z) (n:Nat):WFs β (repA z n):=by
 rw [repA_eq,WFs_iff]
 intro v hv
 obtain ⟨l,hl,hv⟩:=List.mem_flatten.1 hv
 rw [(List.mem_replicate.1 hl).2]at hv
 exact (WFs_iff _ _).1 h v hv
theorem rep_sound {β:Inj} (z:List AVal) (s n:Nat) (hz:z.length=s) (zv:Array Value) (hv:n*s≠0→zv=(concs β z).toArray) :
  (Array.range (n*s)).map (fun i=>zv[i % zv.size]!)=(concs β (repA z n)).toArray:=by
 apply Array.toList_inj.1
 apply List.ext_getElem?
 intro k
 rw [concs_eq]
 simp only [Array.toList_map,Array.toList_range,List.getElem?_map]
 by_cases hk:k<n*s
 ·have e:=hv (by omega)
  subst e
  have hs:0<s:=by
   rcases Nat.eq_zero_or_pos s with h0 | h0
   ·subst h0;simp at hk
   ·exact h0
  have hm:k % s<z.length:=by rw [hz];exact Nat.mod_lt _ hs
  rw [List.getElem?_range hk,rep_get z s hz n k hk]
  simp only [Option.map_some,concs_eq,List.size_toArray,List.length_map,hz]
  rw [List.getElem?_eq_getElem hm]
  simp [hm]
 ·rw [List.getElem?_eq_none (by simp;omega),List.getElem?_eq_none (by rw [rep_length z s hz];omega)]
  rfl
end
end Go.AEv
