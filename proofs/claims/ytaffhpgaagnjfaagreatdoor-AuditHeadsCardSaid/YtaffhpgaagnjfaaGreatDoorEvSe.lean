/- A verified evaluator of loaded Go code, and its soundness (part EvSe). Conditions: the program fits (no goroutine count, mixed orders). -/
import Derived.Test.YtaffhpgaagnjfaaGreatDoorEvSd
import Derived.Orders
import Derived.Handed
import Derived.RowKit3
import Derived.OpenShut
import Derived.ChangeSame
import Derived.FnData
import Derived.Carry
import Derived.Stop.Joined
namespace Go.AEv
set_option linter.unusedSectionVars false
variable [Unk]
theorem Q8 (m i:Nat):bit m i=m.testBit i:=by
 unfold bit
 show Nat.beq ((m >>> i) &&& 1) 1=_
 rw [zw,Nat.testBit,Nat.and_comm]
 rcases Nat.mod_two_eq_zero_or_one (m >>> i) with h | h
 ·rw [Nat.one_and_eq_mod_two,h];rfl
 ·rw [Nat.one_and_eq_mod_two,h];rfl
theorem Y0 (m i j:Nat):bit (Vd m i) j=(bit m j||decide (i=j)):=by
 rw [Q8,Q8]
 show (m ||| (1 <<< i)).testBit j=_
 rw [Nat.testBit_or,Nat.one_shiftLeft,Nat.testBit_two_pow]
theorem zeA (m n j:Nat):bit (Nat.lor m n) j=(bit m j||bit n j):=by
 rw [Q8,Q8,Q8]
 exact Nat.testBit_or _ _ _
theorem zkf (i j:Nat):bit (Nat.shiftLeft 1 i) j=decide (i=j):=by
 rw [Q8]
 show (1 <<< i).testBit j=_
 rw [Nat.one_shiftLeft,Nat.testBit_two_pow]
theorem Zn (j:Nat):bit 0 j=false:=by rw [Q8];exact Nat.zero_testBit j
theorem zdQ {a b:Nat} (h:Ww a b=true) {j:Nat} (hj:bit a j=true):bit b j=true:=by
 unfold Ww at h
 rw [zw,beq_iff_eq]at h
 rw [Q8]at *
 have h:a &&& b=a:=h
 rw [← h,Nat.testBit_and,Bool.and_eq_true]at hj
 exact hj.2
theorem zqH {a b:Nat} (h:∀ j,bit a j=true→bit b j=true):Ww a b=true:=by
 unfold Ww
 rw [zw,beq_iff_eq]
 show a &&& b=a
 apply Nat.eq_of_testBit_eq
 intro j
 rw [Nat.testBit_and]
 have:=h j
 rw [Q8,Q8]at this
 cases ha:a.testBit j with
 | false=>simp
 | true=>simp [this ha]
theorem zol {D n:Nat} (h:Nat.beq (Nat.succ D) (Nat.shiftLeft 1 n)=true) {i:Nat} (hi:i<n):bit D i=true:=by
 rw [zw,beq_iff_eq]at h
 have h:D+1=1 <<< n:=h
 rw [Nat.one_shiftLeft]at h
 rw [Q8,show D=2 ^ n-1 by omega,Nat.testBit_two_pow_sub_one]
 simpa using hi
theorem UT (es:List Edge) (j:Nat):bit (yM es) j=true↔∃ e∈es,Region.binds .any e=true∧e.on=j:=by
 induction es with
 | nil=>rw [show yM []=0 from rfl,Zn];simp
 | cons e es ih=>
  have h:yM (e::es)=ifB (KX e) (Nat.lor (Nat.shiftLeft 1 e.on) (yM es)) (yM es):=rfl
  rw [h,zm]
  by_cases hb:KX e=true
  ·rw [if_pos hb,zeA,zkf]
   simp only [Bool.or_eq_true,decide_eq_true_eq,ih,List.mem_cons]
   constructor
   ·rintro (h | ⟨e',h1,h2,h3⟩)
    ·exact ⟨e,.inl rfl,hb,h⟩
    ·exact ⟨e',.inr h1,h2,h3⟩
   ·rintro ⟨e',h1 | h1,h2,h3⟩
    ·subst h1;exact .inl h3
    ·exact .inr ⟨e',h1,h2,h3⟩
  ·rw [if_neg hb,ih]
   simp only [List.mem_cons]
   constructor
   ·rintro ⟨e',h1,h2⟩;exact ⟨e',.inr h1,h2⟩
   ·rintro ⟨e',h1 | h1,h2,h3⟩
    ·subst h1;exact absurd h2 hb
    ·exact ⟨e',h1,h2,h3⟩
def Vh (ops:List Oper) (D:Nat→Prop):Prop:=∀ (i:Nat) (o:Oper),ops[i]? = some o→D i→∀ e∈o.after.toList,Region.binds .any e=true→D e.on
theorem zqQ (acc:List Nat) (es:List Edge) (j:Nat) (h:bit (Z5 acc es) j=true):∃ e∈es,Region.binds .any e=true∧(e.on=j∨∃ a,acc[e.on]? = some a∧bit a j=true):=by
 induction es with
 | nil=>rw [show Z5 acc []=0 from rfl,Zn]at h;cases h
 | cons e es ih=>
  have e0:Z5 acc (e::es)=ifB (KX e) (Nat.lor (Nat.lor (Nat.shiftLeft 1 e.on) (zh (kg e.on acc) 0 fun a=>a)) (Z5 acc es)) (Z5 acc es):=rfl
  rw [e0,zm]at h
  by_cases hb:KX e=true
  ·rw [if_pos hb,zeA,zeA,zkf,Bool.or_eq_true,Bool.or_eq_true,decide_eq_true_eq]at h
   rcases h with (h | h) | h
   ·exact ⟨e,by simp,hb,.inl h⟩
   ·rw [kF]at h
    cases ha:acc[e.on]? with
    | none=>rw [ha,zn,Zn]at h;cases h
    | some a=>rw [ha,zd]at h;exact ⟨e,by simp,hb,.inr ⟨a,ha,h⟩⟩
   ·obtain ⟨e',h1,h2⟩:=ih h
    exact ⟨e',by simp [h1],h2⟩
  ·rw [if_neg hb]at h
   obtain ⟨e',h1,h2⟩:=ih h
   exact ⟨e',by simp [h1],h2⟩
def ze0 (ops:List Oper) (acc:List Nat):Prop:=
 ∀ (i a j:Nat),acc[i]? = some a→bit a j=true→∃ o:Oper,ops[i]? = some o∧∀ D,Vh ops D→(∀ e∈o.after.toList,Region.binds .any e=true→D e.on)→D j
theorem zqP (ops:List Oper):∀ (l:List Oper) (acc:List Nat),ops.drop acc.length=l→ze0 ops acc →
  ze0 ops (Yj l acc)∧(Yj l acc).length=acc.length+l.length:=by
 intro l
 induction l with
 | nil=>intro acc _ h;exact ⟨h,rfl⟩
 | cons o l ih=>
  intro acc hd h
  have e0:Yj (o::l) acc=Yj l (zQ acc [Z5 acc o.after.toList]):=rfl
  rw [e0,zR]
  have ho:ops[acc.length]? = some o:=by
   have:(ops.drop acc.length)[0]? = some o:=by rw [hd];rfl
   rwa [List.getElem?_drop,Nat.add_zero]at this
  have hd':ops.drop (acc++[Z5 acc o.after.toList]).length=l:=by
   rw [List.length_append,← List.drop_drop,hd];rfl
  have hnext:ze0 ops (acc++[Z5 acc o.after.toList]):=by
   intro i a j hi hj
   by_cases hlt:i<acc.length
   ·rw [List.getElem?_append_left hlt]at hi
    exact h i a j hi hj
   ·rw [List.getElem?_append_right (by omega)]at hi
    have hi0:i-acc.length=0:=by
     rcases Nat.eq_zero_or_pos (i-acc.length) with h | h
     ·exact h
     ·rw [List.getElem?_eq_none (by simp;omega)]at hi;cases hi
    rw [hi0]at hi
    simp only [List.getElem?_cons_zero,Option.some.injEq]at hi
    subst hi
    have:i=acc.length:=by omega
    subst this
    refine ⟨o,ho,fun D hD hpre=>?_⟩
    obtain ⟨e,he,hb,hc⟩:=zqQ _ _ _ hj
    have hDe:=hpre e he hb
    rcases hc with rfl | ⟨a',ha',hbit⟩
    ·exact hDe
    ·obtain ⟨o',ho',hall⟩:=h e.on a' j ha' hbit
     exact hall D hD (hD e.on o' ho' hDe)
  obtain ⟨g1,g2⟩:=ih (acc++[Z5 acc o.after.toList]) hd' hnext
  exact ⟨g1,by rw [g2];simp only [List.length_append,List.length_cons,List.length_nil];omega⟩
theorem Wd (ops:List Oper):ze0 ops (Yj ops [])∧(Yj ops []).length=ops.length:=by
 obtain ⟨h1,h2⟩:=zqP ops ops [] rfl (by intro i a j h;cases h)
 exact ⟨h1,by simpa using h2⟩
theorem zh0 (E:Env) (ops:List Oper) (as:List Nat):∀ (l:List Oper) (i:Nat) (bs:List Nat),l.length=bs.length→∀ k:Nat,(za5 E ops as l i bs)[k]? =
  (l[k]?).bind fun o=>(bs[k]?).map fun a=>⟨i+k,yM o.after.toList,a,kindOf E ops as (i+k) o,o⟩:=by
 intro l
 induction l with
 | nil=>intro i bs _ k;simp [za5]
 | cons o l ih=>
  intro i bs hl k
  cases bs with
  | nil=>simp at hl
  | cons a bs=>
   have e0:za5 E ops as (o::l) i (a::bs)=⟨i,yM o.after.toList,a,kindOf E ops as i o,o⟩::za5 E ops as l (Nat.succ i) bs:=rfl
   rw [e0]
   cases k with
   | zero=>simp
   | succ k=>
    rw [List.getElem?_cons_succ,ih (Nat.succ i) bs (by simpa using hl) k,List.getElem?_cons_succ,List.getElem?_cons_succ]
    rw [show Nat.succ i+k=i+(k+1) by omega]
theorem zfW (E:Env) (ops:List Oper) (k:Nat):(qu E ops)[k]? = (ops[k]?).bind fun o=>((Yj ops [])[k]?).map fun a=>⟨k,yM o.after.toList,a,kindOf E ops (Yj ops []) k o,o⟩:=by
 have:=zh0 E ops (Yj ops []) ops 0 (Yj ops []) (Wd ops).2.symm k
 rw [Nat.zero_add]at this
 exact this
theorem jm {E:Env}{ops:List Oper}{m:OpM} (h:m∈qu E ops):ops[m.i]? = some m.o∧(Yj ops [])[m.i]? = some m.anc∧m.pre=yM m.o.after.toList∧m.kind=kindOf E ops (Yj ops []) m.i m.o:=by
 obtain ⟨k,hk⟩:=List.mem_iff_getElem?.1 h
 rw [zfW]at hk
 cases ho:ops[k]? with
 | none=>rw [ho]at hk;cases hk
 | some o=>
  rw [ho,Option.bind_some]at hk
  cases ha:(Yj ops [])[k]? with
  | none=>rw [ha]at hk;cases hk
  | some a=>
   rw [ha,Option.map_some]at hk
   cases hk
   exact ⟨ho,ha,rfl,rfl⟩
theorem zfV (E:Env) {ops:List Oper}{i:Nat}{o:Oper} (h:ops[i]? = some o):∃ m∈qu E ops,m.i=i∧m.o=o:=by
 have hi:=(List.getElem?_eq_some_iff.1 h).1
 obtain ⟨a,ha⟩:∃ a,(Yj ops [])[i]? = some a:=⟨_,List.getElem?_eq_getElem (by rw [(Wd ops).2];exact hi)⟩
 refine ⟨⟨i,yM o.after.toList,a,kindOf E ops (Yj ops []) i o,o⟩,List.mem_iff_getElem?.2 ⟨i,?_⟩,rfl,rfl⟩
 rw [zfW,h,ha];rfl
theorem zo9 (t:Nat) (l:List Operand):zk1 t l=true↔Operand.tmp t∈l:=by
 induction l with
 | nil=>simp [zk1]
 | cons x l ih=>
  have e0:zk1 t (x::l)=zh (zcv x) (zk1 t l) fun u=>ifB (Nat.beq u t) true (zk1 t l):=rfl
  rw [e0]
  cases x with
  | tmp u=>
   simp only [zcv,zd,zm,zw,beq_iff_eq,List.mem_cons,Operand.tmp.injEq]
   by_cases hu:u=t
   ·subst hu;simp
   ·rw [if_neg hu,ih]
    constructor
    ·exact .inr
    ·rintro (h | h)
     ·exact absurd h.symm hu
     ·exact h
  | const c=>simp [zcv,ih]
  | global g=>simp [zcv,ih]
  | func f=>simp [zcv,ih]
theorem zk6 {ops:List Oper}{w t:Nat}:∀ (l:List Oper) (as:List Nat),late ops w t l as=false→l.length=as.length→∀ (k:Nat) (o:Oper) (a:Nat),l[k]? = some o→as[k]? = some a→looks ops o t=true→bit a w=true:=by
 intro l
 induction l with
 | nil=>intro as _ _ k o a h;simp at h
 | cons x l ih=>
  intro as h hl k o a ho ha hlk
  cases as with
  | nil=>simp at hl
  | cons b bs=>
   have e0:late ops w t (x::l) (b::bs)=ifB (looks ops x t) (ifB (bit b w) (late ops w t l bs) true) (late ops w t l bs):=rfl
   rw [e0]at h
   cases k with
   | zero=>
    simp only [List.getElem?_cons_zero,Option.some.injEq]at ho ha
    subst ho ha
    rw [hlk,qE,zm]at h
    split at h
    ·assumption
    ·cases h
   | succ k=>
    refine ih bs ?_ (by simpa using hl) k o a (by simpa using ho) (by simpa using ha) hlk
    rw [zm]at h
    split at h
    ·rw [zm]at h
     split at h
     ·exact h
     ·cases h
    ·exact h
theorem zaW {t:Nat}:∀ {l:List Oper},zaX t l=true→∀ o∈l,o.dst≠some t:=by
 intro l
 induction l with
 | nil=>intro _ o h;cases h
 | cons x l ih=>
  intro h o ho
  have e0:zaX t (x::l)=zh x.dst (zaX t l) fun d=>ifB (Nat.beq d t) false (zaX t l):=rfl
  rw [e0]at h
  cases hx:x.dst with
  | none=>
   rw [hx,zn]at h
   rcases List.mem_cons.1 ho with rfl | ho
   ·rw [hx];simp
   ·exact ih h o ho
  | some d=>
   rw [hx,zd,zm,zw]at h
   split at h
   ·cases h
   ·rename_i hd
    rcases List.mem_cons.1 ho with rfl | ho
    ·rw [hx];simpa using hd
    ·exact ih h o ho
theorem Ui:∀ {l:List Oper},ZI l=true→∀ (i j:Nat) (oi oj:Oper) (d:Tmp),l[i]? = some oi→l[j]? = some oj→oi.dst=some d→oj.dst=some d→i=j:=by
 intro l
 induction l with
 | nil=>intro _ i j oi oj d h;simp at h
 | cons x l ih=>
  intro h i j oi oj d hi hj di dj
  have e0:ZI (x::l)=zh x.dst (ZI l) fun d=>ifB (zaX d l) (ZI l) false:=rfl
  rw [e0]at h
  have hl:ZI l=true:=by
   cases hx:x.dst with
   | none=>rw [hx,zn]at h;exact h
   | some d=>rw [hx,zd]at h;rw [zm]at h;split at h;exact h;cases h
  have hn:∀ d,x.dst=some d→zaX d l=true:=by
   intro d hx
   rw [hx,zd,zm]at h
   split at h
   ·assumption
   ·cases h
  cases i with
  | zero=>
   simp only [List.getElem?_cons_zero,Option.some.injEq]at hi
   subst hi
   cases j with
   | zero=>rfl
   | succ j=>exact absurd dj (zaW (hn d di) oj (List.mem_of_getElem? (by simpa using hj)))
  | succ i=>
   cases j with
   | zero=>
    simp only [List.getElem?_cons_zero,Option.some.injEq]at hj
    subst hj
    exact absurd di (zaW (hn d dj) oi (List.mem_of_getElem? (by simpa using hi)))
   | succ j=>rw [ih hl i j oi oj d (by simpa using hi) (by simpa using hj) di dj]
end Go.AEv
namespace Go.AEv
set_option linter.unusedSectionVars false
variable [Unk]
section
variable {E:Env}
theorem VJ {o : Op} {rec : Rec} {T : Tr zb} {H H' : zl} {v : zb} (hk : kR E o = 0) (h : aop o E rec T H = some (v, H')) : H' = H ∧ ∀ c, o = .call c → ∃ b, c.callee = .builtin b := by
  have nc : ∀ {p : Prop}, p → (∀ c, o ≠ .call c) → p ∧ ∀ c, o = .call c → ∃ b, c.callee = .builtin b := fun hp hn => ⟨hp, fun c hc => absurd hc (hn c)⟩
  cases o <;> first | (exfalso; revert hk; simp [kR]; done) | skip
  case pick c a b =>
    refine nc ?_ (by intro c; simp)
    replace h := ze h
    obtain ⟨_, _, h⟩ := h
    replace h := ze h
    obtain ⟨q, _, h⟩ := h
    cases q
    · exact (qK h).2
    · exact (qK h).2
  case convert s d x =>
    refine nc ?_ (by intro c; simp)
    have hk : ifB (toInt E d) 0 2 = 0 := hk
    rw [zm] at hk
    split at hk
    case isFalse => cases hk
    rename_i hd
    replace h := ze h
    obtain ⟨a, _, h⟩ := h
    rw [zm] at h
    split at h
    · replace h := ze h
      obtain ⟨dd, hdd, h⟩ := h
      replace h := ze h
      obtain ⟨sd, hsd, h⟩ := h
      cases hk2 : XG dd with
      | some k =>
        rw [hk2, zd] at h
        replace h := zg h
        obtain ⟨_, h⟩ := h
        replace h := ze h
        obtain ⟨r, _, h⟩ := h
        cases h
        rfl
      | none =>
        exfalso
        unfold toInt at hd
        rw [hdd, zd] at hd
        cases dd <;> first | (cases hd; done) | (cases hk2; done)
    replace h := ze h
    obtain ⟨dd, hdd, h⟩ := h
    have hi : isInt dd = true := by
      unfold toInt at hd
      rw [hdd, zd] at hd
      exact hd
    replace h := ze h
    obtain ⟨sd, hsd, h⟩ := h
    cases ha : asInt a with
    | some p =>
      rw [ha, zd] at h
      replace h := ze h
      obtain ⟨k, _, h⟩ := h
      replace h := ze h
      obtain ⟨n, _, h⟩ := h
      cases h
      rfl
    | none =>
      rw [ha, zn, zm] at h
      cases dd <;> try (cases hi; done)
      split at h
      · replace h := ze h
        obtain ⟨s, _, h⟩ := h
        have h : (bnd (none : Option TypeId) fun e => ziJ E H e s) = some (v, H') := h
        cases h
      · unfold ziI at h
        cases h2 : jQ sd with
        | some e =>
          rw [h2, zd] at h
          have h : (none : R) = some (v, H') := h
          cases h
        | none =>
          rw [h2, zn] at h
          cases h3 : zix sd with
          | some t =>
            rw [h3, zd] at h
            have h : (none : R) = some (v, H') := h
            cases h
          | none =>
            rw [h3, zn, zm] at h
            split at h
            · have h : (none : R) = some (v, H') := h
              cases h
            · cases h
  case call c =>
    obtain ⟨ce, as, ts⟩ := c
    cases ce with
    | value g => exact absurd hk (by simp [kR, zbM])
    | invoke r n => exact absurd hk (by simp [kR, zbM])
    | builtin b =>
      refine ⟨?_, fun c hc => by cases hc; exact ⟨b, rfl⟩⟩
      have hk : ifB (ziO b) 0 2 = 0 := hk
      replace h := ze h
      obtain ⟨vs, _, h⟩ := h
      unfold Kd at h
      cases vs with
      | nil => cases h
      | cons x r =>
        rw [Zf] at h
        revert h
        cases ts.toList with
        | nil => intro h; cases h
        | cons t us =>
          intro h
          simp only [Zf] at h
          cases b <;> first
            | (exfalso; revert hk; simp [ziO, zm]; done)
            | exact (qK h).2
            | (cases h; done)
  all_goals
    refine nc ?_ (by intro c; simp)
    repeat (first
      | (replace h := ze h
         obtain ⟨_, _, h⟩ := h)
      | (replace h := zg h
         obtain ⟨_, h⟩ := h)
      | (replace h := yf h
         obtain ⟨_, h⟩ := h))
    cases h
    rfl
theorem Xz {o:Op}{rec:Rec}{T:Tr zb}{H H':zl}{v:zb} (hk:kR E o=1) (h:aop o E rec T H=some (v,H')) :
  (∃ t n c,H'=⟨H.blk.set H.next (.cells t n c),H.next+1⟩)∧(v = .ptr H.next 0∨∃ l c,v = .slice H.next 0 l c true)∧∀ c,o≠.call c:=by
 cases o<;>first | (exfalso;revert hk;simp [kR];done) | skip
 case convert s d x=>exact absurd hk (by show ifB (toInt E d) 0 2≠1;rw [zm];split<;>simp)
 case call c=>exact absurd hk (by show ifB (zbM c) 0 2≠1;rw [zm];split<;>simp)
 case alloc t=>
  replace h:=ze h
  obtain ⟨z,hz,h⟩:=h
  have h:=jL h
  cases h
  exact ⟨⟨_,_,_,rfl⟩,.inl rfl,by simp⟩
 case box t x=>
  replace h:=ze h
  obtain ⟨u,hu,h⟩:=h
  replace h:=zg h
  obtain ⟨_,h⟩:=h
  have h:=jL h
  cases h
  exact ⟨⟨_,_,_,rfl⟩,.inl rfl,by simp⟩
 case buildSlice t len parts=>
  replace h:=ze h
  obtain ⟨d,hd,h⟩:=h
  replace h:=ze h
  obtain ⟨e,he,h⟩:=h
  replace h:=ze h
  obtain ⟨ps,hps,h⟩:=h
  replace h:=ze h
  obtain ⟨s,hs,h⟩:=h
  replace h:=ze h
  obtain ⟨z,hz,h⟩:=h
  replace h:=zg h
  obtain ⟨hb,h⟩:=h
  replace h:=ze h
  obtain ⟨l,hl,h⟩:=h
  replace h:=zg h
  obtain ⟨_,h⟩:=h
  have h:=jL h
  cases h
  exact ⟨⟨_,_,_,rfl⟩,.inr ⟨_,_,rfl⟩,by simp⟩
 case makeSlice t l c=>
  replace h:=ze h
  obtain ⟨d,hd,h⟩:=h
  replace h:=ze h
  obtain ⟨e,he,h⟩:=h
  replace h:=ze h
  obtain ⟨a,ha,h⟩:=h
  replace h:=ze h
  obtain ⟨b,hb,h⟩:=h
  replace h:=ze h
  obtain ⟨p,hp,h⟩:=h
  replace h:=zg h
  obtain ⟨hi,h⟩:=h
  replace h:=qY h
  obtain ⟨n,hn,h⟩:=h
  replace h:=ze h
  obtain ⟨q,hq,h⟩:=h
  replace h:=zg h
  obtain ⟨hj,h⟩:=h
  replace h:=qY h
  obtain ⟨m,hm,h⟩:=h
  replace h:=ze h
  obtain ⟨i,hi',h⟩:=h
  replace h:=ze h
  obtain ⟨z,hz,h⟩:=h
  replace h:=zg h
  obtain ⟨_,h⟩:=h
  simp only [zX]at h
  have h:=jL h
  cases h
  exact ⟨⟨_,_,_,rfl⟩,.inr ⟨_,_,rfl⟩,by simp⟩
theorem zcS (o:Op):kR E o=0∨kR E o=1∨kR E o=2:=by
 cases o<;>simp [kR]
 case convert s d x=>rw [zm];split<;>simp
 case call c=>rw [zm];split<;>simp
theorem X1 {ops:List Oper}{m:OpM} (hm:m∈qu E ops) (hk:m.kind≠2) :
  ((m.kind=0∧kR E m.o.op=0)∨(m.kind=1∧kR E m.o.op=1∧∃ d,m.o.dst=some d)) ∧
  ∀ d,m.o.dst=some d→∀ (j:Nat) (o:Oper) (a:Nat),ops[j]? = some o→(Yj ops [])[j]? = some a→looks ops o d=true→bit a m.i=true:=by
 obtain ⟨h1,h2,h3,h4⟩:=jm hm
 rw [h4]at hk ⊢
 unfold kindOf at hk ⊢
 cases hd:m.o.dst with
 | none=>
  rw [hd,zn,zm,zw]at hk
  rw [zn,zm,zw]
  refine ⟨.inl ?_,by intro d h;cases h⟩
  split at hk
  ·exact absurd rfl hk
  ·rename_i hn
   rw [if_neg hn]
   rcases zcS (E:=E) m.o.op with h | h | h
   ·exact ⟨h,h⟩
   ·exact absurd (by rw [h];rfl) hn
   ·exact absurd h hk
 | some d=>
  rw [hd,zd,zm]at hk
  rw [zd,zm]
  split at hk
  ·exact absurd rfl hk
  ·rename_i hl
   rw [if_neg hl]
   refine ⟨?_,?_⟩
   ·rcases zcS (E:=E) m.o.op with h | h | h
    ·exact .inl ⟨h,h⟩
    ·exact .inr ⟨h,h,d,rfl⟩
    ·exact absurd h hk
   ·intro d' hd' j o a ho ha hlk
    cases hd'
    exact zk6 ops (Yj ops []) (by simpa using hl) (Wd ops).2.symm j o a ho ha hlk
theorem Jt {ops:List Oper}{m m':OpM} (h:m∈qu E ops) (h':m'∈qu E ops) (hi:m.i=m'.i):m=m':=by
 obtain ⟨a1,a2,a3,a4⟩:=jm h
 obtain ⟨b1,b2,b3,b4⟩:=jm h'
 obtain ⟨i,p,a,k,o⟩:=m
 obtain ⟨i',p',a',k',o'⟩:=m'
 simp only at *
 subst hi
 rw [a1]at b1
 cases b1
 rw [a2]at b2
 cases b2
 rw [a3,b3,a4,b4]
theorem Rel.zd3 {P:Program}{β:Inj}{H:zl}{w:World} (hR:Rel P β H w) (b:zo):Rel P β ⟨H.blk.set H.next b,H.next+1⟩ w where
 base:=Nat.le_succ_of_le hR.base
 blk:=fun id c x h1 h2=>by
  have h1:(H.blk.set H.next b).get id=some c:=h1
  have hid:=hR.bnd _ _ h2
  rw [Tr.zL,if_neg (by omega)]at h1
  exact hR.blk id c x h1 h2
 inj:=fun i j c d x y h1 h2 h3 h4 e=>by
  have h1:(H.blk.set H.next b).get i=some c:=h1
  have h3:(H.blk.set H.next b).get j=some d:=h3
  have hi:=hR.bnd _ _ h2
  have hj:=hR.bnd _ _ h4
  rw [Tr.zL,if_neg (by omega)]at h1 h3
  exact hR.inj _ _ _ _ _ _ h1 h2 h3 h4 e
 bnd:=fun id x h=>Nat.lt_succ_of_lt (hR.bnd id x h)
 live:=fun id c h=>by
  have h:(H.blk.set H.next b).get id=some c:=h
  show id<H.next+1
  rw [Tr.zL]at h
  split at h
  ·omega
  ·have:=hR.live _ _ h;omega
structure Lag (E:Env) (N:Nat) (fr:Fr) (ops:List Oper) (Dc:Nat→Prop) (Da:Nat) (T:Tr zb) (H:zl) (β:Inj) (w:World) (arr:Array Value):Prop where
 rel:Rel E.P β H w
 glob:JT E β H
 size:arr.size=fr.n
 tmp:∀ t,TV β (tv T t) (arr.getD t undef)∨∃ i o,ops[i]? = some o∧o.dst=some t∧bit Da i=true∧¬ Dc i
 sub:∀ i,Dc i→bit Da i=true
 closed:Vh ops Dc
 heavy:∀ m∈qu E ops,m.kind=2→bit Da m.i=true→Dc m.i
 rows:∀ m∈qu E ops,m.kind=1→bit Da m.i=true→¬ Dc m.i→∀ d,m.o.dst=some d→∀ c,bid (tv T d)=some c→β c=none∧c<H.next∧N≤c
 nn:N≤H.next
 apart:∀ m∈qu E ops,∀ m'∈qu E ops,m.kind=1→m'.kind=1→bit Da m.i=true→bit Da m'.i=true→¬ Dc m.i→¬ Dc m'.i→m.i≠m'.i →
  ∀ d d',m.o.dst=some d→m'.o.dst=some d'→∀ c,bid (tv T d)=some c→bid (tv T d')≠some c
 lt:∀ (i:Nat) (o:Oper) (d:Tmp),ops[i]? = some o→bit Da i=true→o.dst=some d→d<fr.n
 order:∃ L:List Nat,(∀ i,bit Da i=true↔i∈L)∧∀ L1 i L2,L=L1++i::L2→∃ o,ops[i]? = some o∧∀ e∈o.after.toList,Region.binds .any e=true→e.on∈L1
theorem zcR {ops:List Oper}{Da:Nat}{i:Nat}{o:Oper} (ho:ops[i]? = some o) (hp:Ww (yM o.after.toList) Da=true)
  (h:∃ L:List Nat,(∀ i,bit Da i=true↔i∈L)∧∀ L1 i L2,L=L1++i::L2→∃ o,ops[i]? = some o∧∀ e∈o.after.toList,Region.binds .any e=true→e.on∈L1) :
  ∃ L:List Nat,(∀ j,bit (Vd Da i) j=true↔j∈L)∧∀ L1 i L2,L=L1++i::L2→∃ o,ops[i]? = some o∧∀ e∈o.after.toList,Region.binds .any e=true→e.on∈L1:=by
 obtain ⟨L,h1,h2⟩:=h
 refine ⟨L++[i],fun j=>?_,fun L1 j L2 e=>?_⟩
 ·rw [Y0,Bool.or_eq_true,decide_eq_true_eq,h1,List.mem_append,List.mem_singleton]
  constructor
  ·rintro (h | h)
   ·exact .inl h
   ·exact .inr h.symm
  ·rintro (h | h)
   ·exact .inl h
   ·exact .inr h.symm
 ·rcases List.append_eq_append_iff.1 e with ⟨q,e1,e2⟩ | ⟨q,e1,e2⟩
  ·
   cases q with
   | nil=>
    simp at e1 e2
    obtain ⟨e2,_⟩:=e2
    subst e2
    subst e1
    refine ⟨o,ho,fun e he hb=>(h1 _).1 (zdQ hp ((UT _ _).2 ⟨e,he,hb,rfl⟩))⟩
   | cons x q=>simp at e2
  ·cases q with
   | nil=>
    simp at e1 e2
    obtain ⟨e2,_⟩:=e2
    subst e2
    subst e1
    refine ⟨o,ho,fun e he hb=>(h1 _).1 (zdQ hp ((UT _ _).2 ⟨e,he,hb,rfl⟩))⟩
   | cons x q=>
    simp only [List.cons_append,List.cons.injEq]at e2
    obtain ⟨e2,_⟩:=e2
    subst e2
    exact h2 L1 _ q e1
end
end Go.AEv
namespace Go.AEv
set_option linter.unusedSectionVars false
variable [Unk]
section
variable {E:Env}
theorem Vb {rec:Rec}{n:Nat}{ops:List Oper}{o:Oper}{K:zeU}{T:Tr zb}{H:zl}{r:qZ} (h:UO E rec n ops o K T H=r) (hr:r≠.fail) :
  ∃ v H',K (match o.dst with | none=>T | some d=>T.set d v) H'=r∧(∀ d,o.dst=some d→d<n) ∧
   ((yZ ops T o=true∧aop o.op E rec T H=some (v,H'))∨(yZ ops T o=false∧v=qW∧H'=H)):=by
 have run:∀ (h:zdB E rec n o T H K=r),∃ v H',K (match o.dst with | none=>T | some d=>T.set d v) H'=r∧(∀ d,o.dst=some d→d<n)∧aop o.op E rec T H=some (v,H'):=by
  intro h
  unfold zdB at h
  cases hx:aop o.op E rec T H with
  | none=>rw [hx]at h;exact absurd h.symm hr
  | some p=>
   rw [hx,zd]at h
   rcases zeH h hr with ⟨hd,h1⟩ | ⟨d,hd,hlt,h1⟩
   ·exact ⟨p.1,p.2,by rw [hd];exact h1,fun d h=>(by rw [hd]at h;cases h),rfl⟩
   ·exact ⟨p.1,p.2,by rw [hd];exact h1,fun d' h=>(by rw [hd]at h;cases h;exact hlt),rfl⟩
 unfold UO at h
 unfold yZ
 cases hg:o.guard with
 | none=>
  rw [hg]at h
  obtain ⟨v,H',a1,a2,a3⟩:=run h
  exact ⟨v,H',a1,a2,.inl ⟨rfl,a3⟩⟩
 | some g=>
  rw [hg,zd,zm]at h
  split at h
  ·exact absurd h.symm hr
  rw [zm]at h
  split at h
  ·rename_i hw
   obtain ⟨v,H',a1,a2,a3⟩:=run h
   exact ⟨v,H',a1,a2,.inl ⟨hw,a3⟩⟩
  ·rename_i hw
   rcases zeH h hr with ⟨hd,h1⟩ | ⟨d,hd,hlt,h1⟩
   ·exact ⟨qW,H,by rw [hd];exact h1,fun d h=>(by rw [hd]at h;cases h),.inr ⟨by simpa using hw,rfl,rfl⟩⟩
   ·exact ⟨qW,H,by rw [hd];exact h1,fun d' h=>(by rw [hd]at h;cases h;exact hlt),.inr ⟨by simpa using hw,rfl,rfl⟩⟩
theorem zi0 {rec:Rec}{n:Nat}{ops:List Oper}{o:Oper}{K:zeU}{T:Tr zb}{H:zl}{r:qZ} (h:UO E rec n ops o K T H=r) (hr:r≠.fail):∀ g,o.guard=some g→zdO ops T g=false:=by
 intro g hg
 unfold UO at h
 rw [hg,zd,zm]at h
 split at h
 ·exact absurd h.symm hr
 ·rename_i hs;simpa using hs
theorem zgQ {ops:List Oper}{T:Tr zb}{H:zl}{row:Bool}{o:Oper} (h:again E ops T H row o=true):∀ g,o.guard=some g→zdO ops T g=false:=by
 intro g hg
 unfold again at h
 rw [hg,zd,zm]at h
 split at h
 ·cases h
 ·rename_i hs;simpa using hs
noncomputable def zaB (T:Tr zb) (o:Oper) (v:zb):Tr zb:=match o.dst with | none=>T | some d=>T.set d v
theorem ZV {T:Tr zb}{o:Oper}{v:zb}{t:Nat} (h:o.dst≠some t):tv (zaB T o v) t=tv T t:=by
 unfold zaB
 cases hd:o.dst with
 | none=>rfl
 | some d=>rw [zg6,if_neg (fun e=>h (by rw [hd,e]))]
theorem Qv {T:Tr zb}{o:Oper}{v:zb}{d:Nat} (h:o.dst=some d):tv (zaB T o v) d=v:=by
 unfold zaB
 rw [h,zg6,if_pos rfl]
theorem Lag.zrf {N:Nat}{fr:Fr}{ops:List Oper} (hone:ZI ops=true) {Dc:Nat→Prop}{Da:Nat}{T:Tr zb}{H:zl}{β:Inj}{w:World}{arr:Array Value} (hL:Lag E N fr ops Dc Da T H β w arr)
  {m:OpM} (hm:m∈qu E ops) (hk:m.kind≠2) (hnd:bit Da m.i=false) (hpre:Ww m.pre Da=true) {rec:Rec}{v:zb}{H':zl}
  (hlt:∀ d,m.o.dst=some d→d<fr.n) (hx:(aop m.o.op E rec T H=some (v,H'))∨(v=qW∧H'=H)) :
  Lag E N fr ops Dc (Vd Da m.i) (zaB T m.o v) H' β w arr:=by
 obtain ⟨g1,g2,g3,g4⟩:=jm hm
 obtain ⟨hkind,_⟩:=X1 hm hk
 have hnc:¬ Dc m.i:=fun h=>by rw [hL.sub _ h]at hnd;cases hnd
 have old:∀ {i o t},ops[i]? = some o→o.dst=some t→i≠m.i→tv (zaB T m.o v) t=tv T t:=by
  intro i o t hi hd hne
  apply ZV
  intro hd'
  exact hne (Ui hone i m.i o m.o t hi g1 hd hd')
 have hbit:∀ i,bit (Vd Da m.i) i=true→i≠m.i→bit Da i=true:=by
  intro i hi hne
  rw [Y0,Bool.or_eq_true,decide_eq_true_eq]at hi
  rcases hi with hi | hi
  ·exact hi
  ·exact absurd hi.symm hne
 have hadd:∀ i,bit Da i=true→bit (Vd Da m.i) i=true:=fun i hi=>by rw [Y0,hi];rfl
 have hself:bit (Vd Da m.i) m.i=true:=by rw [Y0];simp
 have hH:H'=H∨∃ b,H'=⟨H.blk.set H.next b,H.next+1⟩:=by
  rcases hx with hx | ⟨_,rfl⟩
  ·rcases hkind with ⟨_,h0⟩ | ⟨_,h1,_⟩
   ·exact .inl (VJ h0 hx).1
   ·obtain ⟨⟨t,n,c,e⟩,_⟩:=Xz h1 hx
    exact .inr ⟨_,e⟩
  ·exact .inl rfl
 have hrel:Rel E.P β H' w:=by
  rcases hH with rfl | ⟨b,rfl⟩
  ·exact hL.rel
  ·exact hL.rel.zd3 b
 have hnext:H.next≤H'.next:=by
  rcases hH with rfl | ⟨b,rfl⟩
  ·exact Nat.le_refl _
  ·exact Nat.le_succ _
 have hbid:m.kind=1→∀ c,bid v=some c→c=H.next∧H'.next=H.next+1:=by
  intro h1 c hc
  rcases hkind with ⟨h0,_⟩ | ⟨_,hop,_⟩
  ·rw [h0]at h1;cases h1
  ·rcases hx with hx | ⟨rfl,_⟩
   ·obtain ⟨⟨t,n,cc,e⟩,hv,_⟩:=Xz hop hx
    rcases hv with rfl | ⟨l,cp,rfl⟩
    ·cases hc;exact ⟨rfl,by rw [e]⟩
    ·cases hc;exact ⟨rfl,by rw [e]⟩
   ·cases hc
 have htabs:∀ p∈E.tabs,p.1<100∧H'.blk.get p.1=some p.2:=by
  intro p hp
  obtain ⟨t1,t2⟩:=hL.glob.tabs p hp
  refine ⟨t1,?_⟩
  have hb:=hL.rel.base
  rcases hH with rfl | ⟨b,rfl⟩
  ·exact t2
  ·show (H.blk.set H.next b).get p.1=_
   rw [Tr.zL,if_neg (by omega)]
   exact t2
 refine ⟨hrel,⟨hL.glob.at_,Nat.le_trans hL.glob.next hnext,hL.glob.facts,htabs,hL.glob.alts⟩,hL.size,?_,fun i hi=>hadd i (hL.sub i hi),hL.closed,?_,?_,Nat.le_trans hL.nn hnext,?_,?_,?_⟩
 ·intro t
  by_cases hd:m.o.dst=some t
  ·exact .inr ⟨m.i,m.o,g1,hd,hself,hnc⟩
  ·rw [ZV hd]
   rcases hL.tmp t with h | ⟨i,o,h1,h2,h3,h4⟩
   ·exact .inl h
   ·exact .inr ⟨i,o,h1,h2,hadd i h3,h4⟩
 ·intro m' hm' hk' hb
  by_cases hi:m'.i=m.i
  ·have:=Jt hm' hm hi
   subst this
   exact absurd hk' hk
  ·exact hL.heavy m' hm' hk' (hbit _ hb hi)
 ·intro m' hm' hk' hb hn d hd c hc
  by_cases hi:m'.i=m.i
  ·have:=Jt hm' hm hi
   subst this
   rw [Qv hd]at hc
   obtain ⟨rfl,e⟩:=hbid hk' c hc
   exact ⟨hL.rel.fresh (Nat.le_refl _),by omega,hL.nn⟩
  ·obtain ⟨q1,_⟩:=jm hm'
   rw [old q1 hd hi]at hc
   obtain ⟨c1,c2,c3⟩:=hL.rows m' hm' hk' (hbit _ hb hi) hn d hd c hc
   exact ⟨c1,by omega,c3⟩
 ·intro m1 hm1 m2 hm2 k1 k2 b1 b2 n1 n2 hne d1 d2 e1 e2 c hc hc'
  obtain ⟨q1,_⟩:=jm hm1
  obtain ⟨q2,_⟩:=jm hm2
  by_cases hi1:m1.i=m.i
  ·have:=Jt hm1 hm hi1
   subst this
   rw [Qv e1]at hc
   rw [old q2 e2 (fun h=>hne h.symm)]at hc'
   obtain ⟨rfl,_⟩:=hbid k1 c hc
   have:=(hL.rows m2 hm2 k2 (hbit _ b2 (fun h=>hne h.symm)) n2 d2 e2 _ hc').2.1
   omega
  ·by_cases hi2:m2.i=m.i
   ·have:=Jt hm2 hm hi2
    subst this
    rw [Qv e2]at hc'
    rw [old q1 e1 hi1]at hc
    obtain ⟨rfl,_⟩:=hbid k2 c hc'
    have:=(hL.rows m1 hm1 k1 (hbit _ b1 hi1) n1 d1 e1 _ hc).2.1
    omega
   ·rw [old q1 e1 hi1]at hc
    rw [old q2 e2 hi2]at hc'
    exact hL.apart m1 hm1 m2 hm2 k1 k2 (hbit _ b1 hi1) (hbit _ b2 hi2) n1 n2 hne d1 d2 e1 e2 c hc hc'
 ·intro i o d hi hb hd
  by_cases he:i=m.i
  ·subst he
   rw [g1]at hi
   cases hi
   exact hlt d hd
  ·exact hL.lt i o d hi (hbit _ hb he) hd
 ·exact zcR g1 (by rw [← g3];exact hpre) hL.order
theorem Lag.looks {N:Nat}{fr:Fr}{ops:List Oper}{Dc:Nat→Prop}{Da:Nat}{T:Tr zb}{H:zl}{β:Inj}{w:World}{arr:Array Value} (hL:Lag E N fr ops Dc Da T H β w arr)
  {j:Nat}{o:Oper} (ho:ops[j]? = some o) (hpre:∀ e∈o.after.toList,Region.binds .any e=true→Dc e.on) {t:Nat} (hlk:looks ops o t=true) :
  TV β (tv T t) (arr.getD t undef):=by
 rcases hL.tmp t with h | ⟨i,oi,h1,h2,h3,h4⟩
 ·exact h
 ·exfalso
  obtain ⟨m,hm,hmi,hmo⟩:=zfV E h1
  have hk:m.kind≠2:=fun hk=>h4 (by rw [← hmi];exact hL.heavy m hm hk (by rw [hmi];exact h3))
  have hj:=(List.getElem?_eq_some_iff.1 ho).1
  obtain ⟨a,ha⟩:∃ a,(Yj ops [])[j]? = some a:=⟨_,List.getElem?_eq_getElem (by rw [(Wd ops).2];exact hj)⟩
  have hbit:=(X1 hm hk).2 t (by rw [hmo];exact h2) j o a ho ha hlk
  rw [hmi]at hbit
  obtain ⟨o',ho',hall⟩:=(Wd ops).1 j a i ha hbit
  rw [ho]at ho'
  cases ho'
  exact h4 (hall Dc hL.closed hpre)
theorem Lag.operands {N:Nat}{fr:Fr}{ops:List Oper}{Dc:Nat→Prop}{Da:Nat}{T:Tr zb}{H:zl}{β:Inj}{w:World}{a:Act} (hL:Lag E N fr ops Dc Da T H β w a.tmps)
  {j:Nat}{o:Oper} (ho:ops[j]? = some o) (hpre:∀ e∈o.after.toList,Region.binds .any e=true→Dc e.on):XQ T β a.eval o.op.operands:=by
 intro x hx v hv
 cases x with
 | tmp t=>
  obtain ⟨e,hn⟩:=zbt (t:=t) hv
  have hlk:AEv.looks ops o t=true:=by
   unfold AEv.looks
   rw [zm,if_pos]
   rw [zo9]
   simpa using hx
  obtain ⟨h1,h2⟩:=(hL.looks ho hpre hlk).known (by rw [e];exact hn)
  rw [e]at h1 h2
  exact ⟨h2,h1⟩
 | const c=>exact ⟨((JZ β 5000).1 c v hv).1.symm,((JZ β 5000).1 c v hv).2⟩
 | global g=>
  have hv:ifB (Nat.blt g 60) (some (zb.ptr g 0)) none=some v:=hv
  replace hv:=zg hv
  obtain ⟨h1,hv⟩:=hv
  rw [zO,decide_eq_true_eq]at h1
  cases hv
  have hb:=hL.glob.at_ g (by omega)
  rw [Unk.glob g h1]at hb
  refine ⟨?_,by simp [WF,hb]⟩
  simp [Act.eval,zc,Inj.addr,Inj.blk,Inj.sh,hb]
 | func f=>cases hv;exact ⟨rfl,trivial,trivial⟩
theorem zgH {β:Inj}{T:Tr zb}{arr:Array Value} (d:Tmp) (want:Bool) (ha:arr.getD d undef=zc β (tv T d)) (hs:zh (T.get d) false Ju=false) :
  V6 T d want=((match arr[d]? with | some (.bool b)=>some b | _=>none)==some want):=by
 rw [Array.getD_eq_getD_getElem?]at ha
 unfold V6
 cases ht:T.get d with
 | none=>
  rw [show tv T d=qW by unfold tv;rw [ht];rfl]at ha
  rw [zn]
  cases he:arr[d]? with
  | none=>rfl
  | some x=>
   rw [he]at ha
   have:x=undef:=by simpa using ha
   subst this
   rfl
 | some v=>
  rw [show tv T d=v by unfold tv;rw [ht];rfl]at ha
  rw [zd]
  cases hb:asBool v with
  | some b=>
   have:=ZT hb
   subst this
   rw [zd]
   have:arr[d]? = some (.bool b):=by
    cases he:arr[d]? with
    | none=>rw [he]at ha;simp [zc,undef]at ha
    | some x=>rw [he]at ha;simp [zc]at ha;rw [ha]
   rw [this,Y1]
   cases b<;>cases want<;>rfl
  | none=>
   rw [zn]
   cases he:arr[d]? with
   | none=>rfl
   | some x=>
    rw [he]at ha
    have ha:x=zc β v:=by simpa using ha
    subst ha
    cases v<;>first | rfl | (cases hb;done) | (rename_i i;rw [ht,zd]at hs;cases hs;done)
theorem Lag.wanted {N:Nat}{fr:Fr}{ops:Array Oper}{Dc:Nat→Prop}{Da:Nat}{T:Tr zb}{H:zl}{β:Inj}{w:World}{arr:Array Value} (hL:Lag E N fr ops.toList Dc Da T H β w arr)
  {j:Nat}{o:Oper} (ho:ops.toList[j]? = some o) (hpre:∀ e∈o.after.toList,Region.binds .any e=true→Dc e.on) (hs:∀ g,o.guard=some g→zdO ops.toList T g=false):Region.wanted o (yielded ops arr)=yZ ops.toList T o:=by
 unfold Region.wanted yZ
 cases hg:o.guard with
 | none=>rfl
 | some g=>
  obtain ⟨i,want⟩:=g
  simp only [Vj,kF]
  unfold yielded
  rw [Array.getElem?_toList]
  cases hj:ops[i]? with
  | none=>rfl
  | some q=>
   simp only [Option.bind_some,zd]
   cases hq:q.dst with
   | none=>rfl
   | some d=>
    simp only [Option.bind_some,zd]
    have hlk:AEv.looks ops.toList o d=true:=by
     unfold AEv.looks
     rw [zm]
     split
     ·rfl
     ·rw [hg,zd,kF,Array.getElem?_toList,hj,zd,hq,zd,zw]
      simp
    have h1:=hs _ hg
    simp only [zdO,kF]at h1
    rw [Array.getElem?_toList,hj,zd,hq,zd]at h1
    obtain ⟨hn,h1⟩:=Ux h1
    exact (zgH d want ((hL.looks ho hpre hlk).known hn).2 h1).symm
end
end Go.AEv
namespace Go.AEv
set_option linter.unusedSectionVars false
variable [Unk]
theorem zG.back {P:Program}{β β1:Inj} (l:β.le β1) {b:zo}{y:Nat×Nat×Nat}{w w1:World} (h:zG P β b y w) (h1:zG P β1 b y w1):zG P β b y w1:=by
 cases b with
 | cells t n c=>
  obtain ⟨arr,fz,_,r⟩:=h
  obtain ⟨arr1,fz1,e1,r1⟩:=h1
  refine ⟨arr1,fz1,e1,r1.size,fun i v hv=>?_,r1.thaw,r1.al⟩
  obtain ⟨a1,_⟩:=r.cell i v hv
  obtain ⟨_,b2⟩:=r1.cell i v hv
  exact ⟨a1,by rw [b2,(WF.mono l v a1).2]⟩
 | map es clock=>
  obtain ⟨arr,_,_,r⟩:=h
  obtain ⟨arr1,e1,q1,_⟩:=h1
  refine ⟨arr1,e1,?_,r⟩
  rw [q1]
  exact List.map_congr_left fun e he=>zbu l e (r e he).1 (r e he).2.1
 | siter s p=>exact h1
 | text t v=>
  obtain ⟨arr,fz,_,r⟩:=h
  obtain ⟨arr1,fz1,e1,r1⟩:=h1
  have e:=(WF.mono l v r.wf).2
  exact ⟨arr1,fz1,e1,r.wf,by rw [← e];exact r1.is,r1.size,by rw [← e];exact r1.cell,r1.thaw,r1.one⟩
 | ints t v=>
  obtain ⟨arr,fz,_,r⟩:=h
  obtain ⟨arr1,fz1,e1,r1⟩:=h1
  have e:=(WF.mono l v r.wf).2
  exact ⟨arr1,fz1,e1,r.wf,by rw [← e];exact r1.is,r1.size,by rw [← e];exact r1.cell,r1.thaw,r1.one⟩
 | view c=>
  obtain ⟨arr,t,fz,_,r⟩:=h
  obtain ⟨arr1,t1,fz1,e1,r1⟩:=h1
  exact ⟨arr1,t1,fz1,e1,fun i v hv=>⟨(r i v hv).1,by rw [← (WF.mono l v (r i v hv).1).2];exact (r1 i v hv).2⟩⟩
 | pack t n N=>
  obtain ⟨arr1,fz1,e1,r1⟩:=h1
  exact ⟨arr1,fz1,e1,r1.bytes⟩
 | loop st pend fn n T ps as bo=>
  obtain ⟨tmps,d,_,r⟩:=h
  obtain ⟨tmps1,d1,e1,r1⟩:=h1
  refine ⟨tmps1,d1,e1,r1.size,fun i=>?_⟩
  rcases r.tmp i with h | ⟨h,_⟩
  ·exact .inl h
  ·rcases r1.tmp i with h2 | ⟨_,h2⟩
   ·exact .inl h2
   ·exact .inr ⟨h,by rw [h2,(WF.mono l _ h).2]⟩
theorem zmi {r q:Row} (h:zmj r q=true):r=q:=by
 unfold zmj at h
 simp only [zk,Bool.and_eq_true,zw,beq_iff_eq]at h
 obtain ⟨t,n,c⟩:=r
 obtain ⟨t',n',c'⟩:=q
 simp only at h
 rw [h.1,h.2.1,zdF _ _ h.2.2]
section
variable {E:Env} (hE:kH E)
include hE
theorem zkX {β:Inj}{l:List zb} (h:WFs β l):∀ i v,(Tr.ofList l).get i=some v→WF β v:=by
 have _:=hE
 intro i v hv
 rw [Tr.zY]at hv
 exact (zT _ _).1 h v (List.mem_of_getElem? hv)
theorem znt {o:Op}{rec:Rec}{T:Tr zb}{H H':zl}{v:zb} (hk:kR E o=1) (h:aop o E rec T H=some (v,H')) {β:Inj}{w:World}{ρ:Operand→Value} (hρ:XQ T β ρ o.operands) :
  ∀ q,H'.row H.next=some q→∀ i u,q.c.get i=some u→WF β u:=by
 have fin:∀ (t:TypeId) (l:List zb),WFs β l→∀ q,(zl.new H t l).row H.next=some q→∀ i u,q.c.get i=some u→WF β u:=by
  intro t l hl q hq i u hu
  obtain ⟨b0,hb,ha⟩:=Qh hq
  have hb:(H.blk.set H.next (.cells t (qM l 0) (Tr.ofList l))).get H.next=some b0:=hb
  rw [Tr.zL,if_pos rfl]at hb
  cases hb
  cases ha
  exact zkX hE hl i u hu
 cases o<;>first | (exfalso;revert hk;simp [kR];done) | skip
 case convert s d x=>exact absurd hk (by show ifB (toInt E d) 0 2≠1;rw [zm];split<;>simp)
 case call c=>exact absurd hk (by show ifB (zbM c) 0 2≠1;rw [zm];split<;>simp)
 case alloc t=>
  replace h:=ze h
  obtain ⟨z,hz,h⟩:=h
  have h:=jL h
  cases h
  exact fin t _ (jF (ko hE hz β w).2)
 case box t x=>
  replace h:=ze h
  obtain ⟨u,hu,h⟩:=h
  replace h:=zg h
  obtain ⟨_,h⟩:=h
  have h:=jL h
  cases h
  exact fin t _ (jF (hρ x (by simp [Op.operands]) _ hu).2)
 case buildSlice t len parts=>
  replace h:=ze h
  obtain ⟨d,hd,h⟩:=h
  replace h:=ze h
  obtain ⟨e,he,h⟩:=h
  replace h:=ze h
  obtain ⟨ps,hps,h⟩:=h
  replace h:=ze h
  obtain ⟨s,hs,h⟩:=h
  replace h:=ze h
  obtain ⟨z,hz,h⟩:=h
  replace h:=zg h
  obtain ⟨hb,h⟩:=h
  rw [zk,Bool.and_eq_true,zE,decide_eq_true_eq,zw,beq_iff_eq,jx]at hb
  replace h:=ze h
  obtain ⟨l,hl,h⟩:=h
  replace h:=zg h
  obtain ⟨_,h⟩:=h
  have h:=jL h
  cases h
  obtain ⟨g1,g2⟩:=WY (ρ:=ρ) parts.toList ps hps (fun x hx v hv=>hρ x (by simpa [Op.operands] using hx) v hv)
  have hw:=Kq (jF (ko hE hz β w).2) len
  have hl:zdg (W0 s) (len*s) ps (Qy (zP z) len)=some l:=hl
  rw [← Yz (zP z) s hb.2 len]at hl
  exact fin e l (YK (β:=β) (W0 s) ps _ l hl g2 hw).2.1
 case makeSlice t l c=>
  replace h:=ze h
  obtain ⟨d,hd,h⟩:=h
  replace h:=ze h
  obtain ⟨e,he,h⟩:=h
  replace h:=ze h
  obtain ⟨a,ha,h⟩:=h
  replace h:=ze h
  obtain ⟨b,hb,h⟩:=h
  replace h:=ze h
  obtain ⟨p,hp,h⟩:=h
  replace h:=zg h
  obtain ⟨hi,h⟩:=h
  replace h:=qY h
  obtain ⟨n,hn,h⟩:=h
  replace h:=ze h
  obtain ⟨q,hq,h⟩:=h
  replace h:=zg h
  obtain ⟨hj,h⟩:=h
  replace h:=qY h
  obtain ⟨m,hm,h⟩:=h
  replace h:=ze h
  obtain ⟨i,hi',h⟩:=h
  replace h:=ze h
  obtain ⟨z,hz,h⟩:=h
  replace h:=zg h
  obtain ⟨_,h⟩:=h
  simp only [zX]at h
  have h:=jL h
  cases h
  exact fin e _ (Kq (jF (ko hE hz β w).2) m)
omit hE in
theorem zkg {a:Act}{o:Oper}{x:Value}{t:Nat} (h:o.dst≠some t):(a.put o.dst x).tmps.getD t undef=a.tmps.getD t undef:=by
 cases hd:o.dst with
 | none=>rfl
 | some d=>
  have:d≠t:=fun e=>h (by rw [hd,e])
  simp [Act.put,Array.getD_eq_getD_getElem?,this]
omit hE in
theorem Ka {a:Act}{o:Oper}{x:Value}{d:Nat} (h:o.dst=some d) (hd:d<a.tmps.size):(a.put o.dst x).tmps.getD d undef=x:=by
 simp [h,Act.put,Array.getD_eq_getD_getElem?,hd]
omit hE in
theorem zfs (a:Act) (dst:Option Tmp) (x:Value):(a.put dst x).tmps.size=a.tmps.size:=by cases dst<;>simp [Act.put]
omit hE in
theorem zbC {ops:List Oper}{Dc:Nat→Prop} (h:Vh ops Dc) {i:Nat}{o:Oper} (ho:ops[i]? = some o) (hpre:∀ e∈o.after.toList,Region.binds .any e=true→Dc e.on):Vh ops fun j=>Dc j∨j=i:=by
 rintro j o' hj (hd | rfl) e he hb
 ·exact .inl (h j o' hj hd e he hb)
 ·rw [ho]at hj
  cases hj
  exact .inl (hpre e he hb)
theorem Lag.same {N:Nat}{fr:Fr}{ops:List Oper} (hone:ZI ops=true) {Dc:Nat→Prop}{Da:Nat}{T:Tr zb}{H:zl}{β β1:Inj}{w w1:World}{a:Act} (hL:Lag E N fr ops Dc Da T H β w a.tmps)
  {m:OpM} (hm:m∈qu E ops) (hb:bit Da m.i=true) (hpre:∀ e∈m.o.after.toList,Region.binds .any e=true→Dc e.on) {v:zb} (hv:WF β1 v) (hR:Rel E.P β1 H w1) (hle:β.le β1)
  (hG:JT E β1 H) (hT:∀ d,m.o.dst=some d→tv T d=v) (hrow:∀ m'∈qu E ops,m'.kind=1→bit Da m'.i=true→¬ (Dc m'.i∨m'.i=m.i)→∀ d,m'.o.dst=some d→∀ c,bid (tv T d)=some c→β1 c=none) :
  Lag E N fr ops (fun j=>Dc j∨j=m.i) Da T H β1 w1 (a.put m.o.dst (zc β1 v)).tmps:=by
 have _:=hone
 have _:=hE
 obtain ⟨g1,_⟩:=jm hm
 refine ⟨hR,hG,by rw [zfs];exact hL.size,?_,?_,zbC hL.closed g1 hpre,?_,?_,hL.nn,?_,hL.lt,hL.order⟩
 ·intro t
  by_cases hd:m.o.dst=some t
  ·left
   rw [hT t hd]
   refine .inr ⟨hv,Ka hd ?_⟩
   rw [hL.size]
   exact hL.lt m.i m.o t g1 hb hd
  ·rw [zkg hd]
   rcases hL.tmp t with h | ⟨i,o,h1,h2,h3,h4⟩
   ·exact .inl (h.mono hle)
   ·refine .inr ⟨i,o,h1,h2,h3,?_⟩
    rintro (h | rfl)
    ·exact h4 h
    ·rw [g1]at h1;cases h1;exact hd h2
 ·rintro i (h | rfl)
  ·exact hL.sub i h
  ·exact hb
 ·intro m' hm' hk' hb'
  exact .inl (hL.heavy m' hm' hk' hb')
 ·intro m' hm' hk' hb' hn d hd c hc
  obtain ⟨_,c2,c3⟩:=hL.rows m' hm' hk' hb' (fun h=>hn (.inl h)) d hd c hc
  exact ⟨hrow m' hm' hk' hb' hn d hd c hc,c2,c3⟩
 ·intro m1 hm1 m2 hm2 k1 k2 b1 b2 n1 n2
  exact hL.apart m1 hm1 m2 hm2 k1 k2 b1 b2 (fun h=>n1 (.inl h)) (fun h=>n2 (.inl h))
theorem zht {β β1:Inj}{H:zl}{w w1:World} (hR:Rel E.P β H w) {b:zo} (hR1:Rel E.P β1 ⟨H.blk.set H.next b,H.next+1⟩ w1) (hX:Ext β H w β1 ⟨H.blk.set H.next b,H.next+1⟩ w1)
  {x:Nat×Nat×Nat} (hx:β1 H.next=some x) {q:Row} (hbq:b = .cells q.t q.n q.c) (hq:∀ i u,q.c.get i=some u→WF β u) {c:Nat} (hc:β c=none) (hcl:c<H.next) (hrow:H.row c=some q) :
  Rel E.P (β.put c x) H w1∧w.heap.size≤x.1:=by
 have _:=hE
 have hle1:β.le β1:=hX.le hR.bnd
 have hle2:β.le (β.put c x):=Inj.ky hc
 have hself:(H.blk.set H.next b).get H.next=some b:=by rw [Tr.zL,if_pos rfl]
 have hold:∀ {id bl},H.blk.get id=some bl→(H.blk.set H.next b).get id=some bl:=by
  intro id bl h
  have:=hR.live _ _ h
  rw [Tr.zL,if_neg (by omega)]
  exact h
 have hapart:∀ {id bl y},H.blk.get id=some bl→β id=some y→y.1≠x.1:=by
  intro id bl y h1 h2 e
  have:=hR1.yF (.inr hR.base) (hold h1) (hle1 _ _ h2) hself hx e
  have:=hR.live _ _ h1
  omega
 have hnew:w.heap.size≤x.1:=by
  rcases hX.new H.next x (Nat.le_refl _) hx with h | ⟨i,bl,y,_,h1,h2,h3⟩
  ·exact h
  ·exact absurd h3 (hapart h1 h2)
 refine ⟨⟨hR.base,?_,?_,?_,hR.live⟩,hnew⟩
 ·intro id bl y h1 h2
  by_cases hid:id=c
  ·subst hid
   rw [Inj.zM]at h2
   cases h2
   obtain ⟨b0,h1',ha⟩:=Qh hrow
   rw [h1]at h1'
   cases h1'
   refine (K0 ha).2 ?_
   obtain ⟨arr,fz,e1,e2⟩:=hR1.blk H.next b x hself hx |> fun h=>by rw [hbq]at h;exact h
   refine ⟨arr,fz,e1,e2.size,fun i u hu=>?_,e2.thaw,e2.al⟩
   obtain ⟨_,f2⟩:=e2.cell i u hu
   have hw:=hq i u hu
   obtain ⟨k1,k2⟩:=WF.mono hle2 u hw
   exact ⟨k1,by rw [f2,(WF.mono hle1 u hw).2,k2]⟩
  ·rw [Inj.z9 _ _ hid]at h2
   exact ((hR.blk id bl y h1 h2).back hle1 (hR1.blk id bl y (hold h1) (hle1 _ _ h2))).mono hle2
 ·intro i j bi bj y z h1 h2 h3 h4 e
  by_cases hi:i=c
  ·by_cases hj:j=c
   ·exact .inl (by rw [hi,hj])
   ·subst hi
    rw [Inj.zM]at h2
    cases h2
    rw [Inj.z9 _ _ hj]at h4
    exact absurd e.symm (hapart h3 h4)
  ·rw [Inj.z9 _ _ hi]at h2
   by_cases hj:j=c
   ·subst hj
    rw [Inj.zM]at h4
    cases h4
    exact absurd e (hapart h1 h2)
   ·rw [Inj.z9 _ _ hj]at h4
    exact hR.inj i j bi bj y z h1 h2 h3 h4 e
 ·intro id y h
  by_cases hid:id=c
  ·omega
  ·rw [Inj.z9 _ _ hid]at h;exact hR.bnd id y h
theorem Lag.step {N : Nat} {fr : Fr} {ops : Array Oper} (hone : ZI ops.toList = true) {Dc : Nat → Prop} {Da : Nat} {T : Tr zb} {H : zl} {β : Inj} {w : World} {a : Act} (hL : Lag E N fr ops.toList Dc Da T H β w a.tmps)
    {m : OpM} (hm : m ∈ qu E ops.toList) (hk : m.kind ≠ 2) (hb : bit Da m.i = true) (hn : ¬ Dc m.i) (hpre : ∀ e ∈ m.o.after.toList, Region.binds .any e = true → Dc e.on)
    (hag : again E ops.toList T H (isK 1 m) m.o = true) {β0 : Inj} {H0 : zl} {w0 : World} (hX0 : Ext β0 H0 w0 β H w) (hN : H0.next = N) (b : Frame) (rest : List Nat) (k : List Item) (cs : List Frame) :
    ∃ β' w' a', Lag E N fr ops.toList (fun j => Dc j ∨ j = m.i) Da T H β' w' a'.tmps ∧ Ext β0 H0 w0 β' H w' ∧ a'.defers = a.defers ∧
      Steps E.P (lone (b.atR a (.inRegion ops (m.i :: rest) :: k)) cs w) (lone (b.atR a' (.inRegion ops rest :: k)) cs w') := by
  obtain ⟨g1, _⟩ := jm hm
  have ho : ops[m.i]? = some m.o := by rw [← Array.getElem?_toList]; exact g1
  have hsg := zgQ hag
  have hw := hL.wanted g1 hpre hsg
  obtain ⟨hkind, _⟩ := X1 hm hk
  have unw : yZ ops.toList T m.o = false → sameAs T m.o.dst qW = true → ∃ β' w' a', Lag E N fr ops.toList (fun j => Dc j ∨ j = m.i) Da T H β' w' a'.tmps ∧ Ext β0 H0 w0 β' H w' ∧ a'.defers = a.defers ∧
      Steps E.P (lone (b.atR a (.inRegion ops (m.i :: rest) :: k)) cs w) (lone (b.atR a' (.inRegion ops rest :: k)) cs w') := by
    intro hf hs
    have hstep := stepR_op_skip (P := E.P) (b := b) (a := a) (k := k) (cs := cs) (w := w) (ops := ops) (i := m.i) (rest := rest) (by rw [ho]; simp only [Option.map_some, Option.getD_some]; rw [hw]; exact hf)
    rw [ho] at hstep
    simp only [Option.bind_some] at hstep
    have := hL.same hE hone hm hb hpre (v := qW) (by simp) hL.rel (Inj.le.refl _) hL.glob (by
      intro d hd
      unfold sameAs at hs
      rw [hd, zd] at hs
      unfold tv
      cases ht : T.get d with
      | none => rfl
      | some u => rw [ht, zd] at hs; rw [zN _ _ hs]; rfl) (fun m' hm' hk' hb' hn' d hd c hc => (hL.rows m' hm' hk' hb' (fun h => hn' (.inl h)) d hd c hc).1)
    rw [YT] at this
    exact ⟨β, w, _, this, hX0, put_defers _ _ _, .one hstep⟩
  have wan : yZ ops.toList T m.o = true → zeM E T H (isK 1 m) m.o = true → ∃ β' w' a', Lag E N fr ops.toList (fun j => Dc j ∨ j = m.i) Da T H β' w' a'.tmps ∧ Ext β0 H0 w0 β' H w' ∧ a'.defers = a.defers ∧
      Steps E.P (lone (b.atR a (.inRegion ops (m.i :: rest) :: k)) cs w) (lone (b.atR a' (.inRegion ops rest :: k)) cs w') := by
    intro hf hs
    unfold zeM at hs
    cases hx : aop m.o.op E Zi T H with
    | none => rw [hx] at hs; cases hs
    | some p =>
      obtain ⟨v, H1⟩ := p
      rw [hx, zd] at hs
      have hops := hL.operands g1 hpre
      have hcall : ∀ c, m.o.op = .call c → ∃ bb, c.callee = .builtin bb := by
        rcases hkind with ⟨_, h0⟩ | ⟨_, h1, _⟩
        · exact (VJ h0 hx).2
        · exact fun c hc => absurd hc ((Xz h1 hx).2.2 c)
      obtain ⟨x, w1, ⟨β1, rfl, r1, r2, r3⟩, hst⟩ := (zdA hE hL.rel hL.glob.facts hx hops hcall).res.steps (b := b) (rest := rest) (k := k) (cs := cs) ho (hw.trans hf) (K2 hx)
      have hle1 := r3.le hL.rel.bnd
      rcases hkind with ⟨hk0, h0⟩ | ⟨hk1, h1, d, hd⟩
      ·
        obtain ⟨rfl, _⟩ := VJ h0 hx
        have hz : isK 1 m = false := by unfold isK; rw [hk0]; rfl
        rw [hz, ku] at hs
        have := hL.same hE hone hm hb hpre r1 r2 hle1 (hL.glob.ext hL.rel.bnd r3) (by
          intro d hd
          unfold sameAs at hs
          rw [hd, zd] at hs
          unfold tv
          cases ht : T.get d with
          | none => rw [ht] at hs; cases hs
          | some u => rw [ht, zd] at hs; rw [zN _ _ hs]; rfl) (fun m' hm' hk' hb' hn' d hd c hc => by
            obtain ⟨c1, c2, _⟩ := hL.rows m' hm' hk' hb' (fun h => hn' (.inl h)) d hd c hc
            rw [r3.old c c2]; exact c1)
        exact ⟨β1, w1, _, this, hX0.trans r3, put_defers _ _ _, hst⟩
      ·
        have hz : isK 1 m = true := by unfold isK; rw [hk1]; rfl
        rw [hz, qE] at hs
        obtain ⟨⟨t, n, cc, rfl⟩, hvf, _⟩ := Xz h1 hx
        unfold zjr at hs
        rw [hd, zd] at hs
        cases ht : T.get d with
        | none => rw [ht] at hs; cases hs
        | some u =>
          rw [ht, zd] at hs
          cases hu : bid u with
          | none => rw [hu] at hs; cases hs
          | some c =>
            rw [hu, zd] at hs
            cases hrc : H.row c with
            | none => rw [hrc] at hs; cases hs
            | some q =>
              rw [hrc, zd] at hs
              cases hrn : (zl.row ⟨H.blk.set H.next (.cells t n cc), H.next + 1⟩ H.next) with
              | none => simp only [hrn] at hs; cases hs
              | some q' =>
                simp only [hrn, zd] at hs
                rw [zk, Bool.and_eq_true] at hs
                have hre := zN _ _ hs.1
                have hqq := zmi hs.2
                subst hqq
                have htv : tv T d = u := by unfold tv; rw [ht]; rfl
                obtain ⟨c1, c2, c3⟩ := hL.rows m hm hk1 hb hn d hd c (by rw [htv]; exact hu)
                have hwf := znt hE h1 hx (w := w) hops q hrn
                have hbk : zo.cells t n cc = .cells q.t q.n q.c := by
                  obtain ⟨b0, this, ha⟩ := Qh hrn
                  have this : (H.blk.set H.next (.cells t n cc)).get H.next = some b0 := this
                  rw [Tr.zL, if_pos rfl] at this
                  cases this
                  cases ha
                  rfl
                have hsome : (β1 H.next).isSome := by
                  rcases hvf with rfl | ⟨l, cp, rfl⟩
                  · exact r1
                  · exact r1.1
                obtain ⟨x, hx1⟩ := Option.isSome_iff_exists.1 hsome
                obtain ⟨k1, k2⟩ := zht hE hL.rel r2 r3 hx1 hbk hwf c1 c2 hrc
                have hcv : WF (β.put c x) u ∧ zc (β.put c x) u = zc β1 v := by
                  rw [← hre]
                  rcases hvf with rfl | ⟨l, cp, rfl⟩
                  · refine ⟨by simp [zoS, WF, Inj.zM], ?_⟩
                    simp [zoS, zc, Inj.addr, Inj.blk, Inj.sh, Inj.zM, hx1]
                  · refine ⟨⟨by simp [Inj.zM], r1.2⟩, ?_⟩
                    simp [zoS, zc, Inj.addr, Inj.blk, Inj.sh, Inj.zM, hx1]
                have hgl : JT E (β.put c x) H := by
                  refine ⟨fun g hg => ?_, hL.glob.next, hL.glob.facts.mono (Inj.ky c1), hL.glob.tabs, hL.glob.alts.mono (Inj.ky c1)⟩
                  rw [Inj.z9]
                  · exact hL.glob.at_ g hg
                  · rintro rfl
                    rw [hL.glob.at_ g hg] at c1
                    cases c1
                have := hL.same hE hone hm hb hpre (v := u) hcv.1 k1 (Inj.ky c1) hgl (by
                  intro d' hd'
                  rw [hd] at hd'
                  cases hd'
                  exact htv) (fun m' hm' hk' hb' hn' d' hd' c' hc' => by
                    obtain ⟨e1, _, _⟩ := hL.rows m' hm' hk' hb' (fun h => hn' (.inl h)) d' hd' c' hc'
                    have hne : c' ≠ c := by
                      rintro rfl
                      exact hL.apart m hm m' hm' hk1 hk' hb hb' hn (fun h => hn' (.inl h)) (fun e => hn' (.inr e.symm)) d d' hd hd' c' (by rw [htv]; exact hu) hc'
                    rw [Inj.z9 _ _ hne]; exact e1)
                rw [hcv.2] at this
                refine ⟨β.put c x, w1, _, this, ?_, put_defers _ _ _, hst⟩
                refine ⟨fun id hid => ?_, hX0.next, hX0.apart, hX0.gone, hX0.ro, fun id y hid hy => ?_, fun c' hc' hr => ?_, Nat.le_trans hX0.size r3.size, r3.tape.trans hX0.tape, r3.os.trans hX0.os, r3.output.trans hX0.output⟩
                · rw [Inj.z9 _ _ (by omega)]; exact hX0.old id hid
                · by_cases hidc : id = c
                  · subst hidc
                    rw [Inj.zM] at hy
                    cases hy
                    exact .inl (Nat.le_trans hX0.size k2)
                  · rw [Inj.z9 _ _ hidc] at hy
                    exact hX0.new id y hid hy
                · rw [r3.frame c' (Nat.lt_of_lt_of_le hc' hX0.size) ?_]
                  · exact hX0.frame c' hc' hr
                  · intro hr'
                    rcases hX0.zmu hr' with h | h
                    · omega
                    · exact hr h
  unfold again at hag
  unfold yZ at unw wan
  cases hg : m.o.guard with
  | none =>
    rw [hg] at hag wan
    exact wan rfl hag
  | some g =>
    rw [hg, zd, zm, if_neg (by rw [hsg g hg]; decide), zm] at hag
    rw [hg] at wan unw
    split at hag
    · rename_i h; exact wan h hag
    · rename_i h; exact unw (by simpa using h) hag
end
end Go.AEv
namespace Go.AEv
set_option linter.unusedSectionVars false
variable [Unk]
section
variable {E:Env} (hE:kH E)
include hE
omit hE in
theorem Lag.both {N:Nat}{fr:Fr}{ops:List Oper} (hone:ZI ops=true) {Dc:Nat→Prop}{Da:Nat}{T:Tr zb}{H H1:zl}{β β1:Inj}{w w1:World}{a:Act} (hL:Lag E N fr ops Dc Da T H β w a.tmps)
  {m:OpM} (hm:m∈qu E ops) (hb:bit Da m.i=false) (hpre:∀ e∈m.o.after.toList,Region.binds .any e=true→Dc e.on) (hpreA:Ww m.pre Da=true) {v:zb} (hv:WF β1 v) (hR:Rel E.P β1 H1 w1)
  (hX:Ext β H w β1 H1 w1) (hlt:∀ d,m.o.dst=some d→d<fr.n) :
  Lag E N fr ops (fun j=>Dc j∨j=m.i) (Vd Da m.i) (zaB T m.o v) H1 β1 w1 (a.put m.o.dst (zc β1 v)).tmps:=by
 obtain ⟨g1,g2,g3,g4⟩:=jm hm
 have hle:=hX.le hL.rel.bnd
 have old:∀ {i o t},ops[i]? = some o→o.dst=some t→i≠m.i→tv (zaB T m.o v) t=tv T t:=by
  intro i o t hi hd hne
  apply ZV
  intro hd'
  exact hne (Ui hone i m.i o m.o t hi g1 hd hd')
 have hbit:∀ i,bit (Vd Da m.i) i=true→i≠m.i→bit Da i=true:=by
  intro i hi hne
  rw [Y0,Bool.or_eq_true,decide_eq_true_eq]at hi
  rcases hi with hi | hi
  ·exact hi
  ·exact absurd hi.symm hne
 have hadd:∀ i,bit Da i=true→bit (Vd Da m.i) i=true:=fun i hi=>by rw [Y0,hi];rfl
 have hself:bit (Vd Da m.i) m.i=true:=by rw [Y0];simp
 refine ⟨hR,hL.glob.ext hL.rel.bnd hX,by rw [zfs];exact hL.size,?_,?_,zbC hL.closed g1 hpre,?_,?_,Nat.le_trans hL.nn hX.next,?_,?_,zcR g1 (by rw [← g3];exact hpreA) hL.order⟩
 ·intro t
  by_cases hd:m.o.dst=some t
  ·left
   rw [Qv hd]
   refine .inr ⟨hv,Ka hd ?_⟩
   rw [hL.size]
   exact hlt t hd
  ·rw [zkg hd,ZV hd]
   rcases hL.tmp t with h | ⟨i,o,h1,h2,h3,h4⟩
   ·exact .inl (h.mono hle)
   ·refine .inr ⟨i,o,h1,h2,hadd i h3,?_⟩
    rintro (h | rfl)
    ·exact h4 h
    ·rw [hb]at h3;cases h3
 ·rintro i (h | rfl)
  ·exact hadd i (hL.sub i h)
  ·exact hself
 ·intro m' hm' hk' hb'
  by_cases hi:m'.i=m.i
  ·exact .inr hi
  ·exact .inl (hL.heavy m' hm' hk' (hbit _ hb' hi))
 ·intro m' hm' hk' hb' hn d hd c hc
  have hi:m'.i≠m.i:=fun h=>hn (.inr h)
  obtain ⟨q1,_⟩:=jm hm'
  rw [old q1 hd hi]at hc
  obtain ⟨c1,c2,c3⟩:=hL.rows m' hm' hk' (hbit _ hb' hi) (fun h=>hn (.inl h)) d hd c hc
  exact ⟨by rw [hX.old c c2];exact c1,Nat.lt_of_lt_of_le c2 hX.next,c3⟩
 ·intro m1 hm1 m2 hm2 k1 k2 b1 b2 n1 n2 hne d1 d2 e1 e2 c hc
  have h1:m1.i≠m.i:=fun h=>n1 (.inr h)
  have h2:m2.i≠m.i:=fun h=>n2 (.inr h)
  obtain ⟨q1,_⟩:=jm hm1
  obtain ⟨q2,_⟩:=jm hm2
  rw [old q1 e1 h1]at hc
  rw [old q2 e2 h2]
  exact hL.apart m1 hm1 m2 hm2 k1 k2 (hbit _ b1 h1) (hbit _ b2 h2) (fun h=>n1 (.inl h)) (fun h=>n2 (.inl h)) hne d1 d2 e1 e2 c hc
 ·intro i o d hi hbi hd
  by_cases he:i=m.i
  ·subst he
   rw [g1]at hi
   cases hi
   exact hlt d hd
  ·exact hL.lt i o d hi (hbit _ hbi he) hd
omit hE in
theorem Lag.zle {rec:Rec} (hO:Kf E rec) {N:Nat}{fr:Fr}{ops:Array Oper} (hone:ZI ops.toList=true) {Dc:Nat→Prop}{Da:Nat}{T:Tr zb}{H:zl}{β:Inj}{w:World}{a:Act} (hL:Lag E N fr ops.toList Dc Da T H β w a.tmps)
  {m:OpM} (hm:m∈qu E ops.toList) (hb:bit Da m.i=false) (hpre:∀ e∈m.o.after.toList,Region.binds .any e=true→Dc e.on) (hpreA:Ww m.pre Da=true)
  {K:zeU}{r:qZ} (he:UO E rec fr.n ops.toList m.o K T H=r) (hr:r≠.fail) {β0:Inj}{H0:zl}{w0:World} (hX0:Ext β0 H0 w0 β H w) (b:Frame) (rest:List Nat) (k:List Item) (cs:List Frame) :
  ∃ T' H' β' w' a',K T' H'=r∧Lag E N fr ops.toList (fun j=>Dc j∨j=m.i) (Vd Da m.i) T' H' β' w' a'.tmps∧Ext β0 H0 w0 β' H' w'∧a'.defers=a.defers ∧
   Steps E.P (lone (b.atR a (.inRegion ops (m.i::rest)::k)) cs w) (lone (b.atR a' (.inRegion ops rest::k)) cs w'):=by
 obtain ⟨g1,_⟩:=jm hm
 have ho:ops[m.i]? = some m.o:=by rw [← Array.getElem?_toList];exact g1
 have hw:=hL.wanted g1 hpre (zi0 he hr)
 obtain ⟨v,H1,hK,hlt,hc⟩:=Vb he hr
 rcases hc with ⟨hf,hx⟩ | ⟨hf,rfl,rfl⟩
 ·obtain ⟨x,w1,⟨β1,rfl,r1,r2,r3⟩,hst⟩:=(hO β H w T m.o a.eval v H1 hL.rel hL.glob (hL.operands g1 hpre) hx).steps (b:=b) (rest:=rest) (k:=k) (cs:=cs) ho (hw.trans hf) (K2 hx)
  exact ⟨zaB T m.o v,H1,β1,w1,_,hK,hL.both hone hm hb hpre hpreA r1 r2 r3 hlt,hX0.trans r3,put_defers _ _ _,hst⟩
 ·have hstep:=stepR_op_skip (P:=E.P) (b:=b) (a:=a) (k:=k) (cs:=cs) (w:=w) (ops:=ops) (i:=m.i) (rest:=rest) (by rw [ho];simp only [Option.map_some,Option.getD_some];rw [hw];exact hf)
  rw [ho]at hstep
  simp only [Option.bind_some]at hstep
  have hl:=hL.both hone hm hb hpre hpreA (v:=qW) (by simp) hL.rel (.refl _ _ _ hL.rel.bnd) hlt
  rw [YT]at hl
  exact ⟨zaB T m.o qW,H1,β,w,_,hK,hl,hX0,put_defers _ _ _,.one hstep⟩
omit hE in
theorem Ext.zd3 {β0 β:Inj}{H0 H H':zl}{w0 w:World} (hb:100≤H.next) (h:Ext β0 H0 w0 β H w) (hH:H'=H∨∃ b,H'=⟨H.blk.set H.next b,H.next+1⟩):Ext β0 H0 w0 β H' w:=by
 rcases hH with rfl | ⟨b,rfl⟩
 ·exact h
 ·have hn:=h.next
  have hget:∀ id,id<H0.next→(H.blk.set H.next b).get id=H.blk.get id:=by
   intro id hid
   rw [Tr.zL,if_neg (by omega)]
  have hget60:∀ id,id<100→(H.blk.set H.next b).get id=H.blk.get id:=by
   intro id hid
   rw [Tr.zL,if_neg (by omega)]
  exact ⟨h.old,Nat.le_succ_of_le hn,fun id hid e=>(hget id hid).trans (h.apart id hid e),fun id c hid e=>h.gone id c hid ((hget id hid).symm.trans e),(fun id hid=>(hget60 id hid).trans (h.ro id hid)),h.new,h.frame,h.size,h.tape,h.os,h.output⟩
omit hE in
theorem zfx {rec:Rec}{N:Nat}{fr:Fr}{ops:List Oper} (hone:ZI ops=true) {Dc:Nat→Prop}{β:Inj}{w:World}{arr:Array Value}{K:DrF}{r:qZ} (hr:r≠.fail) {β0:Inj}{H0:zl}{w0:World} :
  ∀ (l:List OpM),(∀ m∈l,m∈qu E ops)→∀ (Da:Nat) (T:Tr zb) (H:zl),Ue E rec fr.n ops K l Da T H=r→Lag E N fr ops Dc Da T H β w arr→Ext β0 H0 w0 β H w →
   ∃ Da' T' H',K Da' T' H'=r∧Lag E N fr ops Dc Da' T' H' β w arr∧Ext β0 H0 w0 β H' w:=by
 intro l
 induction l with
 | nil=>intro _ Da T H h hL hX;exact ⟨Da,T,H,h,hL,hX⟩
 | cons m l ih=>
  intro hml Da T H h hL hX
  have e0:Ue E rec fr.n ops K (m::l) Da T H=ifB (bit Da m.i) (Ue E rec fr.n ops K l Da T H) (ifB (zq (j8 (isK 2 m)) (Ww m.pre Da)) (UO E rec fr.n ops m.o (fun T H=>Ue E rec fr.n ops K l (Vd Da m.i) T H) T H) (Ue E rec fr.n ops K l Da T H)):=rfl
  rw [e0,zm]at h
  have hml':∀ m∈l,m∈qu E ops:=fun m' hm'=>hml m' (by simp [hm'])
  split at h
  ·exact ih hml' Da T H h hL hX
  ·rename_i hb
   rw [zm]at h
   split at h
   ·rename_i hc
    rw [zk,Bool.and_eq_true,qy]at hc
    obtain ⟨hk,hp⟩:=hc
    have hm:=hml m (by simp)
    have hk:m.kind≠2:=by
     intro hk2
     unfold isK at hk
     rw [hk2]at hk
     cases hk
    obtain ⟨v,H1,hK,hlt,hx⟩:=Vb h hr
    have hx':(aop m.o.op E rec T H=some (v,H1))∨(v=qW∧H1=H):=by
     rcases hx with ⟨_,hx⟩ | ⟨_,hx⟩
     ·exact .inl hx
     ·exact .inr hx
    have hH:H1=H∨∃ b,H1=⟨H.blk.set H.next b,H.next+1⟩:=by
     rcases hx' with hx | ⟨_,rfl⟩
     ·rcases (X1 hm hk).1 with ⟨_,h0⟩ | ⟨_,h1,_⟩
      ·exact .inl (VJ h0 hx).1
      ·obtain ⟨⟨t,n,c,e⟩,_⟩:=Xz h1 hx
       exact .inr ⟨_,e⟩
     ·exact .inl rfl
    exact ih hml' (Vd Da m.i) (zaB T m.o v) H1 hK (hL.zrf hone hm hk (by simpa using hb) hp hlt hx') (hX.zd3 hL.rel.base hH)
   ·exact ih hml' Da T H h hL hX
omit hE in
theorem zgP {ops:List Oper}{HA D:Nat}{T:Tr zb}{H:zl}:∀ {l:List OpM},zbT E ops HA D T H l=true→∀ m∈l,m.kind≠2→bit D m.i=true→bit HA m.i=false→again E ops T H (isK 1 m) m.o=true:=by
 intro l
 induction l with
 | nil=>intro _ m h;cases h
 | cons x l ih=>
  intro h m hm hk hb ha
  have e0:zbT E ops HA D T H (x::l)=ifB (zq (j8 (isK 2 x)) (zq (bit D x.i) (j8 (bit HA x.i)))) (ifB (again E ops T H (isK 1 x) x.o) (zbT E ops HA D T H l) false) (zbT E ops HA D T H l):=rfl
  rw [e0,zm]at h
  rcases List.mem_cons.1 hm with rfl | hm
  ·rw [if_pos]at h
   ·rw [zm]at h
    split at h
    ·assumption
    ·cases h
   ·have hk2:isK 2 m=false:=by
     unfold isK
     rw [zw]
     simpa using hk
    rw [hk2,hb,ha];rfl
  ·split at h
   ·rw [zm]at h
    split at h
    ·exact ih h m hm hk hb ha
    ·cases h
   ·exact ih h m hm hk hb ha
omit hE in
theorem YM {D:Nat}:∀ {l:List OpM}{m:OpM},m∈enabled D l↔m∈l∧bit D m.i=false∧Ww m.pre D=true:=by
 intro l
 induction l with
 | nil=>intro m;simp [enabled]
 | cons x l ih=>
  intro m
  have e0:enabled D (x::l)=ifB (zq (j8 (bit D x.i)) (Ww x.pre D)) (x::enabled D l) (enabled D l):=rfl
  rw [e0,zm,zk,qy]
  by_cases hc:(!bit D x.i&&Ww x.pre D)=true
  ·rw [if_pos hc,List.mem_cons,List.mem_cons,ih]
   rw [Bool.and_eq_true]at hc
   constructor
   ·rintro (rfl | ⟨h1,h2⟩)
    ·exact ⟨.inl rfl,by simpa using hc.1,hc.2⟩
    ·exact ⟨.inr h1,h2⟩
   ·rintro ⟨rfl | h1,h2⟩
    ·exact .inl rfl
    ·exact .inr ⟨h1,h2⟩
  ·rw [if_neg hc,List.mem_cons,ih]
   constructor
   ·rintro ⟨h1,h2⟩;exact ⟨.inr h1,h2⟩
   ·rintro ⟨rfl | h1,h2,h3⟩
    ·exact absurd (by rw [h2,h3];rfl) hc
    ·exact ⟨h1,h2,h3⟩
structure Vg (ops:Array Oper) (Dc:Nat→Prop) (listed:Array Bool):Prop where
 size:listed.size=ops.size
 iff:∀ i,listed[i]? = some true↔Dc i
omit hE in
theorem Vg.add {ops:Array Oper}{Dc:Nat→Prop}{listed:Array Bool} (h:Vg ops Dc listed) {i:Nat} (hi:i<ops.size):Vg ops (fun j=>Dc j∨j=i) (listed.setIfInBounds i true) where
 size:=by simpa using h.size
 iff:=fun j=>by
  rw [Array.getElem?_setIfInBounds]
  by_cases hj:i=j
  ·subst hj
   rw [if_pos rfl,if_pos (by rw [h.size];exact hi)]
   simp
  ·rw [if_neg hj,h.iff]
   constructor
   ·exact .inl
   ·rintro (h' | rfl)
    ·exact h'
    ·exact absurd rfl hj
omit hE in
theorem WA {ops:Array Oper}{Dc:Nat→Prop}{listed:Array Bool} (h:Vg ops Dc listed) {i:Nat}:i∈Region.ready .any ops listed↔¬ Dc i∧∃ o,ops[i]? = some o∧∀ e∈o.after.toList,Region.binds .any e=true→Dc e.on:=by
 unfold Region.ready
 rw [List.mem_filter,List.mem_range,Bool.and_eq_true]
 have hg:∀ j,listed.getD j false=true↔Dc j:=by
  intro j
  rw [← h.iff,Array.getD_eq_getD_getElem?]
  cases listed[j]? <;> simp
 constructor
 ·rintro ⟨h1,h2,h3⟩
  have ho:ops[i]? = some ops[i]:=Array.getElem?_eq_getElem h1
  rw [ho]at h3
  simp only [Option.map_some,Option.getD_some]at h3
  refine ⟨fun hd=>?_,ops[i],ho,fun e he hb=>?_⟩
  ·rw [Array.getD_eq_getD_getElem?,(h.iff i).2 hd]at h2
   simp at h2
  ·rw [← Array.all_toList]at h3
   have:=List.all_eq_true.1 h3 e he
   rw [hb]at this
   exact (hg _).1 (by simpa using this)
 ·rintro ⟨h1,o,ho,h2⟩
  have hlt:=(Array.getElem?_eq_some_iff.1 ho).1
  refine ⟨hlt,?_,?_⟩
  ·rw [Array.getD_eq_getD_getElem?]
   have:listed[i]?≠some true:=fun e=>h1 ((h.iff i).1 e)
   obtain ⟨bv,hs⟩:∃ bv,listed[i]? = some bv:=⟨_,Array.getElem?_eq_getElem (by rw [h.size];exact hlt)⟩
   rw [hs]at this ⊢
   simp at this ⊢
   exact this
  ·rw [ho]
   simp only [Option.map_some,Option.getD_some]
   rw [← Array.all_toList,List.all_eq_true]
   intro e he
   by_cases hb:Region.binds .any e=true
   ·rw [(hg _).2 (h2 e he hb)];simp
   ·simp [hb]
omit hE in
theorem zln {Dc:Nat→Prop}:∀ (L:List Nat),(∃ j∈L,¬ Dc j)→∃ L1 j L2,L=L1++j::L2∧¬ Dc j∧∀ i∈L1,Dc i:=by
 intro L
 induction L with
 | nil=>rintro ⟨j,h,_⟩;cases h
 | cons x L ih=>
  rintro ⟨j,h1,h2⟩
  by_cases hx:Dc x
  ·rcases List.mem_cons.1 h1 with rfl | h1
   ·exact absurd hx h2
   ·obtain ⟨L1,i,L2,e,a1,a2⟩:=ih ⟨j,h1,h2⟩
    refine ⟨x::L1,i,L2,by rw [e];rfl,a1,?_⟩
    intro y hy
    rcases List.mem_cons.1 hy with rfl | hy
    ·exact hx
    ·exact a2 y hy
  ·exact ⟨[],x,L,rfl,hx,by simp⟩
omit hE in
theorem zhi {rec:Rec}{N:Nat}{fr:Fr}{ops:Array Oper}{Dc:Nat→Prop}{Da:Nat}{T:Tr zb}{H:zl}{β:Inj}{w:World}{arr:Array Value} (hL:Lag E N fr ops.toList Dc Da T H β w arr)
  {listed:Array Bool} (hl:Vg ops Dc listed) (hn:Region.ready .any ops listed=[]) {next:Nat→DrF}{HA:Nat}{r:qZ} (h:JL next E rec fr.n ops.toList (qu E ops.toList) HA Da T H=r) (hr:r≠.fail) :
  ∀ i,i<ops.size→Dc i:=by
 obtain ⟨L,hL1,hL2⟩:=hL.order
 by_cases hp:∃ j∈L,¬ Dc j
 ·exfalso
  obtain ⟨L1,j,L2,e,a1,a2⟩:=zln L hp
  obtain ⟨o,ho,hpre⟩:=hL2 L1 j L2 e
  have:j∈Region.ready .any ops listed:=(WA hl).2 ⟨a1,o,by rw [← Array.getElem?_toList];exact ho,fun e he hb=>a2 _ (hpre e he hb)⟩
  rw [hn]at this
  cases this
 ·have hall:∀ j,bit Da j=true→Dc j:=fun j hj=>Classical.byContradiction fun hd=>hp ⟨j,(hL1 j).1 hj,hd⟩
  unfold JL at h
  rw [zm]at h
  split at h
  case isFalse=>exact absurd h.symm hr
  revert h
  cases hen:enabled Da (qu E ops.toList) with
  | nil=>
   intro h
   rw [zee,zm]at h
   split at h
   ·rename_i hf
    rw [jx]at hf
    intro i hi
    exact hall i (zol hf (by simpa using hi))
   ·exact absurd h.symm hr
  | cons m l=>
   intro _
   exfalso
   have hm:m∈enabled Da (qu E ops.toList):=by rw [hen];simp
   obtain ⟨h1,h2,h3⟩:=YM.1 hm
   obtain ⟨g1,_,g3,_⟩:=jm h1
   have:m.i∈Region.ready .any ops listed:=(WA hl).2 ⟨fun hd=>(by rw [hL.sub _ hd]at h2;cases h2),m.o,by rw [← Array.getElem?_toList];exact g1,fun e he hb=>
    hall _ (zdQ h3 (by rw [g3];exact (UT _ _).2 ⟨e,he,hb,rfl⟩))⟩
   rw [hn]at this
   cases this
omit hE in
theorem zcA {rec:Rec}{N:Nat}{fr:Fr}{ops:Array Oper}{Dc:Nat→Prop}{Da:Nat}{T:Tr zb}{H:zl}{β:Inj}{w:World}{arr:Array Value} (hL:Lag E N fr ops.toList Dc Da T H β w arr)
  (hall:∀ i,i<ops.size→Dc i) {next:Nat→DrF}{HA:Nat}{r:qZ} (h:JL next E rec fr.n ops.toList (qu E ops.toList) HA Da T H=r) (hr:r≠.fail) :
  r = .nrm T H∧kI β fr.n T arr:=by
 refine ⟨?_,hL.size,fun t=>?_⟩
 ·unfold JL at h
  rw [zm]at h
  split at h
  case isFalse=>exact absurd h.symm hr
  have hen:enabled Da (qu E ops.toList)=[]:=by
   cases hen:enabled Da (qu E ops.toList) with
   | nil=>rfl
   | cons m l=>
    exfalso
    have hm:m∈enabled Da (qu E ops.toList):=by rw [hen];simp
    obtain ⟨h1,h2,h3⟩:=YM.1 hm
    obtain ⟨g1,_⟩:=jm h1
    have hlt:=(List.getElem?_eq_some_iff.1 g1).1
    rw [hL.sub _ (hall _ (by simpa using hlt))]at h2
    cases h2
  rw [hen,zee,zm]at h
  split at h
  ·exact h.symm
  ·exact absurd h.symm hr
 ·rcases hL.tmp t with h | ⟨i,o,h1,_,_,h4⟩
  ·exact h
  ·have hlt:=(List.getElem?_eq_some_iff.1 h1).1
   exact absurd (hall i (by simpa using hlt)) h4
theorem zlq {rec:Rec} (hO:Kf E rec) {N:Nat}{fr:Fr}{ops:Array Oper} (hone:ZI ops.toList=true) {β0:Inj}{H0:zl}{w0:World} (hN:H0.next=N) (b:Frame) (k:List Item) (cs:List Frame) {r:qZ} (hr:r≠.fail) :
  ∀ (fc t:Nat) (listed:Array Bool) (Dc:Nat→Prop) (Da:Nat) (T:Tr zb) (H:zl) (β:Inj) (w:World) (a:Act) (f HA:Nat),
   Lag E N fr ops.toList Dc Da T H β w a.tmps→Vg ops Dc listed→listed.toList.count false≤fc→(∀ j,bit HA j=true→Dc j)→Ext β0 H0 w0 β H w →
   JL (zqp E rec fr.n ops.toList (qu E ops.toList) f) E rec fr.n ops.toList (qu E ops.toList) HA Da T H=r →
   ∃ β' w' a' T' H',r = .nrm T' H'∧Rel E.P β' H' w'∧Ext β0 H0 w0 β' H' w'∧kI β' fr.n T' a'.tmps∧a'.defers=a.defers ∧
    Steps E.P (lone (b.atR a (.inRegion ops (Region.linearise.go .any ops fc t listed [])::k)) cs w) (lone (b.atR a' k) cs w'):=by
 intro fc
 induction fc with
 | zero=>
  intro t listed Dc Da T H β w a f HA hL hl hcnt hHA hX h
  have hall:∀ i,i<ops.size→Dc i:=by
   intro i hi
   obtain ⟨bv,hs⟩:∃ bv,listed[i]? = some bv:=⟨_,Array.getElem?_eq_getElem (by rw [hl.size];exact hi)⟩
   rw [← hl.iff,hs]
   have hz:listed.toList.count false=0:=by omega
   rw [List.count_eq_zero]at hz
   cases bv with
   | true=>rfl
   | false=>
    exfalso
    apply hz
    rw [← Array.getElem?_toList]at hs
    exact List.mem_of_getElem? hs
  obtain ⟨e,hT⟩:=zcA hL hall h hr
  exact ⟨β,w,a,T,H,e,hL.rel,hX,hT,rfl,.one stepR_region_end⟩
 | succ fc ih=>
  intro t listed Dc Da T H β w a f HA hL hl hcnt hHA hX h
  have hgo:Region.linearise.go .any ops (fc+1) t listed []=match (Region.ready .any ops listed)[t % (Region.ready .any ops listed).length]? with
   | some i=>Region.linearise.go .any ops fc (t / (Region.ready .any ops listed).length) (listed.setIfInBounds i true) [i]
   | none=>[]:=rfl
  rw [hgo]
  cases hi:(Region.ready .any ops listed)[t % (Region.ready .any ops listed).length]? with
  | none=>
   have hnil:Region.ready .any ops listed=[]:=by
    cases hrd:Region.ready .any ops listed with
    | nil=>rfl
    | cons x xs=>
     rw [hrd]at hi
     have hlt:t % (x::xs).length<(x::xs).length:=Nat.mod_lt _ (by simp)
     rw [List.getElem?_eq_none_iff]at hi
     omega
   obtain ⟨e,hT⟩:=zcA hL (zhi hL hl hnil h hr) h hr
   exact ⟨β,w,a,T,H,e,hL.rel,hX,hT,rfl,.one stepR_region_end⟩
  | some i=>
   simp only []
   rw [linearise_go_acc,List.reverse_singleton,List.singleton_append]
   obtain ⟨hnd,o,ho,hpre⟩:=(WA hl).1 (List.mem_of_getElem? hi)
   have hlt:=(Array.getElem?_eq_some_iff.1 ho).1
   have ho':ops.toList[i]? = some o:=by rw [Array.getElem?_toList];exact ho
   obtain ⟨m,hm,rfl,rfl⟩:=zfV E ho'
   have hl':=hl.add hlt
   have hcnt':(listed.setIfInBounds m.i true).toList.count false≤fc:=by
    rw [Array.toList_setIfInBounds]
    have hlen:m.i<listed.toList.length:=by simpa [hl.size] using hlt
    rw [List.count_set hlen]
    have hf:listed.toList[m.i]=false:=by
     have hs:listed.toList[m.i]? = some listed.toList[m.i]:=List.getElem?_eq_getElem hlen
     cases hv:listed.toList[m.i] with
     | true=>rw [hv,Array.getElem?_toList]at hs;exact absurd ((hl.iff m.i).1 hs) hnd
     | false=>rfl
    have hpos:1≤listed.toList.count false:=by
     rw [Nat.one_le_iff_ne_zero,Ne,List.count_eq_zero]
     intro hz
     apply hz
     rw [← hf]
     exact List.getElem_mem hlen
    rw [hf,if_pos (by rfl),if_neg (by decide)]
    omega
   cases hb:bit Da m.i with
   | true=>
    have hk:m.kind≠2:=fun hk=>hnd (hL.heavy m hm hk hb)
    have hag:again E ops.toList T H (isK 1 m) m.o=true:=by
     unfold JL at h
     rw [zm]at h
     split at h
     case isFalse=>exact absurd h.symm hr
     rename_i hag
     refine zgP hag m hm hk hb ?_
     cases hh:bit HA m.i with
     | false=>rfl
     | true=>exact absurd (hHA _ hh) hnd
    obtain ⟨β',w',a',q1,q2,q3,q4⟩:=hL.step hE hone hm hk hb hnd hpre hag hX hN b (Region.linearise.go .any ops fc (t / (Region.ready .any ops listed).length) (listed.setIfInBounds m.i true) []) k cs
    obtain ⟨β2,w2,a2,T2,H2,e1,e2,e3,e4,e5,e6⟩:=ih (t / (Region.ready .any ops listed).length) (listed.setIfInBounds m.i true) _ Da T H β' w' a' f HA q1 hl' hcnt' (fun j hj=>.inl (hHA j hj)) q2 h
    exact ⟨β2,w2,a2,T2,H2,e1,e2,e3,e4,e5.trans q3,q4.trans e6⟩
   | false=>
    obtain ⟨g1,g2,g3,g4⟩:=jm hm
    have hpreA:Ww m.pre Da=true:=zqH fun j hj=>by
     rw [g3]at hj
     obtain ⟨e,he,hbd,rfl⟩:=(UT _ _).1 hj
     exact hL.sub _ (hpre e he hbd)
    have hme:m∈enabled Da (qu E ops.toList):=YM.2 ⟨hm,hb,hpreA⟩
    have h0:=h
    unfold JL at h0
    rw [zm]at h0
    split at h0
    case isFalse=>exact absurd h0.symm hr
    revert h0 hme
    cases hen:enabled Da (qu E ops.toList) with
    | nil=>intro hme;cases hme
    | cons x l=>
     intro hme h0
     cases l with
     | cons y l=>exact absurd h0.symm hr
     | nil=>
      rw [List.mem_singleton]at hme
      subst hme
      simp only [Zf,zee,zm]at h0
      split at h0
      case isFalse=>exact absurd h0.symm hr
      simp only [zX,zn1]at h0
      cases f with
      | zero=>
       obtain ⟨v,H1,hK,_⟩:=Vb h0 hr
       exact absurd hK.symm hr
      | succ f=>
       obtain ⟨T1,H1,β1,w1,a1,hK,q1,q2,q3,q4⟩:=hL.zle hO hone hm hb hpre hpreA h0 hr hX b (Region.linearise.go .any ops fc (t / (Region.ready .any ops listed).length) (listed.setIfInBounds m.i true) []) k cs
       have hK:Ue E rec fr.n ops.toList (JL (zqp E rec fr.n ops.toList (qu E ops.toList) f) E rec fr.n ops.toList (qu E ops.toList) (Nat.lor HA m.anc)) (qu E ops.toList) (Vd Da m.i) T1 H1=r:=hK
       obtain ⟨Da2,T2,H2,hK2,hL2,hX2⟩:=zfx hone hr (qu E ops.toList) (fun _ h=>h) _ _ _ hK q1 q2
       have hHA':∀ j,bit (Nat.lor HA m.anc) j=true→Dc j∨j=m.i:=by
        intro j hj
        rw [zeA,Bool.or_eq_true]at hj
        rcases hj with hj | hj
        ·exact .inl (hHA j hj)
        ·obtain ⟨o',ho2,hall⟩:=(Wd ops.toList).1 m.i m.anc j g2 hj
         rw [g1]at ho2
         cases ho2
         exact .inl (hall Dc hL.closed hpre)
       obtain ⟨β2,w2,a2,T3,H3,e1,e2,e3,e4,e5,e6⟩:=ih (t / (Region.ready .any ops listed).length) (listed.setIfInBounds m.i true) _ Da2 T2 H2 β1 w1 a1 f (Nat.lor HA m.anc) hL2 hl' hcnt' hHA' hX2 hK2
       exact ⟨β2,w2,a2,T3,H3,e1,e2,e3,e4,e5.trans q3,q4.trans e6⟩
theorem zj7 (hMix:E.P.follows .mixedOrders=true) {rec:Rec} (hO:Kf E rec):zi9 E rec:=by
 intro fr id ops T H β w b a k cs B it hit hA
 obtain rfl:it = .code (.region id ops true):=by rcases hit with h | ⟨d,h,_⟩;exact h;cases h
 show Out E.P fr B β H w b k cs _ (zgS E rec fr.n ops.toList T H)
 generalize hres:zgS E rec fr.n ops.toList T H=r
 by_cases hfail:r = .fail
 ·rw [hfail];trivial
 ·unfold zgS at hres
  rw [zm]at hres
  split at hres
  case isFalse=>exact absurd hres.symm hfail
  rename_i hone
  have hres:Ue E rec fr.n ops.toList (JL (zqp E rec fr.n ops.toList (qu E ops.toList) (qM ops.toList 0)) E rec fr.n ops.toList (qu E ops.toList) 0) (qu E ops.toList) 0 T H=r:=hres
  have hAl:=yT w
  have hX0:Ext β H w β H { w with drawn:=w.drawn+1 }:=Ext.alike hA.rel.bnd hAl
  have hL0:Lag E H.next fr ops.toList (fun _=>False) 0 T H β { w with drawn:=w.drawn+1 } a.tmps:=
   ⟨hA.rel.alike hAl,hA.glob,hA.tmp.size,fun t=>.inl (hA.tmp.tmp t),fun i h=>h.elim,fun i o _ h=>h.elim,fun m _ _ h=>(by rw [Zn]at h;cases h),fun m _ _ h=>(by rw [Zn]at h;cases h),Nat.le_refl _,
    fun m _ m' _ _ _ h=>(by rw [Zn]at h;cases h),fun i o d _ h=>(by rw [Zn]at h;cases h),⟨[],fun i=>(by rw [Zn];simp),fun L1 i L2 e=>(by simp at e)⟩⟩
  obtain ⟨Da,T1,H1,hK,hL1,hX1⟩:=zfx hone hfail (qu E ops.toList) (fun _ h=>h) _ _ _ hres hL0 hX0
  have hl0:Vg ops (fun _=>False) (Array.replicate ops.size false):=⟨by simp,fun i=>by
   rw [Array.getElem?_replicate]
   split<;>simp⟩
  obtain ⟨β',w',a',T',H',e1,e2,e3,e4,e5,e6⟩:=zlq hE hO hone rfl b k cs hfail ops.size (w.tape w.drawn (.order b.fn id)) (Array.replicate ops.size false) (fun _=>False) Da T1 H1 β { w with drawn:=w.drawn+1 } a
   (qM ops.toList 0) 0 hL1 hl0 (by simp) (fun j h=>by rw [Zn]at h;cases h) hX1 hK
  subst e1
  refine ⟨β',w',a',⟨e2,e3,e4,by rw [e5];exact hA.marks.ext e3⟩,.head stepR_region_draw ?_⟩
  rw [hMix]
  exact e6
end
end Go.AEv
namespace Go.AEv
set_option linter.unusedSectionVars false
variable [Unk]
theorem Res.mono {P:Program}{m:Sem Next}{w:World}{R R':Value→World→Prop} (h:Res P m w R) (hr:∀ x w',R x w'→R' x w'):Res P m w R':=by
 obtain ⟨nx,w1,h1,h2⟩:=h
 refine ⟨nx,w1,h1,?_⟩
 cases nx with
 | value v=>exact hr _ _ h2
 | skip=>exact hr _ _ h2
 | enter f args=>exact Calls.mono h2 fun e w2 ⟨v,e1,e2⟩=>⟨v,e1,hr _ _ e2⟩
 | round l f tmps as bo=>
  intro c cs
  obtain ⟨v,w2,r,s⟩:=h2 c cs
  exact ⟨v,w2,hr _ _ r,s⟩
 | _=>exact h2.elim
theorem zhR {β β1 β':Inj}{m:Nat} (h1:∀ id,id<m→β1 id=β id) (h2:∀ id,id<m→β' id=β id) {v:zb} (ho:zd9 m v=true) (hw:WF β1 v):WF β' v∧zc β' v=zc β1 v:=by
 cases v<;>try (cases ho;done)
 case bool b=>exact ⟨trivial,rfl⟩
 case int k n=>exact ⟨trivial,rfl⟩
 case str s=>exact ⟨hw,rfl⟩
 case nilp=>exact ⟨trivial,rfl⟩
 case nilslice=>exact ⟨trivial,rfl⟩
 case nilmap=>exact ⟨trivial,rfl⟩
 case nilfn=>exact ⟨trivial,rfl⟩
 case niliface=>exact ⟨trivial,rfl⟩
 case ptr b o=>
  have hb:Nat.blt b m=true:=ho
  rw [zO,decide_eq_true_eq]at hb
  have e:β' b=β1 b:=by rw [h1 b hb,h2 b hb]
  exact ⟨by simp only [WF]at hw ⊢;rw [e];exact hw,by simp [zc,Inj.addr,Inj.blk,Inj.sh,e]⟩
 case slice b o l c ex=>
  have hb:zq ex (Nat.blt b m)=true:=ho
  rw [zk,Bool.and_eq_true,zO,decide_eq_true_eq]at hb
  have e:β' b=β1 b:=by rw [h1 b hb.2,h2 b hb.2]
  exact ⟨by simp only [WF]at hw ⊢;rw [e];exact hw,by simp [zc,Inj.addr,Inj.blk,Inj.sh,Inj.ext,e]⟩
 case sym b=>
  have hb:Nat.blt b m=true:=ho
  rw [zO,decide_eq_true_eq]at hb
  have e:β' b=β1 b:=by rw [h1 b hb,h2 b hb]
  exact ⟨by simp only [WF]at hw ⊢;rw [e];exact hw,by simp [zc,e]⟩
 case map b=>
  have hb:Nat.blt b m=true:=ho
  rw [zO,decide_eq_true_eq]at hb
  have e:β' b=β1 b:=by rw [h1 b hb,h2 b hb]
  exact ⟨by simp only [WF]at hw ⊢;rw [e];exact hw,by simp [zc,Inj.blk,e]⟩
section
variable {E:Env} (hE:kH E)
include hE
omit hE in
theorem Uh {sz:Nat}{t:TypeId}{r:R}{p:Nat×List zb} (h:zaR sz t r=some p) :
  ∃ (b cap:Nat) (ex:Bool) (H1:zl) (q:Row),100≤b∧r=some (.slice b 0 p.1 cap ex,H1)∧H1.row b=some q∧q.t=t∧(if ex then cap*sz≤q.n else cap*sz=q.n)∧p.1≤cap∧Tr.Ji (p.1*sz) q.c 0=some p.2:=by
 replace h:=ze h
 obtain ⟨r1,rfl,h⟩:=h
 replace h:=ze h
 obtain ⟨s,hs,h⟩:=h
 replace h:=ze h
 obtain ⟨q,hq,h⟩:=h
 replace h:=zg h
 obtain ⟨hc,h⟩:=h
 replace h:=ze h
 obtain ⟨l,hl,h⟩:=h
 cases h
 simp only [zk,Bool.and_eq_true,zw,beq_iff_eq,zE,decide_eq_true_eq]at hc
 obtain ⟨c0,c1,c2,c3,c4⟩:=hc
 have hv:=jG hs
 obtain ⟨v,H1⟩:=r1
 simp only at hv hq
 subst hv
 refine ⟨s.b,s.cap,s.ex,H1,q,c0,by rw [c1],hq,c2,?_,c4,hl⟩
 rw [zm]at c3
 cases hx:s.ex with
 | true=>rw [hx]at c3;simpa [zE] using c3
 | false=>rw [hx]at c3;simpa [zw] using c3
theorem zjW {β βr β1:Inj}{H Hr H1:zl}{w w1:World}{sb vb:Nat}{t sz:Nat}{b cap n:Nat}{ex:Bool}{q:Row}{l:List zb} (hR:Rel E.P β H w) (hsb:(β sb).isSome) (hvb:(β vb).isSome)
  {bs bv:zo} (hHs:H.blk.get sb=some bs) (hHv:H.blk.get vb=some bv)
  (hs60:100≤sb) (hv60:100≤vb) (hold:∀ id,id<H.next→βr id=β id) (hb60:100≤b) (hrange:∀ c,Range βr Hr c→c=β.blk sb∨c=β.blk vb) (hnx:H.next≤Hr.next) (hR1:Rel E.P β1 H1 w1) (hX:Ext βr Hr w β1 H1 w1) (hts:ji E.P t=sz)
  (hv:WF β1 (.slice b 0 n cap ex)) (hq:H1.row b=some q) (hqt:q.t=t) (hcap:if ex then cap*sz≤q.n else cap*sz=q.n) (hn:n≤cap) (hl:Tr.Ji (n*sz) q.c 0=some l) (hoc:Qq (zd9 H.next) l=true) :
  RR E.P β H w (.slice H.next 0 n n false) ⟨((H.blk.del sb).del vb).set H.next (.cells t (n*sz) (Tr.ofList l)),H.next+1⟩ (zc β1 (.slice b 0 n cap ex)) w1:=by
 have _:=hE
 obtain ⟨ys,hys⟩:=Option.isSome_iff_exists.1 hsb
 obtain ⟨yv,hyv⟩:=Option.isSome_iff_exists.1 hvb
 have hbs:β.blk sb=ys.1:=by simp [Inj.blk,hys]
 have hbv:β.blk vb=yv.1:=by simp [Inj.blk,hyv]
 obtain ⟨y,hy⟩:=Option.isSome_iff_exists.1 hv.1
 obtain ⟨arr,fz,a1,a2⟩:=hR1.rowAt hq hv.1
 have hb1:β1.blk b=y.1:=by simp [Inj.blk,hy]
 have hs1:β1.sh b=y.2.1:=by simp [Inj.sh,hy]
 have he1:β1.ext b=y.2.2:=by simp [Inj.ext,hy]
 rw [hb1]at a1
 rw [hs1,he1]at a2
 rw [hqt]at a1 a2
 let C:=if ex then cap else cap+y.2.2
 have hC:n≤C:=by
  show n≤if ex then cap else cap+y.2.2
  split<;>omega
 let x:Nat×Nat×Nat:=(y.1,y.2.1,C-n)
 have hf:=hR.fresh (Nat.le_refl H.next)
 have holdr:∀ id,id<H.next→β1 id=β id:=fun id hid=>by rw [hX.old id (Nat.lt_of_lt_of_le hid hnx)];exact hold id hid
 have holdx:∀ id,id<H.next→(β.put H.next x) id=β id:=fun id hid=>Inj.z9 _ _ (by omega)
 have hle:β.le (β.put H.next x):=Inj.ky hf
 have hblk:w.heap.size≤y.1∨y.1=β.blk sb∨y.1=β.blk vb:=by
  obtain ⟨b0,hb0,_⟩:=Qh hq
  rcases hX.zmu ⟨b,_,y,hb60,hb0,hy,rfl⟩ with h | h
  ·exact .inl h
  ·exact .inr (hrange _ h)
 have hapart:∀ {id bl z},H.blk.get id=some bl→β id=some z→id≠sb→id≠vb→z.1≠y.1:=by
  intro id bl z h1 h2 n1 n2 e
  rcases hblk with h | h | h
  ·have:=(hR.blk id bl z h1 h2).lt
   omega
  ·exact n1 (hR.yF (.inr hs60) h1 h2 hHs hys (by rw [e,h,hbs]))
  ·exact n2 (hR.yF (.inr hv60) h1 h2 hHv hyv (by rw [e,h,hbv]))
 have hframe:∀ {id bl z},H.blk.get id=some bl→β id=some z→id≠sb→id≠vb→w1.heap[z.1]? = w.heap[z.1]?:=by
  intro id bl z h1 h2 n1 n2
  refine hX.frame _ (hR.blk id bl z h1 h2).lt fun hr=>?_
  rcases hrange _ hr with h | h
  ·exact n1 (hR.yF (.inr hs60) h1 h2 hHs hys (by rw [h,hbs]))
  ·exact n2 (hR.yF (.inr hv60) h1 h2 hHv hyv (by rw [h,hbv]))
 have aux:∀ {id bl},(((H.blk.del sb).del vb).set H.next (.cells t (n*sz) (Tr.ofList l))).get id=some bl→id≠H.next→id≠sb∧id≠vb∧H.blk.get id=some bl:=by
  intro id bl h hid
  rw [Tr.zL,if_neg (fun e=>hid e.symm),Tr.qT]at h
  split at h
  ·cases h
  ·rename_i n2
   rw [Tr.qT]at h
   split at h
   ·cases h
   ·rename_i n1
    exact ⟨fun e=>n1 e.symm,fun e=>n2 e.symm,h⟩
 have self:∀ {bl},(((H.blk.del sb).del vb).set H.next (.cells t (n*sz) (Tr.ofList l))).get H.next=some bl→bl = .cells t (n*sz) (Tr.ofList l):=by
  intro bl h
  rw [Tr.zL,if_pos rfl]at h
  cases h
  rfl
 have hput:∀ {id z},id≠H.next→β.put H.next x id=some z→β id=some z:=by
  intro id z hid h
  rw [Inj.z9 _ _ hid]at h
  exact h
 obtain ⟨l1,l2⟩:=Tr.jq _ _ _ _ hl
 have hrow:zG E.P (β.put H.next x) (.cells t (n*sz) (Tr.ofList l)) x w1:=by
  refine ⟨arr,fz,a1,?_,?_,a2.thaw,a2.al⟩
  ·have h1:=a2.size
   rw [hts]at h1 ⊢
   show y.2.1+n*sz+(C-n)*sz≤arr.size
   have h2:(C-n)*sz=C*sz-n*sz:=Nat.sub_mul _ _ _
   have h3:n*sz≤C*sz:=Nat.mul_le_mul_right _ hC
   have h4:C*sz≤q.n+y.2.2*sz:=by
    show (if ex then cap else cap+y.2.2)*sz≤_
    cases ex with
    | true=>simp only [if_true]at hcap ⊢;omega
    | false=>
     simp only [Bool.false_eq_true,if_false]at hcap ⊢
     rw [Nat.add_mul];omega
   omega
  ·intro i v hvv
   rw [Tr.zY]at hvv
   have hlt:=(List.getElem?_eq_some_iff.1 hvv).1
   have hg:=l2 i (by rw [← l1];exact hlt)
   rw [Nat.zero_add,hvv]at hg
   obtain ⟨f1,f2⟩:=a2.cell i v hg
   rw [Zp,List.all_eq_true]at hoc
   obtain ⟨e1,e2⟩:=zhR holdr holdx (hoc v (List.mem_of_getElem? hvv)) f1
   exact ⟨e1,by rw [e2];exact f2⟩
 refine ⟨β.put H.next x,?_,⟨by simp [Inj.zM],Nat.le_refl _⟩,⟨Nat.le_succ_of_le hR.base,?_,?_,?_,?_⟩,⟨fun id hid=>holdx id hid,Nat.le_succ _,?_,?_,?_,?_,?_,hX.size,hX.tape,hX.os,hX.output⟩⟩
 ·simp only [zc,Inj.addr,Inj.blk,Inj.sh,Inj.ext,Inj.zM,hy,Option.getD_some,Bool.false_eq_true,if_false]
  congr 1
  show (if ex=true then cap else cap+y.2.2)=n+(C-n)
  show C=_
  omega
 ·intro id bl z h1 h2
  by_cases hid:id=H.next
  ·subst hid
   rw [self h1]
   rw [Inj.zM]at h2
   cases h2
   exact hrow
  ·obtain ⟨n1,n2,h1'⟩:=aux h1 hid
   have h2':=hput hid h2
   exact ((hR.blk id bl z h1' h2').heap (hframe h1' h2' n1 n2)).mono hle
 ·intro i j bi bj zi zj h1 h2 h3 h4 e
  by_cases hi:i=H.next
  ·by_cases hj:j=H.next
   ·exact .inl (by rw [hi,hj])
   ·subst hi
    rw [Inj.zM]at h2
    cases h2
    obtain ⟨n1,n2,h3'⟩:=aux h3 hj
    exact absurd e.symm (hapart h3' (hput hj h4) n1 n2)
  ·obtain ⟨n1,n2,h1'⟩:=aux h1 hi
   by_cases hj:j=H.next
   ·subst hj
    rw [Inj.zM]at h4
    cases h4
    exact absurd e (hapart h1' (hput hi h2) n1 n2)
   ·obtain ⟨_,_,h3'⟩:=aux h3 hj
    exact hR.inj i j bi bj zi zj h1' (hput hi h2) h3' (hput hj h4) e
 ·intro id z h
  show id<H.next+1
  by_cases hid:id=H.next
  ·omega
  ·have:=hR.bnd _ _ (hput hid h);omega
 ·intro id bl h
  show id<H.next+1
  by_cases hid:id=H.next
  ·omega
  ·have:=hR.live _ _ (aux h hid).2.2;omega
 ·intro id hid e
  show (((H.blk.del sb).del vb).set H.next (.cells t (n*sz) (Tr.ofList l))).get id=_
  rw [Tr.zL,if_neg (by omega),Tr.qT,if_neg,Tr.qT,if_neg]
  ·rintro rfl;rw [hys]at e;cases e
  ·rintro rfl;rw [hyv]at e;cases e
 ·intro id bl hid h
  exact ⟨bl,(aux h (by omega)).2.2⟩
 ·intro id hid
  have:=hR.base
  show (((H.blk.del sb).del vb).set H.next (.cells t (n*sz) (Tr.ofList l))).get id=_
  rw [Tr.zL,if_neg (by omega),Tr.qT,if_neg (by omega),Tr.qT,if_neg (by omega)]
 ·intro id z hid h
  by_cases hidn:id=H.next
  ·subst hidn
   rw [Inj.zM]at h
   cases h
   rcases hblk with h | h | h
   ·exact .inl h
   ·exact .inr ⟨sb,bs,ys,hs60,hHs,hys,by rw [← hbs];exact h.symm⟩
   ·exact .inr ⟨vb,bv,yv,hv60,hHv,hyv,by rw [← hbv];exact h.symm⟩
  ·exact absurd (hR.bnd _ _ (hput hidn h)) (by omega)
 ·intro c hc hr
  refine hX.frame c hc fun h=>hr ?_
  rcases hrange _ h with h | h
  ·exact ⟨sb,bs,ys,hs60,hHs,hys,by rw [h,hbs]⟩
  ·exact ⟨vb,bv,yv,hv60,hHv,hyv,by rw [h,hbv]⟩
end
end Go.AEv
namespace Go.AEv
set_option linter.unusedSectionVars false
variable [Unk]
section
variable {E:Env} (hE:kH E)
include hE
omit hE in
theorem U9 {U:Tr zo}{a b:Nat}{x y:zo} (h:a≠b) (i:Nat):(Tr.set (Tr.set U a x) b y).get i=if b=i then some y else if a=i then some x else U.get i:=by
 have _:=h
 rw [Tr.zL,Tr.zL]
theorem znB (hN:Y2 E.P) {rec:Rec} (hRec:XP E rec):zko E rec:=by
 intro f args H H' v β w h hR hG hargs
 unfold zeK at h
 cases args with
 | nil=>cases h
 | cons a args=>
 cases args with
 | nil=>cases h
 | cons i args=>
 cases args with
 | nil=>cases h
 | cons vv args=>
 simp only [Zf]at h
 replace h:=Qr h
 obtain ⟨hnil,h⟩:=h
 subst hnil
 cases hs:kr a with
 | none=>
  rw [hs,zn]at h
  exact yY hE hN hRec h hR hG hargs
 | some s=>
  rw [hs,zd,zm]at h
  split at h
  ·exact yY hE hN hRec h hR hG hargs
  ·rename_i hex
   replace h:=ze h
   obtain ⟨vs,hvs,h⟩:=h
   simp only [zX]at h
   have hva:=jG hs
   have hvv:=jG hvs
   subst hva
   subst hvv
   have hex:s.ex=false:=by simpa using hex
   replace h:=ze h
   obtain ⟨r,hr,h⟩:=h
   replace h:=ze h
   obtain ⟨q,hq,h⟩:=h
   replace h:=ze h
   obtain ⟨sz,hsz,h⟩:=h
   replace h:=zg h
   obtain ⟨hc,h⟩:=h
   simp only [zk,Bool.and_eq_true,qy,zw]at hc
   obtain ⟨⟨hs60,hv60⟩,c1,c2,c3⟩:=hc
   rw [zE,decide_eq_true_eq]at hs60 hv60
   have c1:s.b≠vs.b:=by simpa using c1
   have c3:s.off+s.cap*sz=r.n:=by simpa using c3
   unfold znC at h
   replace h:=ze h
   obtain ⟨p,hp,h⟩:=h
   replace h:=ze h
   obtain ⟨p2,hp2,h⟩:=h
   replace h:=zg h
   obtain ⟨hc2,h⟩:=h
   simp only [zk,Bool.and_eq_true,zw,beq_iff_eq]at hc2
   obtain ⟨d1,d2,d3⟩:=hc2
   have d2:=jc _ _ d2
   have hpe:p2=p:=by
    obtain ⟨x1,x2⟩:=p
    obtain ⟨y1,y2⟩:=p2
    simp only at d1 d2
    rw [d1,d2]
   subst hpe
   have hts:ji E.P r.t=sz:=(ZX hE hsz).choose_spec.2.2.2
   have hwa:WF β (.slice s.b s.off s.len s.cap s.ex):=hargs.1
   have hwi:WF β i:=hargs.2.1
   have hwv:WF β (.slice vs.b vs.off vs.len vs.cap vs.ex):=hargs.2.2.1
   have hHs:=zj8 hr
   have hHv:=zj8 hq
   have hHs:H.blk.get s.b=some (.cells r.t r.n r.c):=hHs
   have hHv:H.blk.get vs.b=some (.cells q.t q.n q.c):=hHv
   have hls:=hR.live _ _ hHs
   have hlv:=hR.live _ _ hHv
   obtain ⟨ys,hys⟩:=Option.isSome_iff_exists.1 hwa.1
   obtain ⟨yv,hyv⟩:=Option.isSome_iff_exists.1 hwv.1
   have hbs:β.blk s.b=ys.1:=by simp [Inj.blk,hys]
   have hbv:β.blk vs.b=yv.1:=by simp [Inj.blk,hyv]
   have hbex:β.ext s.b=ys.2.2:=by simp [Inj.ext,hys]
   have hU:∀ id bl,(jd E.tabs).get id=some bl→id<100∧H.blk.get id=some bl:=fun id bl hh=>hG.tabs (id,bl) (kt _ _ _ hh)
   have hTab:∀ (V:Tr zo),(∀ id,id<100→V.get id=(jd E.tabs).get id)→∀ p∈E.tabs,p.1<100∧V.get p.1=some p.2:=by
    intro V hV p hp
    obtain ⟨t1,t2⟩:=hG.tabs p hp
    obtain ⟨bl,hbl⟩:=zha _ p hp
    refine ⟨t1,?_⟩
    rw [hV p.1 t1,hbl,← t2,(hU _ _ hbl).2]
   cases h
   cases hext:ys.2.2 with
   | zero=>
    let Hr:zl:=⟨Tr.set (Tr.set (jd E.tabs) s.b (.cells r.t r.n r.c)) vs.b (.cells q.t q.n q.c),H.next⟩
    have hget:∀ id bl,Hr.blk.get id=some bl→H.blk.get id=some bl∧(id<100∨id=s.b∨id=vs.b):=by
     intro id bl hh
     replace hh:(Tr.set (Tr.set (jd E.tabs) s.b (.cells r.t r.n r.c)) vs.b (.cells q.t q.n q.c)).get id=some bl:=hh
     rw [U9 c1]at hh
     split at hh
     ·rename_i e;subst e;cases hh;exact ⟨hHv,.inr (.inr rfl)⟩
     ·split at hh
      ·rename_i e;subst e;cases hh;exact ⟨hHs,.inr (.inl rfl)⟩
      ·exact ⟨(hU _ _ hh).2,.inl (hU _ _ hh).1⟩
    have hRr:Rel E.P β Hr w:=⟨hR.base,fun id bl x h1 h2=>hR.blk id bl x (hget _ _ h1).1 h2,fun id id' bl bl' x x' h1 h2 h3 h4 e=>hR.inj _ _ _ _ _ _ (hget _ _ h1).1 h2 (hget _ _ h3).1 h4 e,hR.bnd,
     fun id bl h1=>hR.live _ _ (hget _ _ h1).1⟩
    obtain ⟨b,cap,ex,H1,q1,o0,o1,o2,o3,o4,o5,o6⟩:=Uh hp
    have hw:WFs β [.slice s.b s.off s.len s.cap true,i,.slice vs.b vs.off vs.len vs.cap vs.ex]:=⟨⟨hwa.1,hwa.2⟩,hwi,hwv,trivial⟩
    have hcall:=yY hE hN hRec o1 hRr (H:=Hr) ⟨hG.at_,hG.next,hG.facts,hTab _ fun id hid=>by show (Tr.set (Tr.set (jd E.tabs) s.b (.cells r.t r.n r.c)) vs.b (.cells q.t q.n q.c)).get id=_;rw [U9 c1,if_neg (by omega),if_neg (by omega)],hG.alts⟩ hw
    have hce:zf β [.slice s.b s.off s.len s.cap s.ex,i,.slice vs.b vs.off vs.len vs.cap vs.ex]=zf β [.slice s.b s.off s.len s.cap true,i,.slice vs.b vs.off vs.len vs.cap vs.ex]:=by
     simp [zf,zc,hex,hbex,hext]
    rw [hce]
    refine hcall.mono fun x w' hx=>?_
    obtain ⟨β1,rfl,k1,k2,k3⟩:=hx
    refine zjW hE hR hwa.1 hwv.1 hHs hHv (βr:=β) (Hr:=Hr) hs60 hv60 (fun _ _=>rfl) o0 ?_ (Nat.le_refl _) k2 k3 hts k1 o2 o3 o4 o5 o6 d3
    rintro c ⟨id,bl,z,h0,h1,h2,rfl⟩
    rcases (hget _ _ h1).2 with hlt | rfl | rfl
    ·omega
    ·rw [hys]at h2;cases h2;exact .inl hbs.symm
    ·rw [hyv]at h2;cases h2;exact .inr hbv.symm
   | succ e=>
    have hfr:=hR.fresh (Nat.le_refl H.next)
    let β2:Inj:=β.put H.next (ys.1,ys.2.1,e)
    have hle2:β.le β2:=Inj.ky hfr
    have hne:H.next≠vs.b:=by omega
    let Hr:zl:=⟨Tr.set (Tr.set (jd E.tabs) H.next (.cells r.t (Nat.add r.n sz) r.c)) vs.b (.cells q.t q.n q.c),Nat.succ H.next⟩
    have hget:∀ id bl,Hr.blk.get id=some bl→(id=vs.b∧bl = .cells q.t q.n q.c)∨(id=H.next∧bl = .cells r.t (Nat.add r.n sz) r.c)∨(id<100∧H.blk.get id=some bl):=by
     intro id bl hh
     replace hh:(Tr.set (Tr.set (jd E.tabs) H.next (.cells r.t (Nat.add r.n sz) r.c)) vs.b (.cells q.t q.n q.c)).get id=some bl:=hh
     rw [U9 hne]at hh
     split at hh
     ·rename_i e';subst e';cases hh;exact .inl ⟨rfl,rfl⟩
     ·split at hh
      ·rename_i e';subst e';cases hh;exact .inr (.inl ⟨rfl,rfl⟩)
      ·exact .inr (.inr (hU _ _ hh))
    have h2v:β2 vs.b=some yv:=(Inj.z9 β _ (show vs.b≠H.next by omega)).trans hyv
    have h2n:β2 H.next=some (ys.1,ys.2.1,e):=Inj.zM _ _ _
    have hyne:ys.1≠yv.1:=fun e'=>c1 (hR.yF (.inl hs60) hHs hys hHv hyv e')
    obtain ⟨arr,fz,a1,a2⟩:=hR.blk _ _ _ hHs hys
    have hRr:Rel E.P β2 Hr w:=by
     refine ⟨Nat.le_succ_of_le hR.base,?_,?_,?_,?_⟩
     ·intro id bl x h1 h2
      rcases hget _ _ h1 with ⟨rfl,rfl⟩ | ⟨rfl,rfl⟩ | ⟨hlt,hold⟩
      ·rw [h2v]at h2;cases h2
       exact (hR.blk _ _ _ hHv hyv).mono hle2
      ·rw [h2n]at h2;cases h2
       have a3:=a2.mono hle2
       refine ⟨arr,fz,a1,?_,a3.cell,a3.thaw,a3.al⟩
       have hz:=a2.size
       rw [hts,hext]at hz
       rw [hts]
       show ys.2.1+(r.n+sz)+e*sz≤arr.size
       rw [Nat.succ_mul]at hz
       omega
      ·rw [show β2 id=β id from Inj.z9 _ _ (by have:=hR.base;omega)]at h2
       exact (hR.blk _ _ _ hold h2).mono hle2
     ·intro id id' bl bl' x x' h1 h2 h3 h4 e'
      have hb60:=hR.base
      rcases hget _ _ h1 with ⟨rfl,rfl⟩ | ⟨rfl,rfl⟩ | ⟨l1,o1⟩<;>rcases hget _ _ h3 with ⟨rfl,rfl⟩ | ⟨rfl,rfl⟩ | ⟨l2,o2⟩
      ·exact .inl rfl
      ·rw [h2v]at h2;rw [h2n]at h4;cases h2;cases h4;exact absurd e'.symm hyne
      ·rw [h2v]at h2;rw [show β2 id'=β id' from Inj.z9 _ _ (by omega)]at h4;cases h2
       exact hR.inj _ _ _ _ _ _ hHv hyv o2 h4 e'
      ·rw [h2n]at h2;rw [h2v]at h4;cases h2;cases h4;exact absurd e' hyne
      ·exact .inl rfl
      ·rw [h2n]at h2;rw [show β2 id'=β id' from Inj.z9 _ _ (by omega)]at h4;cases h2
       have:=hR.yF (.inl hs60) hHs hys o2 h4 e'
       omega
      ·rw [h2v]at h4;rw [show β2 id=β id from Inj.z9 _ _ (by omega)]at h2;cases h4
       exact hR.inj _ _ _ _ _ _ o1 h2 hHv hyv e'
      ·rw [h2n]at h4;rw [show β2 id=β id from Inj.z9 _ _ (by omega)]at h2;cases h4
       have:=hR.yF (.inr hs60) o1 h2 hHs hys e'
       omega
      ·rw [show β2 id=β id from Inj.z9 _ _ (by omega)]at h2
       rw [show β2 id'=β id' from Inj.z9 _ _ (by omega)]at h4
       exact hR.inj _ _ _ _ _ _ o1 h2 o2 h4 e'
     ·intro id x h1
      show id<H.next+1
      by_cases hid:id=H.next
      ·omega
      ·have:=hR.bnd id x (by rwa [show β2 id=β id from Inj.z9 _ _ hid]at h1);omega
     ·intro id bl h1
      show id<H.next+1
      have:=hR.base
      rcases hget _ _ h1 with ⟨rfl,_⟩ | ⟨rfl,_⟩ | ⟨_,_⟩<;>omega
    have hG2:JT E β2 Hr:=⟨fun g hg=>(Inj.z9 β _ (show g≠H.next by have:=hG.next;omega)).trans (hG.at_ g hg),Nat.le_succ_of_le hG.next,hG.facts.mono hle2,hTab _ fun id hid=>by have:=hG.next;show (Tr.set (Tr.set (jd E.tabs) H.next (.cells r.t (Nat.add r.n sz) r.c)) vs.b (.cells q.t q.n q.c)).get id=_;rw [U9 hne,if_neg (by omega),if_neg (by omega)],hG.alts.mono hle2⟩
    obtain ⟨b,cap,ex,H1,q1,o0,o1,o2,o3,o4,o5,o6⟩:=Uh hp2
    obtain ⟨wi1,wi2⟩:=WF.mono hle2 i hwi
    obtain ⟨wv1,wv2⟩:=WF.mono hle2 _ hwv
    have hw:WFs β2 [.slice H.next s.off s.len (Nat.succ s.cap) false,i,.slice vs.b vs.off vs.len vs.cap vs.ex]:=⟨⟨by rw [h2n];rfl,Nat.le_succ_of_le hwa.2⟩,wi1,wv1,trivial⟩
    have hcall:=yY hE hN hRec o1 hRr (H:=Hr) hG2 hw
    have hce:zf β [.slice s.b s.off s.len s.cap s.ex,i,.slice vs.b vs.off vs.len vs.cap vs.ex]=zf β2 [.slice H.next s.off s.len (Nat.succ s.cap) false,i,.slice vs.b vs.off vs.len vs.cap vs.ex]:=by
     simp only [zf]
     rw [wi2,wv2]
     congr 1
     simp only [zc,hex,Bool.false_eq_true,if_false,Inj.addr,Inj.blk,Inj.sh,Inj.ext,hys,h2n,Option.getD_some,hext]
     congr 1
     omega
    rw [hce]
    refine hcall.mono fun x w' hx=>?_
    obtain ⟨β1,rfl,k1,k2,k3⟩:=hx
    refine zjW hE hR hwa.1 hwv.1 hHs hHv (βr:=β2) (Hr:=Hr) hs60 hv60 (fun id hid=>Inj.z9 _ _ (by omega)) o0 ?_ (Nat.le_succ _) k2 k3 hts k1 o2 o3 o4 o5 o6 d3
    rintro c ⟨id,bl,z,h0,h1,h2,rfl⟩
    rcases hget _ _ h1 with ⟨rfl,_⟩ | ⟨rfl,_⟩ | ⟨hlt,_⟩
    ·rw [h2v]at h2;cases h2;exact .inr hbv.symm
    ·rw [h2n]at h2;cases h2;exact .inl hbs.symm
    ·omega
structure FitA (E:Env):Prop where
 env:kH E
 count:Y2 E.P
 spec:zeS E
 mixed:E.P.follows .mixedOrders=true
structure Fit (E:Env):Prop extends FitA E where
 noAlts:E.alts = .nil
omit hE in
theorem FitA.plus (hF:FitA E) (l:List Fact):FitA (E.plus l):=⟨⟨hF.env.types,hF.env.funcs⟩,hF.count,hF.spec,hF.mixed⟩
omit hE in
theorem zrT (hF:FitA E):∀ n,XP E (qO E n):=by
 intro n
 induction n with
 | zero=>intro fr c T H β w b a k cs B it hit hA;trivial
 | succ n ih=>
  intro fr c
  have hI:=znB hF.env hF.count ih
  have hO:=zmJ hF.env hF.count hF.spec ih hI
  refine zgW hO (zj7 hF.env hF.mixed hO) (zf4 hF.env hF.count ih) ih (zlG fun f=>?_) fr c
  have hf:=hF.plus f
  have h0:XP (E.plus f) Zi:=fun _ _ _ _ _ _ _ _ _ _ _ _ _ _=>trivial
  have hO':=zmJ hf.env hf.count hf.spec h0 (znB hf.env hf.count h0)
  exact ⟨hO',zj7 hf.env hf.mixed hO',zf4 hf.env hf.count h0⟩
omit hE in
theorem zeG (hF:FitA E) {fuel:Nat}{f:FuncId}{args:List zb}{H H':zl}{v:zb} (h:z8 E (qO E fuel) f args H=some (v,H')) {β:Inj}{w:World} (hR:Rel E.P β H w) (hG:JT E β H) (hargs:WFs β args) :
  Calls E.P f (zf β args).toArray w fun e w2=>∃ x,e = .returned x∧RR E.P β H w v H' x w2:=
 (zbY hF.env (zrT hF fuel) h hR hG hargs).2
end
end Go.AEv
namespace Go.AEv
set_option linter.unusedSectionVars false
variable [Unk]
noncomputable section
def Wt {α:Type} (p:α→Bool) (t:Tr α):Bool:=Tr.rec true (fun _ v _ l r=>zq (zh v true p) (zq l r)) t
def isLit (v:zb):Bool:=match v with | .int _ _=>true | .bool _=>true | .str _=>true | .nilp=>true | .nilslice=>true | .nilmap=>true | .nilfn=>true | .niliface=>true | _=>false
def zuF (v:zb):Bool:=match v with | .tuple l=>Qq isLit l | v=>isLit v
def zgj (v:zb):Bool:=match v with | .sym i=>Nat.blt i 100 | v=>isLit v
def YU (b:zo):Bool:=match b with | .cells _ _ c=>Wt zgj c | .text _ v=>zgj v | .ints _ v=>zgj v | .view c=>Wt zgj c | _=>false
def zA (l:List (Nat×zo)):Bool:=List.rec true (fun p l ih=>zq (zq (Nat.blt p.1 100) (zq (YU p.2) (zh ((jd l).get p.1) true fun _=>false))) ih) l
def zhs (t:Tr zo) (lo hi:Nat) (rows:List (Nat×zo)):Bool:=
 List.rec true (fun p _ ih=>zq (zq (Nat.ble lo p.1) (Nat.blt p.1 hi)) (zq (zh (t.get p.1) false fun b=>yp b p.2) ih)) rows
def qw (E:Env) (N:Nat):zl:=⟨jd E.tabs,N⟩
def Q7 (E:Env) (fuel:Nat) (f:FuncId) (args:List zb) (N:Nat) (v:zb):Bool:=
 zh (z8 E (qO E fuel) f args (qw E N)) false fun p=>zq (qf p.1 v) (zuF v)
def zaf (E:Env) (fuel:Nat) (f:FuncId) (args:List zb) (N n:Nat) (rows:List (Nat×zo)) (v:zb):Bool:=
 zh (z8 E (qO E fuel) f args (qw E N)) false fun p=>zq (qf p.1 v) (zq (Nat.beq p.2.next (Nat.add N n)) (zhs p.2.blk N (Nat.add N n) rows))
end
theorem zaM {α:Type} (p:α→Bool):∀ (q:Pa) (t:Tr α),Wt p t=true→∀ v,JH q t=some v→p v=true:=by
 intro q
 induction q with
 | e=>intro t h v hv;cases t with
  | nil=>cases hv
  | node l a r=>
   have h:zq (zh a true p) (zq (Wt p l) (Wt p r))=true:=h
   rw [WK]at hv
   subst hv
   rw [zk,Bool.and_eq_true]at h
   exact h.1
 | o q ih=>intro t h v hv;cases t with
  | nil=>cases hv
  | node l a r=>
   have h:zq (zh a true p) (zq (Wt p l) (Wt p r))=true:=h
   rw [zk,zk,Bool.and_eq_true,Bool.and_eq_true]at h
   exact ih l h.2.1 v hv
 | i q ih=>intro t h v hv;cases t with
  | nil=>cases hv
  | node l a r=>
   have h:zq (zh a true p) (zq (Wt p l) (Wt p r))=true:=h
   rw [zk,zk,Bool.and_eq_true,Bool.and_eq_true]at h
   exact ih r h.2.2 v hv
theorem zbj {β β':Inj}{v:zb} (h:isLit v=true) (hw:WF β v):WF β' v∧zc β' v=zc β v:=by
 cases v<;>first | (cases h;done) | exact ⟨trivial,rfl⟩ | exact ⟨hw,rfl⟩
theorem zpe {β β':Inj}{v:zb} (h:zuF v=true) (hw:WF β v):WF β' v∧zc β' v=zc β v:=by
 have key:∀ l:List zb,Qq isLit l=true→WFs β l→WFs β' l∧zf β' l=zf β l:=by
  intro l
  induction l with
  | nil=>intro _ _;exact ⟨trivial,rfl⟩
  | cons a l ih=>
   intro h hw
   have h:ifB (isLit a) (Qq isLit l) false=true:=h
   rw [zm]at h
   split at h
   ·rename_i ha
    obtain ⟨a1,a2⟩:=zbj (β':=β') ha hw.1
    obtain ⟨b1,b2⟩:=ih h hw.2
    exact ⟨⟨a1,b1⟩,by rw [zf,zf,a2,b2]⟩
   ·cases h
 cases v
 case tuple l=>
  obtain ⟨a1,a2⟩:=key l h hw
  exact ⟨a1,by rw [zc,zc,a2]⟩
 all_goals exact zbj h hw
theorem VN {β β':Inj} (hβ:∀ g,g<100→β g=some (Unk.place g)) (hβ':∀ g,g<100→β' g=some (Unk.place g)) {v:zb} (h:zgj v=true) (hw:WF β v):WF β' v∧zc β' v=zc β v:=by
 cases v
 case sym i=>
  have hi:i<100:=by
   have h:Nat.blt i 100=true:=h
   rwa [zO,decide_eq_true_eq]at h
  exact ⟨by simp [WF,hβ' i hi],by simp only [zc,hβ i hi,hβ' i hi]⟩
 all_goals exact zbj h hw
theorem W2 {P:Program}{β β':Inj} (hβ:∀ g,g<100→β g=some (Unk.place g)) (hβ':∀ g,g<100→β' g=some (Unk.place g)) {b:zo}{x:Nat×Nat×Nat}{w:World} (h:YU b=true) (hb:zG P β b x w):zG P β' b x w:=by
 cases b with
 | cells t n c=>
  obtain ⟨arr,fz,h1,h2⟩:=hb
  refine ⟨arr,fz,h1,h2.size,fun i v hv=>?_,h2.thaw,h2.al⟩
  obtain ⟨a1,a2⟩:=h2.cell i v hv
  obtain ⟨b1,b2⟩:=VN hβ hβ' (zaM _ _ _ h v hv) a1
  exact ⟨b1,by rw [b2];exact a2⟩
 | map _ _=>cases h
 | loop _ _ _ _ _ _ _ _=>cases h
 | siter _ _=>cases h
 | text t v=>
  obtain ⟨arr,fz,h1,h2⟩:=hb
  obtain ⟨b1,b2⟩:=VN hβ hβ' h h2.wf
  exact ⟨arr,fz,h1,b1,by rw [b2];exact h2.is,h2.size,by rw [b2];exact h2.cell,h2.thaw,h2.one⟩
 | pack _ _ _=>cases h
 | view c=>
  obtain ⟨arr,t,fz,h1,h2⟩:=hb
  refine ⟨arr,t,fz,h1,fun i v hv=>?_⟩
  obtain ⟨a1,a2⟩:=h2 i v hv
  obtain ⟨b1,b2⟩:=VN hβ hβ' (zaM _ _ _ h v hv) a1
  exact ⟨b1,by rw [b2];exact a2⟩
 | ints t v=>
  obtain ⟨arr,fz,h1,h2⟩:=hb
  obtain ⟨b1,b2⟩:=VN hβ hβ' h h2.wf
  exact ⟨arr,fz,h1,b1,by rw [b2];exact h2.is,h2.size,by rw [b2];exact h2.cell,h2.thaw,h2.one⟩
theorem qA:∀ {l:List (Nat×zo)},zA l=true→∀ p∈l,p.1<100∧YU p.2=true∧(jd l).get p.1=some p.2:=by
 intro l
 induction l with
 | nil=>intro _ p hp;cases hp
 | cons q l ih=>
  intro h p hp
  have h:zq (zq (Nat.blt q.1 100) (zq (YU q.2) (zh ((jd l).get q.1) true fun _=>false))) (zA l)=true:=h
  simp only [zk,Bool.and_eq_true,zO,decide_eq_true_eq]at h
  obtain ⟨⟨h1,h2,h3⟩,h4⟩:=h
  rw [show jd (q::l)=(jd l).set q.1 q.2 from rfl,Tr.zL]
  rcases List.mem_cons.1 hp with rfl | hp
  ·exact ⟨h1,h2,by rw [if_pos rfl]⟩
  ·obtain ⟨a1,a2,a3⟩:=ih h4 p hp
   refine ⟨a1,a2,?_⟩
   rw [if_neg]
   ·exact a3
   ·intro e
    rw [e,a3]at h3
    cases h3
theorem ziN {a b:zo} (h:yp a b=true):(kC b).isNone=true:=by
 cases a<;>cases b<;>first | rfl | cases h
theorem zkH {t:Tr zo}{lo hi:Nat}:∀ {rows:List (Nat×zo)},zhs t lo hi rows=true→∀ p∈rows,lo≤p.1∧p.1<hi∧(kC p.2).isNone=true∧t.get p.1=some p.2:=by
 intro rows
 induction rows with
 | nil=>intro _ p hp;cases hp
 | cons q rows ih=>
  intro h p hp
  have h:zq (zq (Nat.ble lo q.1) (Nat.blt q.1 hi)) (zq (zh (t.get q.1) false fun b=>yp b q.2) (zhs t lo hi rows))=true:=h
  simp only [zk,Bool.and_eq_true,zE,zO,decide_eq_true_eq]at h
  obtain ⟨⟨h1,h2⟩,h3,h4⟩:=h
  rcases List.mem_cons.1 hp with rfl | hp
  ·cases hg:t.get p.1 with
   | none=>rw [hg]at h3;cases h3
   | some b=>
    rw [hg,zd]at h3
    exact ⟨h1,h2,ziN h3,by rw [kq h3]⟩
  ·exact ih h4 p hp
def zH (σ:Inj):Inj:=fun id=>if id<100 then some (Unk.place id) else σ id
section
variable {E:Env} (hF:Fit E) {σ:Inj}{N:Nat} (h60:100≤N) (hσ:∀ id x,σ id=some x→id<N) (hfacts:zB E (zH σ)) (hcl:zA E.tabs=true)
include h60 hσ hfacts hcl hF
omit hfacts hF in
theorem zcz {w:World} (hw:zU E.P E.tabs w):Rel E.P (zH σ) (qw E N) w:=by
 obtain ⟨β1,hβ1,h1⟩:=hw
 have mem:∀ id b,(qw E N).blk.get id=some b→id<100∧YU b=true∧zG E.P β1 b (Unk.place id) w:=fun id b hb=>by
  have:=kt _ _ _ hb
  obtain ⟨c1,c2,_⟩:=qA hcl _ this
  exact ⟨c1,c2,h1 _ this⟩
 refine ⟨h60,?_,?_,?_,?_⟩
 ·intro id b x hb hx
  obtain ⟨c1,c2,c3⟩:=mem id b hb
  unfold zH at hx
  rw [if_pos c1]at hx
  cases hx
  exact W2 hβ1 (fun g hg=>by unfold zH;rw [if_pos hg]) c2 c3
 ·intro i j b c x y hb hx hc hy e
  have c1:=(mem i b hb).1
  have d1:=(mem j c hc).1
  unfold zH at hx hy
  rw [if_pos c1]at hx
  exact .inr ⟨c1,d1⟩
 ·intro id x hx
  show id<N
  unfold zH at hx
  split at hx
  ·omega
  ·exact hσ id x hx
 ·intro id b hb
  have:=(mem id b hb).1
  show id<N
  omega
omit hF hσ in
theorem zhh (hA:JU E (zH σ)):JT E (zH σ) (qw E N) where
 at_:=fun g hg=>by unfold zH;rw [if_pos hg]
 next:=h60
 facts:=hfacts
 tabs:=fun p hp=>⟨(qA hcl p hp).1,(qA hcl p hp).2.2⟩
 alts:=hA
theorem qC {fuel:Nat}{f:FuncId}{args:List zb}{r:zb}{H':zl} (h:z8 E (qO E fuel) f args (qw E N)=some (r,H')) (hargs:WFs (zH σ) args) {w:World} (hw:zU E.P E.tabs w) :
  Calls E.P f (zf (zH σ) args).toArray w fun e w2=>Grown w w2∧∃ γ,e = .returned (zc γ r)∧WF γ r∧(∀ id,id<N→γ id=zH σ id)∧Rel E.P γ H' w2∧(∀ id x,N≤id→γ id=some x→w.heap.size≤x.1):=by
 have hR:=zcz h60 hσ hcl hw
 have hG:=zhh h60 hfacts hcl (Z6 hF.noAlts)
 refine (zeG hF.toFitA h hR hG hargs).mono fun e w2 hx=>?_
 obtain ⟨x,rfl,γ,rfl,a1,a2,a3⟩:=hx
 have hno:∀ c,¬ Range (zH σ) (qw E N) c:=by
  rintro c ⟨id,b,x,h0,hb,_⟩
  have:=(qA hcl _ (kt _ _ _ hb)).1
  omega
 refine ⟨⟨fun c hc=>a3.frame c hc (hno c),a3.size,a3.tape,a3.os,a3.output⟩,γ,rfl,a1,fun id hid=>a3.old id hid,a2,fun id x hid hx=>?_⟩
 rcases a3.new id x hid hx with h | h
 ·exact h
 ·exact absurd h (hno _)
theorem jN {fuel:Nat}{f:FuncId}{args:List zb}{v:zb} (h:Q7 E fuel f args N v=true) (hargs:WFs (zH σ) args) {w:World} (hw:zU E.P E.tabs w) :
  Calls E.P f (zf (zH σ) args).toArray w fun e w2=>Grown w w2∧e = .returned (zc (zH σ) v)∧WF (zH σ) v:=by
 unfold Q7 at h
 cases hr:z8 E (qO E fuel) f args (qw E N) with
 | none=>rw [hr]at h;cases h
 | some p=>
  rw [hr,zd,zk,Bool.and_eq_true]at h
  have hv:=zN _ _ h.1
  refine (qC hF h60 hσ hfacts hcl (r:=p.1) (H':=p.2) hr hargs hw).mono fun e w2 hx=>?_
  obtain ⟨hg,γ,rfl,a1,_⟩:=hx
  rw [hv]at a1 ⊢
  obtain ⟨b1,b2⟩:=zpe (β':=zH σ) h.2 a1
  exact ⟨hg,by rw [b2],b1⟩
theorem zlo {fuel:Nat}{f:FuncId}{args:List zb}{v:zb} (h:Q7 E fuel f args N v=true) (hargs:WFs (zH σ) args) (hw:WF (zH σ) v) :
  zr E.P E.tabs (zH σ) (.call f args v):=
 ⟨hargs,hw,fun _ hwt=>(jN hF h60 hσ hfacts hcl h hargs hwt).mono fun _ _ hx=>⟨hx.2.1,hx.1⟩⟩
theorem zdj {fuel:Nat}{f:FuncId}{args:List zb}{n:Nat}{rows:List (Nat×zo)}{v:zb} (h:zaf E fuel f args N n rows v=true) (hargs:WFs (zH σ) args) :
  zr E.P E.tabs (zH σ) (.make f args N n rows v):=by
 unfold zaf at h
 cases hr:z8 E (qO E fuel) f args (qw E N) with
 | none=>rw [hr]at h;cases h
 | some p=>
  rw [hr,zd]at h
  simp only [zk,Bool.and_eq_true,zw,beq_iff_eq]at h
  obtain ⟨h1,h2,h3⟩:=h
  have hv:=zN _ _ h1
  have hrow:=zkH h3
  have h2:p.2.next=N+n:=h2
  refine ⟨hargs,fun q hq=>⟨(hrow q hq).1,(hrow q hq).2.1,(hrow q hq).2.2.1⟩,fun w hwt=>?_⟩
  refine (qC hF h60 hσ hfacts hcl (r:=p.1) (H':=p.2) hr hargs hwt).mono fun e w2 hx=>?_
  obtain ⟨hg,γ,rfl,a1,a2,a3,a4⟩:=hx
  rw [hv]at a1 ⊢
  refine ⟨hg,γ,rfl,a1,⟨fun id hid x hx=>by rw [← a2 id hid];exact hx,fun id hid=>?_,a4,fun q hq x hx=>a3.blk q.1 q.2 x (hrow q hq).2.2.2 hx,fun q hq q' hq' x y hx hy e=>a3.yF (.inl (Nat.le_trans h60 (hrow q hq).1)) (hrow q hq).2.2.2 hx (hrow q' hq').2.2.2 hy e⟩⟩
  cases hγ:γ id with
  | none=>rfl
  | some x=>have:=a3.bnd id x hγ;omega
end
end Go.AEv
namespace Go.AEv
open Go.ChangeShapes Go.WideShapes
theorem yS {a b:Bool} (h:a=true) (k:b=true):(a&&b)=true:=by rw [h,k];rfl
theorem zkC:∀ (l:List (FuncId×Spec)) (t:Tr Spec) (f:FuncId) (s:Spec),(l.foldl (fun t p=>t.set p.1 p.2) t).get f=some s→t.get f=some s∨(f,s)∈l:=by
 intro l
 induction l with
 | nil=>intro t f s h;exact .inl h
 | cons p l ih=>
  intro t f s h
  rcases ih _ _ _ h with h | h
  ·rw [Tr.zL]at h
   by_cases hp:p.1=f
   ·rw [if_pos hp]at h
    cases h
    subst hp
    exact .inr List.mem_cons_self
   ·rw [if_neg hp]at h
    exact .inl h
  ·exact .inr (List.mem_cons_of_mem _ h)
def zkn (P:Program) (f:FuncId) (s:Spec):Prop:=
 match s with
 | .mapsClone=>Zr P f Extern.MapsClone.clone
 | .indexByte=>Zr P f Extern.BytealgIndexByte.indexByte
 | .makeNoZero e=>∃ ps t,Zr P f (Extern.BytealgMakeNoZero.makeNoZero ps #[t])∧P.underlying t=some (.slice e)∧ji P e=1
 | .same=>Zr P f Extern.AbiNoEscape.same
 | .insert=>True
 | .compare=>Zr P f Extern.BytealgCompare.compare
 | .count=>Zr P f Extern.BytealgCount.count
 | .fact=>True
def zaY (P:Program):Bool:=P.funcs.toList.all fun fn=>!(fn.name == "runtime.NumGoroutine")
theorem kA [Unk] {P:Program}{specs:List (FuncId×Spec)}{facts:List Fact}{tabs:List (Nat×zo)} (hn:zaY P=true) (hm:P.follows .mixedOrders=true) (hs:∀ p∈specs,zkn P p.1 p.2):Fit (ja P specs facts tabs) where
 env:=zm1 P specs facts tabs
 noAlts:=rfl
 count:=fun f fn h=>by
  have h:P.funcs[f]? = some fn:=h
  rw [← Array.getElem?_toList]at h
  simpa using List.all_eq_true.1 hn fn (List.mem_of_getElem? h)
 spec:=fun f s h=>by
  rcases zkC specs _ f s h with h | h
  ·rw [Tr.get_nil]at h;cases h
  ·have:=hs _ h
   cases s<;>exact this
 mixed:=hm
theorem Z4 {P:Program}{W:World}{t e:TypeId}{n fuel:Nat}{k:IntKind}{zs:List Int}{cs:List Value}{p:List MemPlace} (ht:P.underlying t=some (.array n e)) (he:P.underlying e=some (.int k)) (hc:P.cellsOf e=1)
  (h:DataW.trod (fun _=>()) P W 0 (fun _=>true) false fuel t cs=some (.agg (zs.map fun z=>.lit (.int k z)),p)) (hz:zs.length=n):∀ (r:Nat) (z:Int),zs[r]? = some z→cs[r]? = some (Value.int k z):=by
 intro r z hr
 have hlt:r<n:=by rw [← hz];exact (List.getElem?_eq_some_iff.1 hr).1
 obtain ⟨xs,m,_,ex,_,hl,hel⟩:=DataW.trod_array ht h
 have hE:=hel r hlt
 rw [hc,Nat.mul_one,List.getElem?_eq_getElem (by omega)]at hE
 obtain ⟨y,e1,e2,_⟩:=DataW.trod_int he hE
 have e3:(xs.map (·.1))=zs.map fun z=>.lit (.int k z):=(DataW.agg.inj (Prod.mk.inj ex).1).symm
 have e4:(xs.map (·.1))[r]? = (zs.map fun z=>(DataW.lit (.int k z):DataW Unit))[r]?:=by rw [e3]
 rw [List.getElem?_map,List.getElem?_map,List.getElem?_eq_getElem (by omega:r<xs.length),hr,e2]at e4
 simp only [Option.map_some,Option.some.injEq,DataW.lit.injEq,Lit.int.injEq,true_and]at e4
 subst e4
 have h0:((cs.drop r).take 1)[0]? = some (.int k y):=by rw [e1];rfl
 simpa using h0
theorem zdJ [Unk] {P:Program}{W:World}{g t n:Nat}{k:IntKind}{zs:List Int}{β:Inj}{cs:Array Value}{name:String} (hsh:W.ShapedOpen P) (hg:g<P.globals.size)
  (h0:(((begin P (fun _ _=>0) default).world.heap[g]?).bind Obj.row?).map (fun p=>(p.1.size,p.2))=some (n,t)) (hn:P.globalNamed name=some g) (hv:W.var? P name=some cs)
  (hcs:∀ (r:Nat) (z:Int),zs[r]? = some z→cs.toList[r]? = some (Value.int k z)) (hz:zs.length=n) :
  zG P β (.cells t n (Tr.ofList (zs.map fun z=>.int k z))) (g,0,0) W:=by
 obtain ⟨⟨zero,t'⟩,e1,e2⟩:=Option.map_eq_some_iff.1 h0
 simp only [Prod.mk.injEq]at e2
 obtain ⟨rfl,rfl⟩:=e2
 obtain ⟨arr,a1,a2,_⟩:=hsh.1 g zero t' hg e1
 have hca:cs=arr:=by
  simp only [World.var?,hn,Option.bind_some,a1]at hv
  exact (Option.some.inj hv).symm
 subst hca
 refine ⟨cs,(0,0),a1,⟨?_,fun i v hi=>?_,fun i _ h=>by omega,Nat.dvd_zero _⟩⟩
 ·show 0+zero.size+0*ji P t'≤cs.size
  omega
 ·rw [Tr.zY,List.getElem?_map]at hi
  obtain ⟨z,hz',rfl⟩:=Option.map_eq_some_iff.1 hi
  refine ⟨trivial,?_⟩
  show cs[0+i]? = _
  rw [Nat.zero_add,← Array.getElem?_toList]
  exact hcs i z hz'
theorem Grown.kept {W W':World} (h:Grown W W') (may:MemPlace→Prop):W.keptBut W' may:=by
 refine ⟨h.os,h.output,fun i hi=>?_⟩
 rw [h.old i hi]
 cases W.heap[i]? with
 | none=>simp
 | some o=>
  cases o<;>simp
variable {H:Type}{enc:TypeId×Value→H}{P:Program}
theorem zaG {a:Assume}{C:Checked}{os:Os}{f:FuncId}{fn:Func}{s:ChangeSpec}{conds:List PathCond}{apart fresh handsOn again:Bool}{X:World→Array Value→Prop}
  (hX:∀ (w w':World) (args:Array Value),w.heap=w'.heap→X w args→X w' args)
  (own:ownKnob C.prog.godebug=none) (started:os.Started) (noInit:C.prog.inits.idxOf? f=none) (hfn:C.prog.funcs[f]? = some fn)
  (witness:∃ (w:World) (tape:Tape) (i:Input),w.os=os∧(w.forCall tape i).Shaped C.prog∧i.vars=[]∧Input.okWide C.prog (w.forCall tape i) .any w.heap.size f i ∧
   ((s.pre enc C.prog fn conds apart (w.forCall tape i).memory i.args∧X (w.forCall tape i).memory i.args)∧sizedMet enc C.prog fn (OpenSpec.ofChange s) apart (w.forCall tape i).memory i.args)∧a.holds C.prog (lone (Frame.enter C.prog f i.args .normal) [] (w.forCall tape i)))
  (contract:∀ (W:World) (base:Nat) (args:Array Value) (ds gs:List (DataW H)) (before:List MemPlace),
   (∀ (j:Nat) t v,fn.params[j]? = some t→args[j]? = some v→Value.okWide C.prog W .any base t v) →
   DataW.Whole enc C.prog fn.params.toList s.vars apart W args.toList ds gs before →
   conds.all (PathCond.test C.prog ⟨fn.params.toList,ds,s.plain.varTypes C.prog,gs⟩)=true →
   X W args→W.ShapedOpen C.prog →
   Calls C.prog f args W fun e W'=>∃ v,e = .returned v∧s.post enc C.prog fn apart fresh handsOn again W args v W') :
  ReturnsInHanded a C os f .any (fun w args=>(s.pre enc C.prog fn conds apart w args∧X w args)∧sizedMet enc C.prog fn (OpenSpec.ofChange s) apart w args) (s.post enc C.prog fn apart fresh handsOn again):=by
 refine returnsInHanded_of_calls own started noInit witness ?_
 intro w tape i _ hsh _ hok hpre _
 obtain ⟨_,_,_,fn',hfn',_,_,_,_,hval⟩:=hok
 have e:fn'=fn:=Option.some.inj (hfn'.symm.trans hfn)
 subst e
 obtain ⟨⟨⟨ds,gs,before,hw,hc⟩,hx⟩,hz⟩:=hpre
 have hw':=DataW.Whole.of_heap (w':=w.forCall tape i) (by rfl) hw
 refine (contract (w.forCall tape i) w.heap.size i.args ds gs before hval hw' hc (hX _ _ _ (by rfl) hx) hsh).mono fun e W' ⟨v,he,hp⟩=>?_
 subst he
 exact ChangeSpec.post_blind hp
end Go.AEv
namespace Go.AEv
open Go.ChangeShapes Go.WideShapes
theorem Grown.below {W W':World} (h:Grown W W'):RowKit.Below W.heap.size W W':=⟨h.os,h.tape,h.output,h.size,fun k hk=>h.old k hk⟩
variable {H:Type}{enc:TypeId×Value→H}{P:Program}
theorem zb3 (hl:laidOutB P=true) {W W':World} (hg:Grown W W'):∀ {ts:List TypeId}{vs:List Value}{ds:List (DataW H)}{ps:List MemPlace},(∀ t∈ts,P.readableRec t=true∧t<P.types.size) →
  DataW.TrodAll enc P W 0 (fun _=>true) true ts vs ds ps→(∀ y∈ps,y.block<W.heap.size)→DataW.TrodAll enc P W' 0 (fun b=>decide (b<W.heap.size)) true ts vs ds ps:=by
 intro ts
 induction ts with
 | nil=>
  intro vs ds ps _ h _
  obtain ⟨rfl,rfl,rfl⟩:=trodAll_nil h
  exact trodAll_mk0
 | cons t ts ih=>
  intro vs ds ps ht h hp
  obtain ⟨v,vs',d,ds',p,q,rfl,rfl,rfl,h1,h2⟩:=trodAll_cons h
  have a:=ht t List.mem_cons_self
  exact trodAll_cons_mk (RowKit.Below.trod hl a.1 a.2 h1 hg.below fun y hy=>hp y (List.mem_append_left _ hy))
   (ih (fun u hu=>ht u (List.mem_cons_of_mem _ hu)) h2 fun y hy=>hp y (List.mem_append_right _ hy))
def zaO (P:Program) (ts:List TypeId):Bool:=ts.all fun t=>P.readableRec t&&decide (t<P.types.size)
theorem zkM {f:Func}{s:ChangeSpec}{apart fresh handsOn:Bool}{W W':World}{args:Array Value}{ds gs:List (DataW H)}{before:List MemPlace}{tb:TypeId}
  (hl:laidOutB P=true) (hr:zaO P f.params.toList=true) (hvars:s.vars=[]) (hres:f.resultTypes = #[tb]) (htb:P.underlying tb=some .bool)
  (hfn:∀ ds:List (DataW H),ds.length=f.params.size→s.fn H ds={ results:=[.lit (.bool true)],args:=ds })
  (hW:DataW.Whole enc P f.params.toList s.vars apart W args.toList ds gs before) (hg:Grown W W'):s.post enc P f apart fresh handsOn false W args (.bool true) W':=by
 have hlt:=hW.lt
 have hW0:=hW
 obtain ⟨p,q,hA,hV,rfl,_,_⟩:=hW
 rw [hvars]at hV
 obtain ⟨rfl,rfl⟩:=trodVars_none hV
 have hlen:∀ {ts:List TypeId}{vs:List Value}{ds:List (DataW H)}{ps:List MemPlace}{sp:Nat→Bool},DataW.TrodAll enc P W 0 sp true ts vs ds ps→ds.length=ts.length:=by
  intro ts
  induction ts with
  | nil=>intro vs ds ps sp h;obtain ⟨_,rfl,_⟩:=trodAll_nil h;rfl
  | cons t ts ih=>intro vs ds ps sp h;obtain ⟨_,_,_,_,_,_,_,rfl,_,_,h2⟩:=trodAll_cons h;simp [ih h2]
 have e:s.fn H (ds++[])={ results:=[.lit (.bool true)],args:=ds }:=by
  rw [List.append_nil]
  exact hfn ds (by rw [hlen hA];simp)
 refine ⟨ds,[],_,[],p,[],hW0,?_,?_,?_,hg.kept _,fun h=>by cases h⟩
 ·rw [e,hres]
  exact trodAll_mk1 (RowKit.shut_bool htb true)
 ·rw [e]
  refine zb3 hl hg (fun t ht=>?_) hA fun y hy=>hlt y (List.mem_append_left _ hy)
  have:=List.all_eq_true.1 hr t ht
  simpa using this
 ·rw [e,hvars]
  rfl
theorem UL {C:Checked}{os:Os}{f:FuncId}{fn:Func}{s:ChangeSpec}{laid:List (String×DataW Unit)}{tb:TypeId}
  (own:ownKnob C.prog.godebug=none) (started:os.Started) (noInit:C.prog.inits.idxOf? f=none) (hfn:C.prog.funcs[f]? = some fn)
  (hl:laidOutB C.prog=true) (hr:zaO C.prog fn.params.toList=true) (hvars:s.vars=[]) (hres:fn.resultTypes = #[tb]) (htb:C.prog.underlying tb=some .bool)
  (hsp:∀ ds:List (DataW H),ds.length=fn.params.size→s.fn H ds={ results:=[.lit (.bool true)],args:=ds })
  (witness:∃ (w:World) (tape:Tape) (i:Input),w.os=os∧(w.forCall tape i).Shaped C.prog∧i.vars=[]∧Input.okWide C.prog (w.forCall tape i) .any w.heap.size f i ∧
   ((s.pre enc C.prog fn [] false (w.forCall tape i).memory i.args∧laidMetH C.prog laid (w.forCall tape i).memory)∧sizedMet enc C.prog fn (OpenSpec.ofChange s) false (w.forCall tape i).memory i.args)∧({}:Assume).holds C.prog (lone (Frame.enter C.prog f i.args .normal) [] (w.forCall tape i)))
  (calls:∀ (W:World) (base:Nat) (args:Array Value) (ds:List (DataW H)) (ps:List MemPlace),
   (∀ (j:Nat) t v,fn.params[j]? = some t→args[j]? = some v→Value.okWide C.prog W .any base t v) →
   DataW.TrodAll enc C.prog W 0 (fun _=>true) true fn.params.toList args.toList ds ps→laidMetH C.prog laid W→W.ShapedOpen C.prog →
   Calls C.prog f args W fun e W'=>Grown W W'∧e = .returned (.bool true)) :
  ReturnsInHanded {} C os f .any (fun w args=>(s.pre enc C.prog fn [] false w args∧laidMetH C.prog laid w)∧sizedMet enc C.prog fn (OpenSpec.ofChange s) false w args) (s.post enc C.prog fn false true false false):=by
 refine zaG (X:=fun w _=>laidMetH C.prog laid w) (fun _ _ _ hh h=>h.of_heap hh) own started noInit hfn witness ?_
 intro W base args ds gs before hval hW _ hL hsh
 have hW0:=hW
 obtain ⟨p,q,hA,_⟩:=hW
 refine (calls W base args ds p hval hA hL hsh).mono fun e W' hx=>?_
 obtain ⟨hg,rfl⟩:=hx
 exact ⟨_,rfl,zkM hl hr hvars hres htb hsp hW0 hg⟩
end Go.AEv
namespace Go.AEv
set_option linter.unusedSectionVars false
variable [Unk]
noncomputable section
def zhr (nx:Nat) (rin:List (Nat×zo)):Bool:=List.rec true (fun p _ ih=>zq (zq (Nat.ble 100 p.1) (Nat.blt p.1 nx)) ih) rin
def keptIn (t u:Tr zo) (rin:List (Nat×zo)):Bool:=List.rec true (fun p _ ih=>zq (zh (t.get p.1) true fun _=>zh (u.get p.1) false fun _=>true) ih) rin
def qL (E:Env) (nx:Nat) (rin:List (Nat×zo)):zl:=⟨qg rin (jd E.tabs),nx⟩
def zey (E:Env) (fuel:Nat) (f:FuncId) (args:List zb) (nx:Nat) (rin rout:List (Nat×zo)) (v:zb) (n:Nat):Bool:=
 zq (zhr nx rin) (zh (z8 E (qO E fuel) f args (qL E nx rin)) false fun p=>
  zq (qf p.1 v) (zq (Nat.beq p.2.next n) (zq (U8 p.2.blk rout) (keptIn p.2.blk (qg rout .nil) rin))))
end
theorem zaE {nx:Nat}:∀ {rin:List (Nat×zo)},zhr nx rin=true→∀ p∈rin,100≤p.1∧p.1<nx
 | [],_,p,hp=>by cases hp
 | q::l,h,p,hp=>by
  have h:zq (zq (Nat.ble 100 q.1) (Nat.blt q.1 nx)) (zhr nx l)=true:=h
  simp only [zk,Bool.and_eq_true,zE,zO,decide_eq_true_eq]at h
  rcases List.mem_cons.1 hp with rfl | hp
  ·exact h.1
  ·exact zaE h.2 p hp
theorem zbf {t u:Tr zo}:∀ {rin:List (Nat×zo)},keptIn t u rin=true→∀ p∈rin,t.get p.1=none∨∃ b,u.get p.1=some b
 | [],_,p,hp=>by cases hp
 | q::l,h,p,hp=>by
  have h:zq (zh (t.get q.1) true fun _=>zh (u.get q.1) false fun _=>true) (keptIn t u l)=true:=h
  rw [zk,Bool.and_eq_true]at h
  rcases List.mem_cons.1 hp with rfl | hp
  ·cases h1:t.get p.1 with
   | none=>exact .inl rfl
   | some b=>
    cases h2:u.get p.1 with
    | none=>rw [h1,h2]at h;exact absurd h.1 (by simp)
    | some b=>exact .inr ⟨b,rfl⟩
  ·exact zbf h.2 p hp
theorem zdi {E:Env} (hF:Fit E) {β:Inj} (hfacts:zB E β) (hcl:zA E.tabs=true) {fuel:Nat}{f:FuncId}{args:List zb}{nx:Nat}{rin rout:List (Nat×zo)}{v:zb}{n:Nat}
  (h:zey E fuel f args nx rin rout v n=true):zr E.P E.tabs β (.memo f args nx rin rout v n):=by
 unfold zey at h
 rw [zk,Bool.and_eq_true]at h
 obtain ⟨hok,h⟩:=h
 have hok:=zaE hok
 cases hr:z8 E (qO E fuel) f args (qL E nx rin) with
 | none=>rw [hr]at h;cases h
 | some q=>
  rw [hr,zd]at h
  simp only [zk,Bool.and_eq_true,zw,beq_iff_eq]at h
  obtain ⟨h1,h2,h3,h4⟩:=h
  have hv:=zN _ _ h1
  have h3:=WW h3
  have h4:=zbf h4
  intro β' H w hle hR hat htabs hnx hrin hargs
  subst hnx
  have hsub:∀ id b,(qL E H.next rin).blk.get id=some b→H.blk.get id=some b:=by
   intro id b hb
   rcases kP rin _ id b hb with hm | ⟨_,hm⟩
   ·exact hrin _ hm
   ·exact (htabs _ (kt _ _ _ hm)).2
  have hRi:Rel E.P β' (qL E H.next rin) w:=hR.part rfl hsub
  have hG:JT E β' (qL E H.next rin):=by
   refine ⟨hat,hR.base,fun f hf=>(hfacts f hf).mono hle,fun p hp=>?_,Z6 hF.noAlts⟩
   obtain ⟨a1,_,a3⟩:=qA hcl p hp
   refine ⟨a1,?_⟩
   show (qg rin (jd E.tabs)).get p.1=_
   rw [ZF rin _ _ fun p' hp' e=>by have:=(hok p' hp').1;omega]
   exact a3
  refine (zeG hF.toFitA hr hRi hG hargs).mono fun e w2 hx=>?_
  obtain ⟨x,rfl,γ,rfl,a1,a2,a3⟩:=hx
  refine ⟨γ,by rw [hv],by rw [← hv];exact a1,?_⟩
  have hget:∀ id,(∃ b,(id,b)∈rout∧(kS H rin rout n).blk.get id=some b)∨((∀ p∈rout,p.1≠id)∧(kS H rin rout n).blk.get id=(YQ rin H.blk).get id):=by
   intro id
   by_cases hm:∃ p∈rout,p.1=id
   ·obtain ⟨p,hp,rfl⟩:=hm
    obtain ⟨b,hb⟩:=Ks rout (YQ rin H.blk) p hp
    rcases kP rout _ _ _ hb with h | ⟨h,_⟩
    ·exact .inl ⟨b,h,hb⟩
    ·exact absurd rfl (h p hp)
   ·have hm:∀ p∈rout,p.1≠id:=fun p hp e=>hm ⟨p,hp,e⟩
    exact .inr ⟨hm,ZF rout _ id hm⟩
  refine Rel.rest (Hi:=qL E H.next rin) (H':=kS H rin rout n) hR rfl hsub a2 a3 h2.symm ?_ ?_ ?_
  ·intro id hid hno
   have hnr:∀ p∈rin,p.1≠id:=by
    intro p hp e
    obtain ⟨b,hb⟩:=Ks rin (jd E.tabs) p hp
    rw [e]at hb
    rw [show (qL E H.next rin).blk.get id=some b from hb]at hno
    cases hno
   rcases hget id with ⟨b,hb,_⟩ | ⟨_,hb⟩
   ·obtain ⟨b',hb'⟩:=a3.gone id b hid (h3 _ hb)
    rw [hno]at hb';cases hb'
   ·rw [hb,YP rin _ id hnr]
  ·intro id b hid hb
   rcases hget id with ⟨b',hb',hg⟩ | ⟨hn,hg⟩
   ·rw [hg,h3 _ hb']
   ·rw [hg]
    rcases kP rin _ id b hb with hm | ⟨hnr,hm⟩
    ·rw [X7 rin H.blk (id,b) hm]
     rcases h4 _ hm with h5 | ⟨b',h5⟩
     ·exact h5.symm
     ·rcases kP rout _ _ _ h5 with h6 | ⟨_,h6⟩
      ·exact absurd rfl (hn _ h6)
      ·rw [Tr.get_nil]at h6;cases h6
    ·rw [YP rin _ id hnr,hsub id b hb]
     have h60:=(htabs _ (kt _ _ _ hm)).1
     rw [a3.ro id h60];exact hb.symm
  ·intro id b hid hb
   rcases hget id with ⟨b',hb',hg⟩ | ⟨_,hg⟩
   ·rw [hg]at hb;cases hb;exact h3 _ hb'
   ·rw [hg]at hb
    by_cases hm:∃ p∈rin,p.1=id
    ·obtain ⟨p,hp,rfl⟩:=hm
     rw [X7 rin H.blk p hp]at hb;cases hb
    ·rw [YP rin _ id fun p hp e=>hm ⟨p,hp,e⟩]at hb
     have:=hR.live id b hb
     omega
noncomputable section
def YG (l:List (Nat×zo)):List Nat:=List.rec [] (fun p _ ih=>p.1::ih) l
def zjE (N:Nat) (l:List (Nat×zo)):Bool:=List.rec true (fun p _ ih=>zq (zq (Nat.ble N p.1) (zh (kC p.2) true fun _=>false)) ih) l
def XI (E:Env) (fuel:Nat) (f:FuncId) (N:Nat) (args:List zb) (nx:Nat) (rin rout:List (Nat×zo)) (v:zb) (n:Nat):Bool:=
 zq (QD (YG rin)) (zq (QD (YG rout)) (zq (zjE N rout) (zey E fuel f args nx rin rout v n)))
end
theorem zbe:∀ {l:List (Nat×zo)}{p:Nat×zo},p∈l→p.1∈YG l
 | q::l,p,h=>by
  rcases List.mem_cons.1 h with rfl | h
  ·exact List.mem_cons_self
  ·exact List.mem_cons_of_mem _ (zbe h)
theorem Qa:∀ {l:List (Nat×zo)},QD (YG l)=true→∀ t,∀ p∈l,(qg l t).get p.1=some p.2
 | [],_,_,p,hp=>by cases hp
 | q::l,h,t,p,hp=>by
  have h:ifB (za8 q.1 (YG l)) false (QD (YG l))=true:=h
  rw [zm]at h
  split at h
  ·cases h
  ·rename_i hn
   have hn:q.1 ∉ YG l:=fun hm=>hn ((U4 _ _).2 hm)
   have e:qg (q::l) t=(qg l t).set q.1 q.2:=rfl
   rw [e,Tr.zL]
   rcases List.mem_cons.1 hp with hp1 | hp1
   ·rw [hp1,if_pos rfl]
   ·have hne:¬ q.1=p.1:=fun e=>hn (by rw [e];exact zbe hp1)
    rw [if_neg hne]
    exact Qa h t p hp1
theorem Kx {N:Nat}:∀ {l:List (Nat×zo)},zjE N l=true→∀ p∈l,N≤p.1∧(kC p.2).isNone=true
 | [],_,p,hp=>by cases hp
 | q::l,h,p,hp=>by
  have h:zq (zq (Nat.ble N q.1) (zh (kC q.2) true fun _=>false)) (zjE N l)=true:=h
  simp only [zk,Bool.and_eq_true,zE,decide_eq_true_eq]at h
  rcases List.mem_cons.1 hp with rfl | hp
  ·refine ⟨h.1.1,?_⟩
   have h2:=h.1.2
   cases hl:kC p.2 with
   | none=>rfl
   | some x=>rw [hl]at h2;cases h2
  ·exact Kx h.2 p hp
theorem zir {E:Env} (hF:Fit E) {β0 β:Inj}{N:Nat} (hfacts:zB E β0) (hle:β0.le β) (hN:∀ id,N≤id→β0 id=none) (hcl:zA E.tabs=true) {fuel:Nat}{f:FuncId}{segs:List Seg}{args:List zb}{nx:Nat}
  {rin rout:List (Nat×zo)}{v:zb}{n:Nat} (h:XI E fuel f N args nx rin rout v n=true):zr E.P E.tabs β (.memoG f N segs args nx rin rout v n):=by
 unfold XI at h
 simp only [zk,Bool.and_eq_true]at h
 obtain ⟨h1,h2,h3,h4⟩:=h
 refine ⟨β0,hle,hN,zdi hF hfacts hcl h4,Qa h1,Kx h3,Qa h2,fun p hp=>?_⟩
 obtain ⟨c1,c2,c3⟩:=qA hcl p hp
 exact ⟨fun β β' x w hb hb' hr=>W2 hb hb' c2 hr,c3⟩
end Go.AEv
namespace Go.AEv
set_option linter.unusedSectionVars false
structure zg0 (P:Program) (k:IntKind) (t:TypeId) (w w2:World) (s:ByteArray) (v:Value) (x:Nat×Nat×Nat) (arr:Array Value) (fz:Nat×Nat):Prop where
 is:v = .slice (some ⟨x.1,x.2.1,none⟩) s.size x.2.2
 new:w.heap.size≤x.1
 row:w2.heap[x.1]? = some (.cells arr t fz)
 cap:s.size≤x.2.2
 size:x.2.1+x.2.2≤arr.size
 cell:∀ i (b:UInt8),s.data[i]? = some b→arr[x.2.1+i]? = some (.int k b.toNat)
 thaw:∀ i,i<arr.size→¬ (fz.1≤i∧i<fz.2)
 one:ji P t=1
def XR (P:Program) (k:IntKind) (t:TypeId) (w w2:World) (s:ByteArray) (v:Value) (b:Nat):Prop:=∃ x arr fz,x.1=b∧zg0 P k t w w2 s v x arr fz
variable [Unk]
theorem zg0.text {P:Program}{k:IntKind}{t:TypeId}{w w2:World}{s:ByteArray}{v:Value}{x:Nat×Nat×Nat}{arr:Array Value}{fz:Nat×Nat} (h:zg0 P k t w w2 s v x arr fz) {γ:Inj}{q:zb} (hq:WF γ q) (hs:zc γ q = .string s) :
  Zq P γ k t q x.2.1 x.2.2 arr fz:=
 ⟨hq,⟨s,hs,h.cap⟩,h.size,fun i b hb=>h.cell i b (by rw [hs]at hb;exact hb),h.thaw,h.one⟩
theorem Un {P:Program}{γ:Inj}{H':zl}{w w2:World}{b l cp:Nat}{ex:Bool}{r:Row}{s:ByteArray}{k:IntKind} (hR:Rel P γ H' w2) (hb:H'.row b=some r) (hg:(γ b).isSome) (hnew:∀ x,γ b=some x→w.heap.size≤x.1)
  (h1:ji P r.t=1) (hc:cp≤r.n) (hl:l=s.size) (hlc:l≤cp) (hs:∀ i (c:UInt8),s.data[i]? = some c→∃ u,r.c.get i=some u∧zc γ u = .int k c.toNat) :
  XR P k r.t w w2 s (zc γ (.slice b 0 l cp ex)) (γ.blk b):=by
 obtain ⟨x,hx⟩:=Option.isSome_iff_exists.1 hg
 obtain ⟨b0,hb0,ha⟩:=Qh hb
 obtain ⟨arr,fz,h2,h3⟩:=(K0 ha).1 (hR.blk b b0 x hb0 hx)
 have e1:γ.blk b=x.1:=by simp [Inj.blk,hx]
 have e2:γ.sh b=x.2.1:=by simp [Inj.sh,hx]
 have e3:γ.ext b=x.2.2:=by simp [Inj.ext,hx]
 have hz:=h3.size
 rw [h1,Nat.mul_one]at hz
 refine ⟨(x.1,x.2.1,if ex then cp else cp+x.2.2),arr,fz,e1.symm,?_,hnew x hx,h2,?_,?_,?_,h3.thaw,h1⟩
 ·simp [zc,Inj.addr,e1,e2,e3,hl]
 ·show s.size≤if ex=true then cp else cp+x.2.2
  split<;>omega
 ·show x.2.1+(if ex=true then cp else cp+x.2.2)≤arr.size
  split<;>omega
 ·intro i c hc
  obtain ⟨u,hu,hv⟩:=hs i c hc
  rw [← hv]
  exact (h3.cell i u hu).2
def Inj.upto (β:Inj) (N:Nat) (δ:Inj):Inj:=fun id=>if id<N then β id else δ id
theorem upto_low {β δ:Inj}{N id:Nat} (h:id<N):β.upto N δ id=β id:=if_pos h
theorem upto_high {β δ:Inj}{N id:Nat} (h:N≤id):β.upto N δ id=δ id:=if_neg (by omega)
def Q1 (N:Nat) (v:zb):Bool:=match v with | .sym i=>decide (i<N) | .int _ _=>true | .bool _=>true | .str _=>true | .nilslice=>true | _=>false
theorem VG {β γ:Inj}{N:Nat} (hβ:∀ id,id<N→γ id=β id) {v:zb} (h:Q1 N v=true) (hw:WF β v):WF γ v∧zc γ v=zc β v:=by
 cases v
 case sym i=>
  have hi:i<N:=by simpa [Q1] using h
  simp only [WF,zc,hβ i hi]at hw ⊢
  exact ⟨hw,trivial⟩
 all_goals first | (cases h;done) | exact ⟨trivial,rfl⟩ | exact ⟨hw,rfl⟩
theorem KH {P:Program}{tabs:List (Nat×zo)}{β:Inj}{f:FuncId}{args:List zb}{N q:Nat}{t:TypeId}{s:ByteArray} (ha:WFs β args) (hq:q<N) (hw:WF β (.sym q)) (hs:zc β (.sym q) = .string s)
  (hc:∀ w,zU P tabs w→Calls P f (zf β args).toArray w fun e w2=>Grown w w2∧∃ v b,e = .returned v∧XR P .u8 t w w2 s v b) :
  yJ P tabs β f args N 1 [(N,.text t (.sym q))] (.osl N (.sym q)):=by
 refine ⟨ha,fun p hp=>by rw [List.mem_singleton]at hp;subst hp;exact ⟨Nat.le_refl _,Nat.lt_succ_self _,rfl⟩,fun w hwt=>(hc w hwt).mono fun e w2 hx=>?_⟩
 obtain ⟨hg,v,b,rfl,x,arr,fz,rfl,hn⟩:=hx
 refine ⟨hg,β.upto N fun id=>if id=N then some x else none,?_⟩
 have eN:(β.upto N fun id=>if id=N then some x else none) N=some x:=by rw [upto_high (Nat.le_refl _),if_pos rfl]
 obtain ⟨q1,q2⟩:=VG (β:=β) (γ:=β.upto N fun id=>if id=N then some x else none) (N:=N) (fun id hid=>upto_low hid) (v:=.sym q) (by simpa [Q1] using hq) hw
 rw [hs]at q2
 refine ⟨?_,?_,?_⟩
 ·rw [hn.is,zc,q2]
  simp [sOf,Inj.addr,Inj.blk,Inj.sh,Inj.ext,eN]
 ·exact ⟨by rw [eN];rfl,q1,s,q2,by simp only [Inj.ext,eN];exact hn.cap⟩
 ·refine ⟨fun id hid y hy=>by rw [upto_low hid]at hy;exact hy,fun id hid=>by rw [upto_high (by omega),if_neg (by omega)],fun id y hid hy=>?_,fun p hp y hy=>?_,fun p hp p' hp' y y' _ _ _=>?_⟩
  ·rw [upto_high hid]at hy
   split at hy
   ·cases hy;exact hn.new
   ·cases hy
  ·rw [List.mem_singleton]at hp
   subst hp
   rw [eN]at hy
   cases hy
   exact ⟨arr,fz,hn.row,hn.text q1 q2⟩
  ·rw [List.mem_singleton]at hp hp'
   subst hp;subst hp';rfl
def zoZ (b:Nat) (q:Nat):Option ByteArray→zb
 | none=>.nilslice
 | some _=>.osl b (.sym q)
def zo0 (t:TypeId) (b:Nat) (q:Nat):Option ByteArray→List (Nat×zo)
 | none=>[]
 | some _=>[(b,.ints t (.sym q))]
def Vf (P:Program) (k:IntKind) (t:TypeId) (w w2:World) (b:Nat) (v:Value):Option ByteArray→Prop
 | none=>v = .slice none 0 0
 | some s=>XR P k t w w2 s v b
def zow (β:Inj) (q:Nat):Option ByteArray→Prop
 | none=>True
 | some s=>WF β (.sym q)∧zc β (.sym q) = .string s
theorem zm7 {P:Program}{tabs:List (Nat×zo)}{β:Inj}{f:FuncId}{args:List zb}{N q1 q2:Nat}{t:TypeId}{o1 o2:Option ByteArray}{l1 l2:List zb} (ha:WFs β args) (h1:q1<N) (h2:q2<N) (k1:zow β q1 o1) (k2:zow β q2 o2)
  (hl1:∀ v∈l1,Q1 N v=true) (hl2:∀ v∈l2,Q1 N v=true) (hw1:WFs β l1) (hw2:WFs β l2)
  (hc:∀ w,zU P tabs w→Calls P f (zf β args).toArray w fun e w2=>Grown w w2∧∃ v1 v2 b1 b2,b1≠b2∧e = .returned (.agg (zf β l1++v1::v2::zf β l2).toArray)∧Vf P .i64 t w w2 b1 v1 o1∧Vf P .i64 t w w2 b2 v2 o2) :
  yJ P tabs β f args N 2 (zo0 t N q1 o1++zo0 t (N+1) q2 o2) (.agg (l1++zoZ N q1 o1::zoZ (N+1) q2 o2::l2)):=by
 have hmem:∀ p∈zo0 t N q1 o1++zo0 t (N+1) q2 o2,(p=(N,.ints t (.sym q1))∧o1.isSome)∨(p=(N+1,.ints t (.sym q2))∧o2.isSome):=by
  intro p hp
  rcases List.mem_append.1 hp with hp | hp
  ·cases o1 with
   | none=>cases hp
   | some s=>exact .inl ⟨List.mem_singleton.1 hp,rfl⟩
  ·cases o2 with
   | none=>cases hp
   | some s=>exact .inr ⟨List.mem_singleton.1 hp,rfl⟩
 refine ⟨ha,fun p hp=>?_,fun w hwt=>(hc w hwt).mono fun e w2 hx=>?_⟩
 ·rcases hmem p hp with ⟨rfl,_⟩ | ⟨rfl,_⟩
  ·exact ⟨Nat.le_refl _,by show N<N+2;omega,rfl⟩
  ·exact ⟨by show N≤N+1;omega,by show N+1<N+2;omega,rfl⟩
 obtain ⟨hg,v1,v2,b1,b2,hne,rfl,hs1,hs2⟩:=hx
 have pick:∀ {o:Option ByteArray}{v:Value}{b:Nat},Vf P .i64 t w w2 b v o→∃ x:Nat×Nat×Nat,(o.isSome→x.1=b∧∃ s arr fz,o=some s∧zg0 P .i64 t w w2 s v x arr fz):=by
  intro o v b h
  cases o with
  | none=>exact ⟨(0,0,0),fun h=>by cases h⟩
  | some s=>
   obtain ⟨x,arr,fz,e,h⟩:=h
   exact ⟨x,fun _=>⟨e,s,arr,fz,rfl,h⟩⟩
 obtain ⟨x1,hx1⟩:=pick hs1
 obtain ⟨x2,hx2⟩:=pick hs2
 let γ:Inj:=β.upto N fun id=>if id=N∧o1.isSome then some x1 else if id=N+1∧o2.isSome then some x2 else none
 have lo:∀ id,id<N→γ id=β id:=fun id hid=>upto_low hid
 have g1:o1.isSome→γ N=some x1:=fun h=>by
  show β.upto N _ N=_
  rw [upto_high (Nat.le_refl _),if_pos ⟨rfl,h⟩]
 have g2:o2.isSome→γ (N+1)=some x2:=fun h=>by
  show β.upto N _ (N+1)=_
  rw [upto_high (Nat.le_succ _),if_neg (by omega),if_pos ⟨rfl,h⟩]
 have symOk:∀ {q:Nat}{o:Option ByteArray},q<N→zow β q o→∀ s,o=some s→WF γ (.sym q)∧zc γ (.sym q) = .string s:=by
  intro q o hq hk s e
  subst e
  obtain ⟨a,b⟩:=VG (β:=β) (γ:=γ) (N:=N) lo (v:=.sym q) (by simpa [Q1] using hq) hk.1
  exact ⟨a,b.trans hk.2⟩
 have val:∀ {o:Option ByteArray}{v:Value}{b q id:Nat}{x:Nat×Nat×Nat},q<N→zow β q o→Vf P .i64 t w w2 b v o→(o.isSome→γ id=some x)→(o.isSome→x.1=b∧∃ s arr fz,o=some s∧zg0 P .i64 t w w2 s v x arr fz)→WF γ (zoZ id q o)∧zc γ (zoZ id q o)=v:=by
  intro o v b q id x hq hk hs hg hx
  cases o with
  | none=>exact ⟨trivial,hs.symm⟩
  | some s=>
   obtain ⟨_,s',arr,fz,e,hn⟩:=hx rfl
   cases e
   obtain ⟨a1,a2⟩:=symOk hq hk s rfl
   have e:=hg rfl
   refine ⟨⟨by rw [e];rfl,a1,s,a2,by simp only [Inj.ext,e];exact hn.cap⟩,?_⟩
   show zc γ (.osl id (.sym q))=v
   rw [hn.is,zc,a2]
   simp [sOf,Inj.addr,Inj.blk,Inj.sh,Inj.ext,e]
 obtain ⟨c1,c2⟩:=val h1 k1 hs1 g1 hx1
 obtain ⟨d1,d2⟩:=val h2 k2 hs2 g2 hx2
 have lows:∀ l:List zb,(∀ v∈l,Q1 N v=true)→WFs β l→WFs γ l∧zf γ l=zf β l:=by
  intro l
  induction l with
  | nil=>intro _ _;exact ⟨trivial,rfl⟩
  | cons a l ih=>
   intro h hw
   obtain ⟨a1,a2⟩:=VG (β:=β) (γ:=γ) lo (h a List.mem_cons_self) hw.1
   obtain ⟨b1,b2⟩:=ih (fun v hv=>h v (List.mem_cons_of_mem _ hv)) hw.2
   exact ⟨⟨a1,b1⟩,by rw [zf,zf,a2,b2]⟩
 obtain ⟨e1,e2⟩:=lows l1 hl1 hw1
 obtain ⟨f1,f2⟩:=lows l2 hl2 hw2
 refine ⟨hg,γ,?_,?_,?_⟩
 ·simp only [zc]
  rw [yj,e2,zf,zf,c2,d2,f2]
 ·exact Jc e1 ⟨c1,d1,f1⟩
 ·refine ⟨fun id hid y hy=>by rw [lo id hid]at hy;exact hy,fun id hid=>?_,fun id y hid hy=>?_,fun p hp y hy=>?_,fun p hp p' hp' y y' hy hy' e=>?_⟩
  ·show β.upto N _ id=_
   rw [upto_high (by omega),if_neg (by omega),if_neg (by omega)]
  ·replace hy:β.upto N _ id=some y:=hy
   rw [upto_high hid]at hy
   split at hy
   ·rename_i h
    cases hy
    obtain ⟨_,s,arr,fz,_,hn⟩:=hx1 h.2
    exact hn.new
   ·split at hy
    ·rename_i h
     cases hy
     obtain ⟨_,s,arr,fz,_,hn⟩:=hx2 h.2
     exact hn.new
    ·cases hy
  ·rcases hmem p hp with ⟨rfl,ho⟩ | ⟨rfl,ho⟩
   ·obtain ⟨_,s,arr,fz,e,hn⟩:=hx1 ho
    obtain ⟨a1,a2⟩:=symOk h1 k1 s e
    rw [g1 ho]at hy
    cases hy
    exact ⟨arr,fz,hn.row,hn.text a1 a2⟩
   ·obtain ⟨_,s,arr,fz,e,hn⟩:=hx2 ho
    obtain ⟨a1,a2⟩:=symOk h2 k2 s e
    rw [g2 ho]at hy
    cases hy
    exact ⟨arr,fz,hn.row,hn.text a1 a2⟩
  ·rcases hmem p hp with ⟨rfl,ho⟩ | ⟨rfl,ho⟩<;>rcases hmem p' hp' with ⟨rfl,ho'⟩ | ⟨rfl,ho'⟩
   ·rfl
   ·rw [g1 ho]at hy;rw [g2 ho']at hy';cases hy;cases hy'
    exact absurd ((hx1 ho).1.symm.trans (e.trans (hx2 ho').1)) hne
   ·rw [g2 ho]at hy;rw [g1 ho']at hy';cases hy;cases hy'
    exact absurd ((hx1 ho').1.symm.trans (e.symm.trans (hx2 ho).1)) hne
   ·rfl
end Go.AEv
namespace Go.AEv
set_option linter.unusedSectionVars false
def ZK (v:Value):Bool:=match v with | .int _ _=>true | .string _=>true | .bool _=>true | _=>false
section
variable [Unk] {P:Program}{tabs:List (Nat×zo)}{β:Inj}
theorem qU {op:BinOp}{k j:IntKind}{a b r v:zb}{m n:Int} (ha:WF β a) (hb:WF β b) (hr:WF β r) (e1:zc β a = .int k m) (e2:zc β b = .int j n) (h:Jv op k m j n=some v) (hv:zc β v=zc β r):zr P tabs β (.bin op a b r):=by
 refine ⟨ha,hb,hr,by rw [e1];rfl,fun t w=>?_⟩
 rw [e1,e2,← hv]
 exact (zcG h t β w).1
theorem znU {k:IntKind}{a r:zb}{m c:Nat} (ha:WF β a) (hr:WF β r) (e1:zc β a = .int k (m:Nat)) (hc:c≠0) (er:zc β r = .int k (m % c:Nat)):zr P tabs β (.bin .rem a (.int k (.ofNat c)) r):=by
 refine qU (k:=k) (j:=k) (m:=(m:Nat)) (n:=(c:Nat)) ha trivial hr e1 rfl (v:=mkInt k (zgf (m:Nat) (c:Nat))) ?_ ?_
 ·show ifB (KJ (c:Nat) (.ofNat 0)) none (same k k (mkInt k (zgf (m:Nat) (c:Nat))))=_
  have:KJ ((c:Nat):Int) (.ofNat 0)=false:=by
   rw [Z0]
   simpa using hc
  rw [this,ku]
  unfold same
  rw [zm,if_pos ((YH _ _).2 rfl)]
 ·rw [jD,zge,er]
  rfl
theorem zco {n:Int} (h1:-9223372036854775808≤n) (h2:n≤9223372036854775807):IntKind.i64.wrap n=n:=by
 unfold IntKind.wrap
 simp only [IntKind.signed,IntKind.bits,Bool.true_and]
 split
 ·rename_i h
  have h:=of_decide_eq_true h
  omega
 ·rename_i h
  have h:n % 18446744073709551616<9223372036854775808:=by simpa using h
  show n % 18446744073709551616=n
  omega
theorem Xb {n:Int} (h1:0≤n) (h2:n<18446744073709551616):IntKind.u64.wrap n=n:=by
 unfold IntKind.wrap
 simp only [IntKind.signed,IntKind.bits,Bool.false_and]
 show n % 18446744073709551616=n
 omega
theorem Zj {k j:IntKind}{a r:zb}{n:Int} (ha:WF β a) (hr:WF β r) (e1:zc β a = .int j n) (e2:zc β r = .int k n) (h:k.wrap n=n):zr P tabs β (.conv k a r):=
 ⟨ha,hr,j,n,e1,by rw [e2,h]⟩
theorem Q4 {k:IntKind}{a b:zb}{m n:Int}{r:Bool} (ha:WF β a) (hb:WF β b) (e1:zc β a = .int k m) (e2:zc β b = .int k n) (hr:r=(m==n)):zr P tabs β (.eq 1 a b r):=⟨ha,hb,.inl ⟨rfl,k,m,n,e1,e2,hr⟩⟩
theorem Yc {a b:zb}{s t:ByteArray}{r:Bool} (ha:WF β a) (hb:WF β b) (e1:zc β a = .string s) (e2:zc β b = .string t) (hr:r=decide (s=t)):zr P tabs β (.eq 2 a b r):=⟨ha,hb,.inr (.inl ⟨rfl,s,t,e1,e2,hr⟩)⟩
theorem zrn {a b:zb}{s t:Bool}{r:Bool} (ha:WF β a) (hb:WF β b) (e1:zc β a = .bool s) (e2:zc β b = .bool t) (hr:r=(s==t)):zr P tabs β (.eq 3 a b r):=⟨ha,hb,.inr (.inr ⟨rfl,s,t,e1,e2,hr⟩)⟩
theorem zrm {k:IntKind}{a b r:zb}{m n:Int} (ha:WF β a) (hb:WF β b) (hr:WF β r) (e1:zc β a = .int k m) (e2:zc β b = .int k n) (e:zc β r = .int k (if n<m then n else m)):zr P tabs β (.min a b r):=⟨ha,hb,hr,k,m,n,e1,e2,e⟩
theorem JA {a r:zb}{s:ByteArray} (ha:WF β a) (hr:WF β r) (e1:zc β a = .string s) (e2:zc β r = .int .i64 (s.size:Nat)):zr P tabs β (.len a r):=⟨ha,hr,s,e1,e2⟩
theorem Qn {a r:zb}{p:Option Addr}{n c:Nat} (ha:WF β a) (hr:WF β r) (e1:zc β a = .slice p n c) (e2:zc β r = .int .i64 (n:Nat)):zr P tabs β (.slen a r):=⟨ha,hr,p,n,c,e1,e2⟩
theorem zsu {a h r:zb}{p:Option Addr}{n c k:Nat}{j:IntKind} (ha:WF β a) (hh:WF β h) (hr:WF β r) (e1:zc β a = .slice p n c) (e2:zc β h = .int j (Int.ofNat k)) (hk:k≤c) (e3:zc β r = .slice p k c):zr P tabs β (.ssub a h r):=⟨ha,hh,hr,p,n,c,j,k,e1,e2,hk,e3⟩
theorem zvj {a b r:zb}{s t:ByteArray} (ha:WF β a) (hb:WF β b) (hr:WF β r) (e1:zc β a = .string s) (e2:zc β b = .string t) (e:zc β r = .string (s++t)) (h:s.size+t.size≤1000000000):zr P tabs β (.bin .add a b r):=by
 refine ⟨ha,hb,hr,by rw [e1];rfl,fun _ w=>?_⟩
 rw [e1,e2,e]
 show (Op.stringOp .add s t).run P w=_
 have hm:IntKind.i64.max=9223372036854775807:=rfl
 simp only [Op.stringOp]
 rw [if_neg (by rw [hm];omega)]
 rfl
theorem UA {a:zb}{m:Nat}{c:Nat} (ha:WF β a) (e1:zc β a = .int .i64 (m:Nat)) (h:m≤c):zr P tabs β (.bin .gtr a (.int .i64 (.ofNat c)) (.bool false)):=by
 refine qU (k:=.i64) (j:=.i64) (m:=(m:Nat)) (n:=(c:Nat)) ha trivial trivial e1 rfl (v:=jl (ilt (c:Nat) (m:Nat))) rfl ?_
 rw [kz,jX]
 have:decide (((c:Nat):Int)<((m:Nat):Int))=false:=by simpa using h
 rw [this]
theorem qm {w:World}:zU P [] w:=⟨fun id=>some (Unk.place id),fun _ _=>rfl,fun p hp=>by cases hp⟩
end
section
variable [Unk]
theorem znu {v:Value} (h:ZK v=true):∃ z,zW z=v:=by
 cases v<;>first | exact zhd _ _ | exact zhc _ | exact zfg _ | (cases h;done)
noncomputable def codeOf (v:Value):Nat×Nat×Nat:=Classical.epsilon fun z=>zW z=v
theorem zdo {v:Value} (h:ZK v=true):zW (codeOf v)=v:=Classical.epsilon_spec (znu h)
noncomputable def JW (val:Nat→Value):Inj:=fun id=>if 100≤id∧id<300 then some (codeOf (val id)) else none
noncomputable abbrev Bm (val:Nat→Value):Inj:=zH (JW val)
variable {val:Nat→Value}
theorem yP:∀ id z,JW val id=some z→id<300:=by
 intro id z h
 unfold JW at h
 split at h
 ·rename_i h1;omega
 ·cases h
theorem zfu {id:Nat} (h1:100≤id) (h2:id<300):Bm val id=some (codeOf (val id)):=by
 show zH (JW val) id=_
 unfold zH JW
 rw [if_neg (by omega),if_pos ⟨h1,h2⟩]
theorem Qw {id:Nat} (h1:id<100):Bm val id=some (Unk.place id):=by
 show zH (JW val) id=_
 unfold zH
 rw [if_pos h1]
theorem zu {id:Nat} (h2:id<300):WF (Bm val) (.sym id):=by
 by_cases h1:100≤id
 ·simp [WF,zfu h1 h2]
 ·simp [WF,Qw (val:=val) (id:=id) (by omega)]
theorem zoI {id:Nat} (h1:100≤id) (h2:id<300) (hk:ZK (val id)=true):zc (Bm val) (.sym id)=val id:=by
 simp only [zc,zfu h1 h2,Option.getD_some]
 exact zdo hk
theorem zx {id:Nat}{v:Value} (h1:100≤id) (h2:id<300) (e:val id=v) (hk:ZK v=true):zc (Bm val) (.sym id)=v:=by
 rw [zoI h1 h2 (by rw [e];exact hk),e]
theorem kD {id:Nat} (h1:id<100):zc (Bm val) (.sym id)=zW (Unk.place id):=by
 simp only [zc,Qw h1,Option.getD_some]
end
end Go.AEv
namespace Go.AEv
set_option linter.unusedSectionVars false
variable [Unk]
def qt (σ:Inj) (N m:Nat) (pl:Nat→Nat×Nat×Nat):Inj:=fun id=>if N≤id∧id<N+m then some (pl id) else zH σ id
section
variable {E:Env}{σ:Inj}{N m:Nat}{pl:Nat→Nat×Nat×Nat}
theorem ql {id:Nat} (h1:N≤id) (h2:id<N+m):qt σ N m pl id=some (pl id):=if_pos ⟨h1,h2⟩
theorem QY {id:Nat} (h:id<N):qt σ N m pl id=zH σ id:=if_neg (by omega)
theorem jJ (h60:100≤N) (hσ:∀ id x,σ id=some x→id<N):(zH σ).le (qt σ N m pl):=by
 intro id x h
 have hid:id<N:=by
  unfold zH at h
  split at h
  ·omega
  ·exact hσ id x h
 rw [QY hid]
 exact h
theorem zfH (h60:100≤N) (hσ:∀ id x,σ id=some x→id<N) (hcl:zA E.tabs=true) {w:World} (ht:zU E.P E.tabs w) {rin:List (Nat×zo)} (hin:∀ p∈rin,N≤p.1∧p.1<N+m)
  (hblk:∀ p∈rin,zG E.P (qt σ N m pl) p.2 (pl p.1) w) (hinj:∀ p∈rin,∀ q∈rin,(pl p.1).1=(pl q.1).1→p.1=q.1) (hsep:∀ p∈rin,∀ t∈E.tabs,(Unk.place t.1).1≠(pl p.1).1):Rel E.P (qt σ N m pl) (qL E (N+m) rin) w:=by
 have S:Rel E.P (zH σ) (qw E N) w:=zcz h60 hσ hcl ht
 have hle:=jJ (m:=m) (pl:=pl) h60 hσ
 have hget:∀ id b,(qL E (N+m) rin).blk.get id=some b→(id,b)∈rin∨((id,b)∈E.tabs∧id<100∧(qw E N).blk.get id=some b):=by
  intro id b h
  rcases kP rin _ id b h with hm | ⟨_,hm⟩
  ·exact .inl hm
  ·have:=kt _ _ _ hm
   exact .inr ⟨this,(qA hcl _ this).1,hm⟩
 have low:∀ id,id<100→qt σ N m pl id=some (Unk.place id):=fun id h=>by rw [QY (by omega)];exact if_pos h
 refine ⟨by show 100≤N+m;omega,?_,?_,?_,?_⟩
 ·intro id b x h1 h2
  rcases hget id b h1 with hm | ⟨_,h3,h4⟩
  ·obtain ⟨a1,a2⟩:=hin _ hm
   have h2:qt σ N m pl id=some x:=h2
   rw [ql a1 a2]at h2
   cases h2
   exact hblk _ hm
  ·rw [QY (show id<N by omega)]at h2
   exact (S.blk id b x h4 h2).mono hle
 ·intro i j b c x y h1 h2 h3 h4 e
  rcases hget i b h1 with hm | ⟨k1,k2,_⟩<;>rcases hget j c h3 with hn | ⟨l1,l2,_⟩
  ·obtain ⟨a1,a2⟩:=hin _ hm
   obtain ⟨b1,b2⟩:=hin _ hn
   rw [ql a1 a2]at h2
   rw [ql b1 b2]at h4
   cases h2;cases h4
   exact .inl (hinj _ hm _ hn e)
  ·obtain ⟨a1,a2⟩:=hin _ hm
   rw [ql a1 a2]at h2
   rw [low j l2]at h4
   cases h2;cases h4
   exact absurd e.symm (hsep _ hm _ l1)
  ·obtain ⟨b1,b2⟩:=hin _ hn
   rw [ql b1 b2]at h4
   rw [low i k2]at h2
   cases h2;cases h4
   exact absurd e (hsep _ hn _ k1)
  ·exact .inr ⟨k2,l2⟩
 ·intro id x h
  show id<N+m
  by_cases hi:N≤id∧id<N+m
  ·exact hi.2
  ·have h:qt σ N m pl id=some x:=h
   unfold qt at h
   rw [if_neg hi]at h
   unfold zH at h
   split at h
   ·omega
   ·have:=hσ id x h;omega
 ·intro id b h
  show id<N+m
  rcases hget id b h with hm | ⟨_,h3,_⟩
  ·exact (hin _ hm).2
  ·omega
theorem zkT (h60:100≤N) (hσ:∀ id x,σ id=some x→id<N) (hfacts:zB E (zH σ)) (hcl:zA E.tabs=true) (hA:JU E (zH σ)) {rin:List (Nat×zo)} (hin:∀ p∈rin,N≤p.1∧p.1<N+m):JT E (qt σ N m pl) (qL E (N+m) rin):=by
 have hle:=jJ (m:=m) (pl:=pl) h60 hσ
 refine ⟨fun g hg=>by rw [QY (by omega)];exact if_pos hg,by show 100≤N+m;omega,hfacts.mono hle,fun p hp=>?_,hA.mono hle⟩
 obtain ⟨a1,_,a3⟩:=qA hcl p hp
 refine ⟨a1,?_⟩
 show (qg rin (jd E.tabs)).get p.1=_
 rw [ZF rin _ _ fun p' hp' e=>by have:=(hin p' hp').1;omega]
 exact a3
structure zwT (w w2:World) (N m:Nat) (pl:Nat→Nat×Nat×Nat):Prop where
 frame:∀ c,c<w.heap.size→(∀ i,N≤i→i<N+m→(pl i).1≠c)→w2.heap[c]? = w.heap[c]?
 size:w.heap.size≤w2.heap.size
 tape:w2.tape=w.tape
 os:w2.os=w.os
 output:w2.output=w.output
theorem Zc (hF:FitA E) (h60:100≤N) (hσ:∀ id x,σ id=some x→id<N) (hfacts:zB E (zH σ)) (hA:JU E (zH σ)) (hcl:zA E.tabs=true) {w:World} (ht:zU E.P E.tabs w) {rin:List (Nat×zo)} (hin:∀ p∈rin,N≤p.1∧p.1<N+m)
  (hblk:∀ p∈rin,zG E.P (qt σ N m pl) p.2 (pl p.1) w) (hinj:∀ p∈rin,∀ q∈rin,(pl p.1).1=(pl q.1).1→p.1=q.1) (hsep:∀ p∈rin,∀ t∈E.tabs,(Unk.place t.1).1≠(pl p.1).1)
  {fuel:Nat}{f:FuncId}{args:List zb}{r:zb}{H':zl} (h:z8 E (qO E fuel) f args (qL E (N+m) rin)=some (r,H')) (hargs:WFs (qt σ N m pl) args) :
  Calls E.P f (zf (qt σ N m pl) args).toArray w fun e w2=>zwT w w2 N m pl∧∃ γ,e = .returned (zc γ r)∧WF γ r∧(∀ id,id<N+m→γ id=qt σ N m pl id)∧Rel E.P γ H' w2 ∧
   (∀ id x,N+m≤id→γ id=some x→w.heap.size≤x.1∨∃ p∈rin,(pl p.1).1=x.1):=by
 have hR:=zfH h60 hσ hcl ht hin hblk hinj hsep
 have hG:=zkT (pl:=pl) h60 hσ hfacts hcl hA hin
 have hrange:∀ c,Range (qt σ N m pl) (qL E (N+m) rin) c→∃ p∈rin,(pl p.1).1=c:=by
  rintro c ⟨id,b,x,h0,h1,h2,rfl⟩
  rcases kP rin _ id b h1 with hm | ⟨_,hm⟩
  ·obtain ⟨a1,a2⟩:=hin _ hm
   rw [ql a1 a2]at h2
   cases h2
   exact ⟨_,hm,rfl⟩
  ·have:=(qA hcl _ (kt _ _ _ hm)).1
   omega
 refine (zeG hF h hR hG hargs).mono fun e w2 hx=>?_
 obtain ⟨x,rfl,γ,rfl,a1,a2,a3⟩:=hx
 refine ⟨⟨fun c hc hne=>a3.frame c hc fun hr=>?_,a3.size,a3.tape,a3.os,a3.output⟩,γ,rfl,a1,fun id hid=>a3.old id hid,a2,fun id x hid hx=>?_⟩
 ·obtain ⟨p,hp,e⟩:=hrange c hr
  obtain ⟨a1,a2⟩:=hin p hp
  exact hne p.1 a1 a2 e
 ·rcases a3.new id x hid hx with h | h
  ·exact .inl h
  ·exact .inr (hrange _ h)
end
def zD (P:Program) (w:World) (x:Nat×Nat×Nat) (t:TypeId) (vs:List Value):Prop:=
 ∃ arr fz,w.heap[x.1]? = some (.cells arr t fz)∧x.2.1+vs.length+x.2.2*ji P t≤arr.size∧(∀ i,i<arr.size→¬ (fz.1≤i∧i<fz.2))∧ji P t ∣ x.2.1∧∀ j,j<vs.length→arr[x.2.1+j]? = vs[j]?
theorem zD.heap {P:Program}{w w':World}{x:Nat×Nat×Nat}{t:TypeId}{vs:List Value} (h:zD P w x t vs) (e:w'.heap[x.1]? = w.heap[x.1]?):zD P w' x t vs:=by
 unfold zD at h ⊢
 rw [e]
 exact h
theorem QJ (β:Inj) (l:List zb):(zf β l).length=l.length:=by rw [zy,List.length_map]
theorem X8 (β:Inj) (l:List zb) (j:Nat):(zf β l)[j]? = (l[j]?).map (zc β):=by rw [zy,List.getElem?_map]
theorem zD.blk {P:Program}{β:Inj}{w:World}{x:Nat×Nat×Nat}{t n:Nat}{l:List zb} (hn:l.length=n) (hw:WFs β l) (h:zD P w x t (zf β l)):zG P β (.cells t n (Tr.ofList l)) x w:=by
 obtain ⟨arr,fz,h1,h2,h3,h4,h5⟩:=h
 rw [QJ,hn]at h2
 refine ⟨arr,fz,h1,h2,fun i v hv=>?_,h3,h4⟩
 rw [Tr.zY]at hv
 have hi:i<l.length:=(List.getElem?_eq_some_iff.1 hv).1
 refine ⟨(zT _ _).1 hw v (List.mem_of_getElem? hv),?_⟩
 rw [h5 i (by rw [QJ];exact hi),X8,hv]
 rfl
theorem zD.of {P:Program}{β:Inj}{w:World}{x:Nat×Nat×Nat}{t n:Nat}{l:List zb} (hn:l.length=n) (h:zG P β (.cells t n (Tr.ofList l)) x w):zD P w x t (zf β l):=by
 obtain ⟨arr,fz,h1,h2⟩:=h
 refine ⟨arr,fz,h1,?_,h2.thaw,h2.al,fun j hj=>?_⟩
 ·rw [QJ,hn];exact h2.size
 ·rw [QJ]at hj
  rw [X8,List.getElem?_eq_getElem hj]
  exact (h2.cell j _ (by rw [Tr.zY,List.getElem?_eq_getElem hj])).2
theorem zm4 {P:Program}{tabs:List (Nat×zo)}{β0:Inj}{f:FuncId}{args:List zb}{nx n id:Nat}{bl bl':zo}{r:zb} (h1:100≤id) (hle0:nx≤n) (hwr:WF β0 r)
  (hpl:∀ β',WFs β' args→(β' id).isSome)
  (hc:∀ β' w x,β0.le β'→(∀ g,g<100→β' g=some (Unk.place g))→zU P tabs w→(∀ p∈tabs,(Unk.place p.1).1≠x.1)→β' id=some x→zG P β' bl x w→WFs β' args →
   Calls P f (zf β' args).toArray w fun e w2=>e = .returned (zc β' r)∧zG P β' bl' x w2∧(∀ k,k<w.heap.size→k≠x.1→w2.heap[k]? = w.heap[k]?)∧w.heap.size≤w2.heap.size∧w2.tape=w.tape∧w2.os=w.os∧w2.output=w.output) :
  yI P tabs β0 f args nx [(id,bl)] [(id,bl')] r n:=by
 intro β' H w hle hR hat htabs hnx hin hargs
 have hrow:=hin _ List.mem_cons_self
 obtain ⟨x,hx⟩:=Option.isSome_iff_exists.1 (hpl β' hargs)
 have hblk:=hR.blk _ _ _ hrow hx
 have hsep:∀ p∈tabs,(Unk.place p.1).1≠x.1:=by
  intro p hp e
  obtain ⟨t1,t2⟩:=htabs p hp
  have:=hR.yF (.inr h1) t2 (hat _ t1) hrow hx e
  omega
 refine (hc β' w x hle hat ⟨β',hat,fun p hp=>hR.blk p.1 p.2 _ (htabs p hp).2 (hat p.1 (htabs p hp).1)⟩ hsep hx hblk hargs).mono fun e w2 hq=>?_
 obtain ⟨rfl,q1,q5,q6,q7,q8,q9⟩:=hq
 have hget:∀ i,(kS H [(id,bl)] [(id,bl')] n).blk.get i=if id=i then some bl' else H.blk.get i:=by
  intro i
  show (Tr.set (H.blk.del id) id bl').get i=_
  rw [Tr.zL,Tr.qT]
  split<;>simp_all
 have hsame:∀ i b y,id≠i→H.blk.get i=some b→β' i=some y→w2.heap[y.1]? = w.heap[y.1]?:=by
  intro i b y hne hb hy
  exact q5 _ (hR.blk i b y hb hy).lt fun e=>hne (hR.yF (.inl h1) hrow hx hb hy e.symm)
 obtain ⟨wr1,wr2⟩:=WF.mono hle _ hwr
 refine ⟨β',rfl,wr1,?_,?_⟩
 ·refine ⟨Nat.le_trans hR.base (by rw [hnx];exact hle0),?_,?_,?_,?_⟩
  ·intro i b y e1 e2
   rw [hget]at e1
   split at e1
   ·rename_i e
    subst e
    cases e1
    rw [hx]at e2
    cases e2
    exact q1
   ·rename_i hne
    exact (hR.blk i b y e1 e2).heap (hsame i b y hne e1 e2)
  ·intro i j b d y z e1 e2 e3 e4 e
   rw [hget]at e1 e3
   have w1:∃ b',H.blk.get i=some b':=by
    split at e1
    ·rename_i e';subst e';exact ⟨_,hrow⟩
    ·exact ⟨_,e1⟩
   have w2':∃ b',H.blk.get j=some b':=by
    split at e3
    ·rename_i e';subst e';exact ⟨_,hrow⟩
    ·exact ⟨_,e3⟩
   obtain ⟨b1,w1⟩:=w1
   obtain ⟨b2,w2'⟩:=w2'
   exact hR.inj i j b1 b2 y z w1 e2 w2' e4 e
  ·intro i y e
   show i<n
   have:=hR.bnd i y e
   omega
  ·intro i b e
   show i<n
   rw [hget]at e
   split at e
   ·rename_i e';subst e';have:=hR.live _ _ hrow;omega
   ·have:=hR.live _ _ e;omega
 ·refine ⟨fun _ _=>rfl,by rw [hnx];exact hle0,fun i _ hn=>?_,fun i b _ e=>?_,fun i hi=>?_,fun i y hi e=>?_,fun k hk hr=>?_,q6,q7,q8,q9⟩
  ·rw [hget,if_neg]
   rintro rfl
   rw [hx]at hn
   cases hn
  ·rw [hget]at e
   split at e
   ·rename_i e';subst e';exact ⟨_,hrow⟩
   ·exact ⟨_,e⟩
  ·rw [hget,if_neg (by omega)]
  ·have:=hR.bnd i y e;omega
  ·exact q5 k hk fun e=>hr ⟨id,_,x,h1,hrow,hx,e.symm⟩
theorem za6 {P:Program}{tabs:List (Nat×zo)}{β0:Inj}{f:FuncId}{args:List zb}{nx n id t m:Nat}{l l':List zb}{r:zb} (hm:l.length=m) (hm':l'.length=m) (h1:100≤id) (hle0:nx≤n) (hwr:WF β0 r) (hl':WFs β0 l')
  (hpl:∀ β',WFs β' args→(β' id).isSome)
  (hc:∀ β' w x,β0.le β'→(∀ g,g<100→β' g=some (Unk.place g))→zU P tabs w→(∀ p∈tabs,(Unk.place p.1).1≠x.1)→β' id=some x→zD P w x t (zf β' l)→WFs β' args →
   Calls P f (zf β' args).toArray w fun e w2=>e = .returned (zc β' r)∧zD P w2 x t (zf β' l')∧(∀ k,k<w.heap.size→k≠x.1→w2.heap[k]? = w.heap[k]?)∧w.heap.size≤w2.heap.size∧w2.tape=w.tape∧w2.os=w.os∧w2.output=w.output) :
  yI P tabs β0 f args nx [(id,.cells t m (Tr.ofList l))] [(id,.cells t m (Tr.ofList l'))] r n:=by
 intro β' H w hle hR hat htabs hnx hin hargs
 have hrow:=hin _ List.mem_cons_self
 obtain ⟨x,hx⟩:=Option.isSome_iff_exists.1 (hpl β' hargs)
 have hblk:=hR.blk _ _ _ hrow hx
 have hsep:∀ p∈tabs,(Unk.place p.1).1≠x.1:=by
  intro p hp e
  obtain ⟨t1,t2⟩:=htabs p hp
  have:=hR.yF (.inr h1) t2 (hat _ t1) hrow hx e
  omega
 refine (hc β' w x hle hat ⟨β',hat,fun p hp=>hR.blk p.1 p.2 _ (htabs p hp).2 (hat p.1 (htabs p hp).1)⟩ hsep hx (zD.of hm hblk) hargs).mono fun e w2 hq=>?_
 obtain ⟨rfl,q1,q5,q6,q7,q8,q9⟩:=hq
 have hget:∀ i,(kS H [(id,.cells t m (Tr.ofList l))] [(id,.cells t m (Tr.ofList l'))] n).blk.get i=if id=i then some (.cells t m (Tr.ofList l')) else H.blk.get i:=by
  intro i
  show (Tr.set (H.blk.del id) id (.cells t m (Tr.ofList l'))).get i=_
  rw [Tr.zL,Tr.qT]
  split<;>simp_all
 have hsame:∀ i b y,id≠i→H.blk.get i=some b→β' i=some y→w2.heap[y.1]? = w.heap[y.1]?:=by
  intro i b y hne hb hy
  exact q5 _ (hR.blk i b y hb hy).lt fun e=>hne (hR.yF (.inl h1) hrow hx hb hy e.symm)
 obtain ⟨wr1,wr2⟩:=WF.mono hle _ hwr
 obtain ⟨wl1,wl2⟩:=WFs.mono hle _ hl'
 refine ⟨β',rfl,wr1,?_,?_⟩
 ·refine ⟨Nat.le_trans hR.base (by rw [hnx];exact hle0),?_,?_,?_,?_⟩
  ·intro i b y e1 e2
   rw [hget]at e1
   split at e1
   ·rename_i e
    subst e
    cases e1
    rw [hx]at e2
    cases e2
    exact q1.blk hm' wl1
   ·rename_i hne
    exact (hR.blk i b y e1 e2).heap (hsame i b y hne e1 e2)
  ·intro i j b d y z e1 e2 e3 e4 e
   rw [hget]at e1 e3
   have w1:∃ b',H.blk.get i=some b':=by
    split at e1
    ·rename_i e';subst e';exact ⟨_,hrow⟩
    ·exact ⟨_,e1⟩
   have w2':∃ b',H.blk.get j=some b':=by
    split at e3
    ·rename_i e';subst e';exact ⟨_,hrow⟩
    ·exact ⟨_,e3⟩
   obtain ⟨b1,w1⟩:=w1
   obtain ⟨b2,w2'⟩:=w2'
   exact hR.inj i j b1 b2 y z w1 e2 w2' e4 e
  ·intro i y e
   show i<n
   have:=hR.bnd i y e
   omega
  ·intro i b e
   show i<n
   rw [hget]at e
   split at e
   ·rename_i e';subst e';have:=hR.live _ _ hrow;omega
   ·have:=hR.live _ _ e;omega
 ·refine ⟨fun _ _=>rfl,by rw [hnx];exact hle0,fun i _ hn=>?_,fun i b _ e=>?_,fun i hi=>?_,fun i y hi e=>?_,fun k hk hr=>?_,q6,q7,q8,q9⟩
  ·rw [hget,if_neg]
   rintro rfl
   rw [hx]at hn
   cases hn
  ·rw [hget]at e
   split at e
   ·rename_i e';subst e';exact ⟨_,hrow⟩
   ·exact ⟨_,e⟩
  ·rw [hget,if_neg (by omega)]
  ·have:=hR.bnd i y e;omega
  ·exact q5 k hk fun e=>hr ⟨id,_,x,h1,hrow,hx,e.symm⟩
theorem zm3 {P:Program}{tabs:List (Nat×zo)}{β0:Inj}{f:FuncId}{args:List zb}{nx n id t m t' m' k:Nat}{l l':List zb} (hm:l.length=m) (hm':l'.length=m') (h1:100≤id) (h2:id<nx) (hle0:nx<n) (hl':WFs β0 l')
  (hpl:∀ β',WFs β' args→(β' id).isSome)
  (hc:∀ β' w x,β0.le β'→(∀ g,g<100→β' g=some (Unk.place g))→zU P tabs w→(∀ p∈tabs,(Unk.place p.1).1≠x.1)→β' id=some x→zD P w x t (zf β' l)→WFs β' args →
   Calls P f (zf β' args).toArray w fun e w2=>(∃ y:Nat×Nat×Nat,e = .returned (.slice (some ⟨y.1,y.2.1,none⟩) k k)∧w.heap.size≤y.1∧zD P w2 y t' (zf β' l'))∧(∀ c,c<w.heap.size→c≠x.1→w2.heap[c]? = w.heap[c]?)∧w.heap.size≤w2.heap.size∧w2.tape=w.tape∧w2.os=w.os∧w2.output=w.output) :
  yI P tabs β0 f args nx [(id,.cells t m (Tr.ofList l))] [(nx,.cells t' m' (Tr.ofList l'))] (.slice nx 0 k k true) n:=by
 intro β' H w hle hR hat htabs hnx hin hargs
 have hrow:=hin _ List.mem_cons_self
 obtain ⟨x,hx⟩:=Option.isSome_iff_exists.1 (hpl β' hargs)
 have hblk:=hR.blk _ _ _ hrow hx
 have hsep:∀ p∈tabs,(Unk.place p.1).1≠x.1:=by
  intro p hp e
  obtain ⟨t1,t2⟩:=htabs p hp
  have:=hR.yF (.inr h1) t2 (hat _ t1) hrow hx e
  omega
 refine (hc β' w x hle hat ⟨β',hat,fun p hp=>hR.blk p.1 p.2 _ (htabs p hp).2 (hat p.1 (htabs p hp).1)⟩ hsep hx (zD.of hm hblk) hargs).mono fun e w2 hq=>?_
 obtain ⟨⟨y,rfl,q0,q1⟩,q5,q6,q7,q8,q9⟩:=hq
 subst hnx
 have hf:β' H.next=none:=hR.fresh (Nat.le_refl _)
 have hle':β'.le (β'.put H.next y):=Inj.ky hf
 have eN:(β'.put H.next y) H.next=some y:=Inj.zM _ _ _
 have hget:∀ i,(kS H [(id,.cells t m (Tr.ofList l))] [(H.next,.cells t' m' (Tr.ofList l'))] n).blk.get i=if H.next=i then some (.cells t' m' (Tr.ofList l')) else if id=i then none else H.blk.get i:=by
  intro i
  show (Tr.set (H.blk.del id) H.next (.cells t' m' (Tr.ofList l'))).get i=_
  rw [Tr.zL,Tr.qT]
 have old:∀ i z,i≠H.next→β'.put H.next y i=some z→β' i=some z:=fun i z h1 h2=>by rw [Inj.z9 _ _ h1]at h2;exact h2
 have hsame:∀ i b z,id≠i→H.blk.get i=some b→β' i=some z→w2.heap[z.1]? = w.heap[z.1]?:=by
  intro i b z hne hb hz
  exact q5 _ (hR.blk i b z hb hz).lt fun e=>hne (hR.yF (.inl h1) hrow hx hb hz e.symm)
 obtain ⟨wl1,wl2⟩:=WFs.mono hle _ hl'
 obtain ⟨wl3,wl4⟩:=WFs.mono hle' _ wl1
 refine ⟨β'.put H.next y,?_,⟨by rw [eN];rfl,Nat.le_refl _⟩,?_,?_⟩
 ·simp [zc,Inj.addr,Inj.blk,Inj.sh,eN]
 ·refine ⟨Nat.le_trans hR.base (Nat.le_of_lt hle0),?_,?_,?_,?_⟩
  ·intro i b z e1 e2
   rw [hget]at e1
   split at e1
   ·rename_i e
    subst e
    cases e1
    rw [eN]at e2
    cases e2
    exact zD.blk hm' wl3 (by rw [wl4];exact q1)
   ·rename_i hne
    split at e1
    ·cases e1
    ·rename_i hne2
     have e2:=old i z (fun h=>hne h.symm) e2
     exact ((hR.blk i b z e1 e2).heap (hsame i b z hne2 e1 e2)).mono hle'
  ·intro i j b d z u e1 e2 e3 e4 e
   rw [hget]at e1 e3
   split at e1<;>split at e3
   ·rename_i a1 a2;exact .inl (a1.symm.trans a2)
   ·rename_i a1 a2
    subst a1
    split at e3
    ·cases e3
    ·rw [eN]at e2
     cases e2
     have:=(hR.blk j d u e3 (old j u (fun h=>a2 h.symm) e4)).lt
     omega
   ·rename_i a1 a2
    subst a2
    split at e1
    ·cases e1
    ·rw [eN]at e4
     cases e4
     have:=(hR.blk i b z e1 (old i z (fun h=>a1 h.symm) e2)).lt
     omega
   ·rename_i a1 a2
    split at e1
    ·cases e1
    ·split at e3
     ·cases e3
     ·exact hR.inj i j b d z u e1 (old i z (fun h=>a1 h.symm) e2) e3 (old j u (fun h=>a2 h.symm) e4) e
  ·intro i z e
   show i<n
   by_cases hi:i=H.next
   ·omega
   ·have:=hR.bnd i z (old i z hi e);omega
  ·intro i b e
   show i<n
   rw [hget]at e
   split at e
   ·omega
   ·split at e
    ·cases e
    ·have:=hR.live _ _ e;omega
 ·refine ⟨fun i hi=>Inj.z9 _ _ (by omega),Nat.le_of_lt hle0,fun i hi hn=>?_,fun i b hi e=>?_,fun i hi=>?_,fun i z hi e=>?_,fun c hc hr=>?_,q6,q7,q8,q9⟩
  ·rw [hget,if_neg (by omega),if_neg]
   rintro rfl
   rw [hx]at hn
   cases hn
  ·rw [hget,if_neg (by omega)]at e
   split at e
   ·cases e
   ·exact ⟨_,e⟩
  ·have:=hR.base
   rw [hget,if_neg (by omega),if_neg (by omega)]
  ·by_cases h:i=H.next
   ·subst h
    rw [eN]at e
    cases e
    exact .inl q0
   ·have:=hR.bnd i z (old i z h e);omega
  ·exact q5 c hc fun e=>hr ⟨id,_,x,h1,hrow,hx,e.symm⟩
end Go.AEv
namespace Go.AEv
set_option linter.unusedSectionVars false
variable [Unk]
theorem W1:∀ (l:List (Nat×zo)) (t:Tr zo) (i:Nat),(kS ⟨t,0⟩ l [] 0).blk.get i=if l.any (fun p=>Nat.beq p.1 i) then none else t.get i
 | [],t,i=>rfl
 | p::l,t,i=>by
  have ih:=W1 l t i
  show (Tr.del (kS ⟨t,0⟩ l [] 0).blk p.1).get i=_
  rw [Tr.qT,ih]
  by_cases h:p.1=i
  ·subst h;simp
  ·have e:Nat.beq p.1 i=false:=by rw [zw];simpa using h
   have e2:(p::l).any (fun p=>Nat.beq p.1 i)=l.any (fun p=>Nat.beq p.1 i):=by rw [List.any_cons,e,Bool.false_or]
   rw [if_neg h,e2]
theorem zk0 {P:Program}{tabs:List (Nat×zo)}{β0:Inj}{f:FuncId}{args:List zb}{nx n:Nat}{rin:List (Nat×zo)}{r:zb} (h1:∀ p∈rin,100≤p.1) (hle0:nx≤n) (hwr:WF β0 r)
  (hpl:∀ β' w,β0.le β'→WFs β' args→(∀ p∈rin,∀ x,β' p.1=some x→zG P β' p.2 x w)→∀ p∈rin,(β' p.1).isSome)
  (hc:∀ β' w,β0.le β'→(∀ g,g<100→β' g=some (Unk.place g))→zU P tabs w→(∀ p∈rin,∃ x,β' p.1=some x∧zG P β' p.2 x w∧∀ t∈tabs,(Unk.place t.1).1≠x.1)→(∀ p∈rin,∀ q∈rin,∀ x y,β' p.1=some x→β' q.1=some y→x.1=y.1→p.1=q.1)→WFs β' args →
   Calls P f (zf β' args).toArray w fun e w2=>e = .returned (zc β' r)∧(∀ k,k<w.heap.size→(∀ p∈rin,∀ x,β' p.1=some x→k≠x.1)→w2.heap[k]? = w.heap[k]?)∧w.heap.size≤w2.heap.size∧w2.tape=w.tape∧w2.os=w.os∧w2.output=w.output) :
  yI P tabs β0 f args nx rin [] r n:=by
 intro β' H w hle hR hat htabs hnx hin hargs
 have hsome:=hpl β' w hle hargs (fun p hp x hx=>hR.blk _ _ _ (hin p hp) hx)
 have hrow:∀ p∈rin,∃ x,β' p.1=some x∧zG P β' p.2 x w∧∀ t∈tabs,(Unk.place t.1).1≠x.1:=by
  intro p hp
  obtain ⟨x,hx⟩:=Option.isSome_iff_exists.1 (hsome p hp)
  refine ⟨x,hx,hR.blk _ _ _ (hin p hp) hx,fun t ht e=>?_⟩
  obtain ⟨t1,t2⟩:=htabs t ht
  have:=hR.yF (.inr (h1 p hp)) t2 (hat _ t1) (hin p hp) hx e
  have:=h1 p hp
  omega
 have hdist:∀ p∈rin,∀ q∈rin,∀ x y,β' p.1=some x→β' q.1=some y→x.1=y.1→p.1=q.1:=fun p hp q hq x y hx hy e=>hR.yF (.inl (h1 p hp)) (hin p hp) hx (hin q hq) hy e
 refine (hc β' w hle hat ⟨β',hat,fun p hp=>hR.blk p.1 p.2 _ (htabs p hp).2 (hat p.1 (htabs p hp).1)⟩ hrow hdist hargs).mono fun e w2 hq=>?_
 obtain ⟨rfl,q5,q6,q7,q8,q9⟩:=hq
 have hget:∀ i,(kS H rin [] n).blk.get i=if rin.any (fun p=>Nat.beq p.1 i) then none else H.blk.get i:=fun i=>W1 rin H.blk i
 have hkeep:∀ i b,(kS H rin [] n).blk.get i=some b→H.blk.get i=some b∧∀ p∈rin,p.1≠i:=by
  intro i b e
  rw [hget]at e
  split at e
  ·cases e
  ·rename_i hn
   refine ⟨e,fun p hp h=>hn ?_⟩
   rw [List.any_eq_true]
   exact ⟨p,hp,by rw [zw];simpa using h⟩
 have hsame:∀ i b y,(∀ p∈rin,p.1≠i)→H.blk.get i=some b→β' i=some y→w2.heap[y.1]? = w.heap[y.1]?:=by
  intro i b y hne hb hy
  refine q5 _ (hR.blk i b y hb hy).lt fun p hp x hx e=>?_
  exact hne p hp (hR.yF (.inl (h1 p hp)) (hin p hp) hx hb hy e.symm)
 obtain ⟨wr1,wr2⟩:=WF.mono hle _ hwr
 refine ⟨β',rfl,wr1,?_,?_⟩
 ·refine ⟨Nat.le_trans hR.base (by rw [hnx];exact hle0),?_,?_,?_,?_⟩
  ·intro i b y e1 e2
   obtain ⟨g1,g2⟩:=hkeep i b e1
   exact (hR.blk i b y g1 e2).heap (hsame i b y g2 g1 e2)
  ·intro i j b d y z e1 e2 e3 e4 e
   exact hR.inj i j b d y z (hkeep i b e1).1 e2 (hkeep j d e3).1 e4 e
  ·intro i y e
   show i<n
   have:=hR.bnd i y e
   omega
  ·intro i b e
   show i<n
   have:=hR.live _ _ (hkeep i b e).1
   omega
 ·refine ⟨fun _ _=>rfl,by rw [hnx];exact hle0,fun i hi hn=>?_,fun i b _ e=>⟨b,(hkeep i b e).1⟩,fun i hi=>?_,fun i y hi e=>?_,fun k hk hr=>?_,q6,q7,q8,q9⟩
  ·rw [hget,if_neg]
   rw [List.any_eq_true]
   rintro ⟨p,hp,h⟩
   have h:p.1=i:=by rw [zw]at h;simpa using h
   have:=hsome p hp
   rw [h,hn]at this
   cases this
  ·rw [hget,if_neg]
   rw [List.any_eq_true]
   rintro ⟨p,hp,h⟩
   have h:p.1=i:=by rw [zw]at h;simpa using h
   have:=h1 p hp
   omega
  ·have:=hR.bnd i y e;omega
  ·refine q5 k hk fun p hp x hx e=>hr ⟨p.1,_,x,h1 p hp,hin p hp,hx,e.symm⟩
theorem zm2 {P:Program}{tabs:List (Nat×zo)}{β0:Inj}{f:FuncId}{args:List zb}{nx n:Nat}{rin:List (Nat×zo)}{o:Nat×zo}{r:zb} (h1:∀ p∈rin,100≤p.1) (ho:∃ p∈rin,p.1=o.1) (hle0:nx≤n) (hwr:WF β0 r)
  (hpl:∀ β' w,β0.le β'→WFs β' args→(∀ p∈rin,∀ x,β' p.1=some x→zG P β' p.2 x w)→∀ p∈rin,(β' p.1).isSome)
  (hc:∀ β' w,β0.le β'→(∀ g,g<100→β' g=some (Unk.place g))→zU P tabs w→(∀ p∈rin,∃ x,β' p.1=some x∧zG P β' p.2 x w∧∀ t∈tabs,(Unk.place t.1).1≠x.1)→(∀ p∈rin,∀ q∈rin,∀ x y,β' p.1=some x→β' q.1=some y→x.1=y.1→p.1=q.1)→WFs β' args →
   Calls P f (zf β' args).toArray w fun e w2=>e = .returned (zc β' r)∧(∀ k,k<w.heap.size→(∀ p∈rin,∀ x,β' p.1=some x→k≠x.1)→w2.heap[k]? = w.heap[k]?)∧w.heap.size≤w2.heap.size∧w2.tape=w.tape∧w2.os=w.os∧w2.output=w.output∧∀ x,β' o.1=some x→zG P β' o.2 x w2) :
  yI P tabs β0 f args nx rin [o] r n:=by
 intro β' H w hle hR hat htabs hnx hin hargs
 have hsome:=hpl β' w hle hargs (fun p hp x hx=>hR.blk _ _ _ (hin p hp) hx)
 have hrow:∀ p∈rin,∃ x,β' p.1=some x∧zG P β' p.2 x w∧∀ t∈tabs,(Unk.place t.1).1≠x.1:=by
  intro p hp
  obtain ⟨x,hx⟩:=Option.isSome_iff_exists.1 (hsome p hp)
  refine ⟨x,hx,hR.blk _ _ _ (hin p hp) hx,fun t ht e=>?_⟩
  obtain ⟨t1,t2⟩:=htabs t ht
  have:=hR.yF (.inr (h1 p hp)) t2 (hat _ t1) (hin p hp) hx e
  have:=h1 p hp
  omega
 have hdist:∀ p∈rin,∀ q∈rin,∀ x y,β' p.1=some x→β' q.1=some y→x.1=y.1→p.1=q.1:=fun p hp q hq x y hx hy e=>hR.yF (.inl (h1 p hp)) (hin p hp) hx (hin q hq) hy e
 refine (hc β' w hle hat ⟨β',hat,fun p hp=>hR.blk p.1 p.2 _ (htabs p hp).2 (hat p.1 (htabs p hp).1)⟩ hrow hdist hargs).mono fun e w2 hq=>?_
 obtain ⟨rfl,q5,q6,q7,q8,q9,q10⟩:=hq
 have hget:∀ i,(kS H rin [o] n).blk.get i=if o.1=i then some o.2 else if rin.any (fun p=>Nat.beq p.1 i) then none else H.blk.get i:=by
  intro i
  show (Tr.set (kS ⟨H.blk,0⟩ rin [] 0).blk o.1 o.2).get i=_
  rw [Tr.zL,W1]
 have hkeep:∀ i b,o.1≠i→(kS H rin [o] n).blk.get i=some b→H.blk.get i=some b∧∀ p∈rin,p.1≠i:=by
  intro i b hi e
  rw [hget,if_neg hi]at e
  split at e
  ·cases e
  ·rename_i hn
   refine ⟨e,fun p hp h=>hn ?_⟩
   rw [List.any_eq_true]
   exact ⟨p,hp,by rw [zw];simpa using h⟩
 have hsame:∀ i b y,(∀ p∈rin,p.1≠i)→H.blk.get i=some b→β' i=some y→w2.heap[y.1]? = w.heap[y.1]?:=by
  intro i b y hne hb hy
  refine q5 _ (hR.blk i b y hb hy).lt fun p hp x hx e=>?_
  exact hne p hp (hR.yF (.inl (h1 p hp)) (hin p hp) hx hb hy e.symm)
 obtain ⟨po,hpo,epo⟩:=ho
 have hold:∀ i b,(kS H rin [o] n).blk.get i=some b→∃ b',H.blk.get i=some b':=by
  intro i b e
  by_cases hi:o.1=i
  ·exact ⟨po.2,by rw [← hi,← epo];exact hin po hpo⟩
  ·exact ⟨b,(hkeep i b hi e).1⟩
 obtain ⟨wr1,wr2⟩:=WF.mono hle _ hwr
 refine ⟨β',rfl,wr1,?_,?_⟩
 ·refine ⟨Nat.le_trans hR.base (by rw [hnx];exact hle0),?_,?_,?_,?_⟩
  ·intro i b y e1 e2
   by_cases hi:o.1=i
   ·subst hi
    rw [hget,if_pos rfl]at e1
    cases e1
    exact q10 y e2
   ·obtain ⟨g1,g2⟩:=hkeep i b hi e1
    exact (hR.blk i b y g1 e2).heap (hsame i b y g2 g1 e2)
  ·intro i j b d y z e1 e2 e3 e4 e
   obtain ⟨b',e1⟩:=hold i b e1
   obtain ⟨d',e3⟩:=hold j d e3
   exact hR.inj i j b' d' y z e1 e2 e3 e4 e
  ·intro i y e
   show i<n
   have:=hR.bnd i y e
   omega
  ·intro i b e
   show i<n
   obtain ⟨b',e⟩:=hold i b e
   have:=hR.live _ _ e
   omega
 ·refine ⟨fun _ _=>rfl,by rw [hnx];exact hle0,fun i hi hn=>?_,fun i b _ e=>hold i b e,fun i hi=>?_,fun i y hi e=>?_,fun k hk hr=>?_,q6,q7,q8,q9⟩
  ·have hoi:o.1≠i:=by
    rintro rfl
    have:=hsome po hpo
    rw [epo,hn]at this
    cases this
   rw [hget,if_neg hoi,if_neg]
   rw [List.any_eq_true]
   rintro ⟨p,hp,h⟩
   have h:p.1=i:=by rw [zw]at h;simpa using h
   have:=hsome p hp
   rw [h,hn]at this
   cases this
  ·have hoi:o.1≠i:=by
    have:=h1 po hpo
    omega
   rw [hget,if_neg hoi,if_neg]
   rw [List.any_eq_true]
   rintro ⟨p,hp,h⟩
   have h:p.1=i:=by rw [zw]at h;simpa using h
   have:=h1 p hp
   omega
  ·have:=hR.bnd i y e;omega
  ·refine q5 k hk fun p hp x hx e=>hr ⟨p.1,_,x,h1 p hp,hin p hp,hx,e.symm⟩
end Go.AEv
namespace Go.AEv
set_option linter.unusedSectionVars false
noncomputable section
def okE (v:zb):Bool:=match v with | .int k n=>zq (XB k) (zq (j8 (ilt n (.ofNat 0))) (j8 (ilt (.ofNat 64) n))) | .sym i=>zq (Nat.ble 132 i) (Nat.blt i 140) | _=>false
def zc6 (v:zb):Bool:=match v with | .int k n=>zq (XB k) (KJ n (.ofNat 0)) | _=>false
def zaT (r:Row) (l cp:Nat):Bool:=zq (Nat.beq r.t 3) (zq (Nat.ble cp r.n) (zq (Nat.ble l cp) (zq (Nat.blt 0 l) (zh (Tr.Ji l r.c 0) false fun cs=>ifB (Nat.ble l 5) (Qq okE cs) (zq (Nat.beq l 64) (Qq zc6 cs))))))
def zmM (b:Nat) (v:zb) (H:zl):Bool:=zh (zdw v) false fun q=>zq (zq (Nat.ble 142 q) (Nat.blt q 144)) (zh (H.blk.get b) false fun k=>zh (zeE k) false fun p=>zq (Nat.beq p.1 3) (qf p.2 v))
def Ky (H:zl) (v:zb):Bool:=
 match v with
 | .nilslice=>true
 | .slice b o l cp _=>zq (Nat.beq o 0) (zq (Nat.ble 300 b) (zh (H.row b) false fun r=>zaT r l cp))
 | .osl b s=>zq (Nat.ble 300 b) (zmM b s H)
 | _=>false
def j5 (v:zb):Option Nat:=match v with | .slice b _ _ _ _=>some b | .osl b _=>some b | _=>none
def zo6 (v w:zb):Bool:=zh (j5 v) true fun b=>zh (j5 w) true fun c=>j8 (Nat.beq b c)
end
def yi (val:Nat→Value) (u:zb):Nat:=match u with | .int _ n=>n.toNat | .sym i=>zfT (val i) | _=>0
def elems (val:Nat→Value) (cs:List zb):ByteArray:=⟨(cs.map fun u=>UInt8.ofNat (yi val u)).toArray⟩
def ZU:ByteArray:=⟨(List.replicate 64 0).toArray⟩
def Small (s:ByteArray):Prop:=0<s.size∧((s.size≤5∧∀ (i:Nat) (c:UInt8),s.data[i]? = some c→c.toNat≤64)∨s=ZU)
noncomputable def Y6 (val:Nat→Value) (H:zl) (v:zb):Option ByteArray:=
 match v with
 | .slice b _ l _ _=>some (elems val (((H.row b).bind fun r=>Tr.Ji l r.c 0).getD []))
 | .osl _ (.sym q)=>some (sOf (val q))
 | _=>none
def kZ (o:Option ByteArray):Prop:=∀ s,o=some s→Small s
structure zcm (val:Nat→Value):Prop where
 el:∀ i,132≤i→i<140→∃ n:Nat,n≤64∧val i = .int .i64 (n:Nat)
 st:∀ q,142≤q→q<144→∃ s,val q = .string s∧Small s
section
variable [Unk] {P:Program}{val:Nat→Value}
theorem zmP {γ:Inj} (hv:zcm val) (hlow:∀ id,id<300→γ id=Bm val id) {u:zb} (h:okE u=true):yi val u≤64∧zc γ u = .int .i64 (yi val u:Nat):=by
 cases u<;>simp only [okE]at h<;>first | (cases h;done) | skip
 ·rename_i k n
  simp only [zk,Bool.and_eq_true,qy,kz]at h
  obtain ⟨h1,h2,h3⟩:=h
  have h1:=yE h1
  subst h1
  have h2:¬ (n<0):=by simpa using h2
  have h3:¬ ((64:Int)<n):=by
   have:=h3
   simp only [Bool.not_eq_true',decide_eq_false_iff_not]at this
   exact this
  refine ⟨by simp only [yi];omega,?_⟩
  simp only [zc,yi]
  congr 1
  omega
 ·rename_i i
  simp only [zk,Bool.and_eq_true,zE,zO,decide_eq_true_eq]at h
  obtain ⟨n,hn,e⟩:=hv.el i h.1 h.2
  have e2:yi val (.sym i)=n:=by simp [yi,e,zfT]
  refine ⟨by rw [e2];exact hn,?_⟩
  rw [e2]
  have:zc γ (.sym i)=zc (Bm val) (.sym i):=by simp only [zc,hlow i (by omega)]
  rw [this]
  exact zx (by omega) (by omega) e rfl
theorem WZ (cs:List zb):(elems val cs).size=cs.length:=by simp [elems,ByteArray.size]
theorem zdl (cs:List zb) (i:Nat):(elems val cs).data[i]? = (cs[i]?).map fun u=>UInt8.ofNat (yi val u):=by simp [elems]
theorem zgi {γ:Inj}{u:zb} (h:zc6 u=true):yi val u=0∧zc γ u = .int .i64 (yi val u:Nat):=by
 cases u<;>simp only [zc6]at h<;>first | (cases h;done) | skip
 rename_i k n
 rw [zk,Bool.and_eq_true,Z0]at h
 have h1:=yE h.1
 subst h1
 have h2:n=0:=by simpa using h.2
 subst h2
 exact ⟨rfl,rfl⟩
theorem VC {r:Row}{l cp:Nat} (h:zaT r l cp=true):r.t=3∧cp≤r.n∧l≤cp∧0<l∧∃ cs,Tr.Ji l r.c 0=some cs∧((l≤5∧∀ u∈cs,okE u=true)∨(l=64∧∀ u∈cs,zc6 u=true)):=by
 unfold zaT at h
 simp only [zk,Bool.and_eq_true,zw,beq_iff_eq,zE,zO,decide_eq_true_eq]at h
 obtain ⟨h1,h2,h3,h4,h6⟩:=h
 cases hg:Tr.Ji l r.c 0 with
 | none=>rw [hg]at h6;cases h6
 | some cs=>
  rw [hg,zd,zm]at h6
  refine ⟨h1,h2,h3,h4,cs,rfl,?_⟩
  split at h6
  ·rename_i h5
   rw [decide_eq_true_eq]at h5
   rw [Zp]at h6
   exact .inl ⟨h5,List.all_eq_true.1 h6⟩
  ·rw [Bool.and_eq_true,beq_iff_eq,Zp]at h6
   exact .inr ⟨h6.1,List.all_eq_true.1 h6.2⟩
theorem zxf {γ:Inj} (hv:zcm val) (hlow:∀ id,id<300→γ id=Bm val id) {l:Nat}{cs:List zb} (h:(l≤5∧∀ u∈cs,okE u=true)∨(l=64∧∀ u∈cs,zc6 u=true)):∀ u∈cs,yi val u≤64∧zc γ u = .int .i64 (yi val u:Nat):=by
 intro u hu
 rcases h with ⟨_,h⟩ | ⟨_,h⟩
 ·exact zmP hv hlow (h u hu)
 ·obtain ⟨a,b⟩:=zgi (val:=val) (γ:=γ) (h u hu)
  exact ⟨by omega,b⟩
theorem zfn {γ:Inj} (hv:zcm val) (hlow:∀ id,id<300→γ id=Bm val id) {l:Nat}{cs:List zb} (hl:cs.length=l) (h0:0<l) (h:(l≤5∧∀ u∈cs,okE u=true)∨(l=64∧∀ u∈cs,zc6 u=true)):Small (elems val cs):=by
 refine ⟨by rw [WZ];omega,?_⟩
 rcases h with ⟨h5,h⟩ | ⟨h5,h⟩
 ·refine .inl ⟨by rw [WZ];omega,fun i c hc=>?_⟩
  rw [zdl]at hc
  obtain ⟨u,hu,rfl⟩:=Option.map_eq_some_iff.1 hc
  have:=(zmP hv hlow (h u (List.mem_of_getElem? hu))).1
  rw [UInt8.toNat_ofNat']
  omega
 ·refine .inr ?_
  unfold elems ZU
  have:cs.map (fun u=>UInt8.ofNat (yi val u))=List.replicate 64 0:=by
   rw [List.eq_replicate_iff]
   refine ⟨by rw [List.length_map];omega,fun b hb=>?_⟩
   obtain ⟨u,hu,rfl⟩:=List.mem_map.1 hb
   rw [(zgi (val:=val) (γ:=γ) (h u hu)).1]
   rfl
  rw [this]
theorem zaS {b:Nat}{v:zb}{H:zl} (h:zmM b v H=true):∃ q,v = .sym q∧142≤q∧q<144∧H.blk.get b=some (.ints 3 (.sym q)):=by
 unfold zmM at h
 cases hq:zdw v with
 | none=>rw [hq]at h;cases h
 | some q=>
  rw [hq,zd]at h
  have:=zgJ hq
  subst this
  simp only [zk,Bool.and_eq_true,zE,zO,decide_eq_true_eq]at h
  obtain ⟨⟨h1,h2⟩,h3⟩:=h
  cases hb:H.blk.get b with
  | none=>rw [hb]at h3;cases h3
  | some k=>
   rw [hb,zd]at h3
   cases hk:zeE k with
   | none=>rw [hk]at h3;cases h3
   | some p=>
    rw [hk,zd]at h3
    simp only [Bool.and_eq_true,zw,beq_iff_eq]at h3
    have:=zdy hk
    subst this
    have h4:=zN _ _ h3.2
    refine ⟨q,rfl,h1,h2,?_⟩
    rw [h3.1,h4]
theorem zfr {γ:Inj}{H':zl} (hv:zcm val) (hlow:∀ id,id<300→γ id=Bm val id) {c:zb} (hc:Ky H' c=true):kZ (Y6 val H' c):=by
 intro s hs
 cases c<;>simp only [Ky]at hc<;>first | (cases hc;done) | skip
 ·cases hs
 ·rename_i b o l cp ex
  simp only [zk,Bool.and_eq_true]at hc
  obtain ⟨_,_,h3⟩:=hc
  cases hr:H'.row b with
  | none=>rw [hr]at h3;cases h3
  | some r=>
   rw [hr,zd]at h3
   obtain ⟨_,_,_,a4,cs,a6,a7⟩:=VC h3
   simp only [Y6,hr,Option.bind_some,a6,Option.getD_some,Option.some.injEq]at hs
   subst hs
   have hl:=(Tr.jq _ _ _ _ a6).1
   exact zfn hv hlow hl a4 a7
 ·rename_i b v
  simp only [zk,Bool.and_eq_true]at hc
  obtain ⟨q,rfl,h1,h2,_⟩:=zaS hc.2
  obtain ⟨u,hu,hsm⟩:=hv.st q h1 h2
  simp only [Y6,hu,sOf,Option.some.injEq]at hs
  subst hs
  exact hsm
theorem zme {γ:Inj}{H':zl}{w w2:World} (hv:zcm val) (h1:ji P 3=1) (hR:Rel P γ H' w2) (hnew:∀ id x,300≤id→γ id=some x→w.heap.size≤x.1) (hlow:∀ id,id<300→γ id=Bm val id) {c:zb} (hc:Ky H' c=true) (hw:WF γ c) :
  Vf P .i64 3 w w2 (((j5 c).map γ.blk).getD 0) (zc γ c) (Y6 val H' c):=by
 cases c<;>simp only [Ky]at hc<;>first | (cases hc;done) | skip
 ·rfl
 ·rename_i b o l cp ex
  simp only [zk,Bool.and_eq_true,zw,beq_iff_eq,zE,decide_eq_true_eq]at hc
  obtain ⟨rfl,h2,h3⟩:=hc
  cases hr:H'.row b with
  | none=>rw [hr]at h3;cases h3
  | some r=>
   rw [hr,zd]at h3
   obtain ⟨a1,a2,a3,a4,cs,a6,a7⟩:=VC h3
   have a8:=zxf hv hlow a7
   have hsp:=Tr.jq _ _ _ _ a6
   simp only [Y6,hr,Option.bind_some,a6,Option.getD_some,Vf,j5,Option.map_some]
   have:=Un (P:=P) (γ:=γ) (H':=H') (w:=w) (w2:=w2) (b:=b) (l:=l) (cp:=cp) (ex:=ex) (r:=r) (s:=elems val cs) (k:=.i64) hR hr hw.1 (fun x hx=>hnew b x h2 hx) (by rw [a1];exact h1) a2 (by rw [WZ];exact hsp.1.symm) a3 (fun i c hc=>by
    rw [zdl]at hc
    obtain ⟨u,hu,rfl⟩:=Option.map_eq_some_iff.1 hc
    obtain ⟨k1,k2⟩:=a8 u (List.mem_of_getElem? hu)
    have hi:i<l:=by have:=(List.getElem?_eq_some_iff.1 hu).1;omega
    refine ⟨u,?_,?_⟩
    ·have:=hsp.2 i hi
     rw [Nat.zero_add]at this
     rw [this];exact hu
    ·rw [k2,UInt8.toNat_ofNat',Nat.mod_eq_of_lt (by omega)])
   rw [a1]at this
   exact this
 ·rename_i b v
  simp only [zk,Bool.and_eq_true,zE,decide_eq_true_eq]at hc
  obtain ⟨q,rfl,q1,q2,hb⟩:=zaS hc.2
  obtain ⟨u,hu,hsm⟩:=hv.st q q1 q2
  obtain ⟨x,hx⟩:=Option.isSome_iff_exists.1 hw.1
  obtain ⟨arr,fz,a1,a2⟩:=hR.blk b _ x hb hx
  have e1:γ.blk b=x.1:=by simp [Inj.blk,hx]
  have e2:γ.sh b=x.2.1:=by simp [Inj.sh,hx]
  have e3:γ.ext b=x.2.2:=by simp [Inj.ext,hx]
  have ec:zc γ (.sym q) = .string u:=by
   have:zc γ (.sym q)=zc (Bm val) (.sym q):=by simp only [zc,hlow q (by omega)]
   rw [this]
   exact zx (by omega) (by omega) hu rfl
  simp only [Y6,hu,sOf,Vf,j5,Option.map_some,Option.getD_some]
  refine ⟨x,arr,fz,e1.symm,?_,hnew b x hc.1 hx,a1,?_,a2.size,fun i c hc=>a2.cell i c (by rw [ec];exact hc),a2.thaw,h1⟩
  ·rw [zc,ec]
   simp [sOf,Inj.addr,e1,e2,e3]
  ·obtain ⟨s',hs',hle⟩:=a2.is
   rw [ec]at hs'
   cases hs'
   exact hle
theorem J2 {γ:Inj} (hlow:∀ id,id<300→γ id=Bm val id):∀ {l:List zb},(∀ v∈l,Q1 300 v=true)→WFs (Bm val) l→zf γ l=zf (Bm val) l
 | [],_,_=>rfl
 | a::l,h,hw=>by
  obtain ⟨_,a2⟩:=VG (β:=Bm val) (γ:=γ) hlow (h a List.mem_cons_self) hw.1
  rw [zf,zf,a2,J2 hlow (fun v hv=>h v (List.mem_cons_of_mem _ hv)) hw.2]
theorem zjs {E:Env} (hF:Fit E) (hv:zcm val) (hfacts:zB E (Bm val)) (hcl:zA E.tabs=true) (h1:ji E.P 3=1) {fuel:Nat}{f:FuncId}{args l1 l2:List zb}{c d:zb}{H':zl}
  (hrun:z8 E (qO E fuel) f args (qw E 300)=some (.agg (l1++c::d::l2),H')) (hl1:∀ v∈l1,Q1 300 v=true) (hl2:∀ v∈l2,Q1 300 v=true) (hw1:WFs (Bm val) l1) (hw2:WFs (Bm val) l2)
  (hc:Ky H' c=true) (hd:Ky H' d=true) (hne:zo6 c d=true) (hargs:WFs (Bm val) args) :
  kZ (Y6 val H' c)∧kZ (Y6 val H' d)∧∀ w,zU E.P E.tabs w→Calls E.P f (zf (Bm val) args).toArray w fun e w2=>Grown w w2∧∃ v1 v2 b1 b2,b1≠b2 ∧
   e = .returned (.agg (zf (Bm val) l1++v1::v2::zf (Bm val) l2).toArray)∧Vf E.P .i64 3 w w2 b1 v1 (Y6 val H' c)∧Vf E.P .i64 3 w w2 b2 v2 (Y6 val H' d):=by
 refine ⟨zfr hv (fun _ _=>rfl) hc,zfr hv (fun _ _=>rfl) hd,fun w hw=>?_⟩
 refine (qC hF (by decide) yP hfacts hcl hrun hargs hw).mono fun e w2 hx=>?_
 obtain ⟨hg,γ,rfl,a1,a2,a3,a4⟩:=hx
 have a1:WFs γ (l1++c::d::l2):=a1
 rw [zT]at a1
 have wc:WF γ c:=a1 c (by simp)
 have wd:WF γ d:=a1 d (by simp)
 have s1:=zme hv h1 a3 a4 a2 hc wc
 have s2:=zme hv h1 a3 a4 a2 hd wd
 refine ⟨hg,zc γ c,zc γ d,?_⟩
 have hval:zc γ (.agg (l1++c::d::l2)) = .agg (zf (Bm val) l1++zc γ c::zc γ d::zf (Bm val) l2).toArray:=by
  simp only [zc]
  rw [yj,zf,zf,J2 a2 hl1 hw1,J2 a2 hl2 hw2]
 rw [hval]
 have free:∀ {x:zb}{n:Nat},j5 x=none→Vf E.P .i64 3 w w2 n (zc γ x) (Y6 val H' x)→∀ m,Vf E.P .i64 3 w w2 m (zc γ x) (Y6 val H' x):=by
  intro x n hx h m
  cases x<;>first | (cases hx;done) | exact h
 cases hbc:j5 c with
 | none=>
  rw [hbc]at s1
  exact ⟨_+1,_,Nat.succ_ne_self _,rfl,free hbc s1 _,s2⟩
 | some b=>
  cases hbd:j5 d with
  | none=>
   rw [hbd]at s2
   exact ⟨_,_+1,(Nat.succ_ne_self _).symm,rfl,s1,free hbd s2 _⟩
  | some b'=>
   rw [hbc]at s1
   rw [hbd]at s2
   refine ⟨_,_,?_,rfl,s1,s2⟩
   unfold zo6 at hne
   rw [hbc,hbd,zd,zd,qy,zw]at hne
   have hne:b≠b':=by simpa using hne
   have at_:∀ {x:zb}{n:Nat},j5 x=some n→Ky H' x=true→WF γ x→∃ k y,H'.blk.get n=some k∧γ n=some y∧300≤n:=by
    intro x n hx hok hwx
    cases x<;>simp only [j5]at hx<;>first | (cases hx;done) | skip
    ·cases hx
     simp only [Ky,zk,Bool.and_eq_true,zE,decide_eq_true_eq]at hok
     obtain ⟨_,g2,g3⟩:=hok
     obtain ⟨y,hy⟩:=Option.isSome_iff_exists.1 hwx.1
     cases hr:H'.row n with
     | none=>rw [hr]at g3;cases g3
     | some r=>
      obtain ⟨k,hk,_⟩:=Qh hr
      exact ⟨k,y,hk,hy,g2⟩
    ·cases hx
     simp only [Ky,zk,Bool.and_eq_true,zE,decide_eq_true_eq]at hok
     obtain ⟨q,rfl,_,_,hb⟩:=zaS hok.2
     obtain ⟨y,hy⟩:=Option.isSome_iff_exists.1 hwx.1
     exact ⟨_,y,hb,hy,hok.1⟩
   obtain ⟨k,y,hk,hy,hge⟩:=at_ hbc hc wc
   obtain ⟨k',y',hk',hy',_⟩:=at_ hbd hd wd
   intro e
   have e:y.1=y'.1:=by
    have e1:γ.blk b=y.1:=by simp [Inj.blk,hy]
    have e2:γ.blk b'=y'.1:=by simp [Inj.blk,hy']
    simp only [Option.map_some,Option.getD_some]at e
    rw [← e1,← e2];exact e
   exact hne (a3.yF (.inl (by omega)) hk hy hk' hy' e)
end
end Go.AEv
